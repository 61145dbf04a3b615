/-
  Texts put side by side, by the program: joined.
-/
import Derived.Test.YtpeomfjbcdahnaaGreatDoorTe
import Derived.Test.YtpeomfjbcdahnaaGreatDoorTd
import Derived.Test.YtpeomfjbcdahnaaGreatDoorFi
import Derived.Test.YtpeomfjbcdahnaaGreatDoorTl
import Derived.Test.YtpeomfjbcdahnaaGreatDoorFh
import Derived.Lib.ItoaLen
import Derived.Test.YtpeomfjbcdahnaaGreatDoorTf
set_option linter.unusedSimpArgs false
set_option maxRecDepth 1000000
set_option maxHeartbeats 4000000
set_option linter.unusedVariables false
namespace Fw.Tz.Pj
open Go Go.Proofs Fw.X Fw.Tz Fw.Nu Fw.Tz.Sd Fw.Tz.Na Fw.Tz.El Fw.Tz.Va Fw.Tz.Vb Fw.Tz.Tm
variable {W:World}
abbrev sn(n:Nat):V:=.d (.sN n)
abbrev Dy(n:Nat):List D:=[.sN n]
abbrev cH(d:D):List D:=[d]
theorem Jg(p:List UInt8):∀(ss:List (List UInt8))(ns:List Nat),nt ss ns->(Lib.join ss p).length<=ns.sum+p.length*ns.length
 |[],[],_=>by simp[Lib.join_nil]
 |s::ss,n::ns,h=>by
  have tail:∀(ss:List (List UInt8))(ns:List Nat),nt ss ns->(Lib.joinTail p ss).length<=ns.sum+p.length*ns.length:=by
   intro ss;induction ss with
    |nil=>intro ns h;simp[Lib.joinTail]
    |cons t ss ih=>
     intro ns h;cases ns with
      |nil=>exact h.elim
      |cons m ns=>have:=ih ns h.2;have h1:=h.1;simp only[Lib.joinTail,aaG,acC,aap,abc,aaq]at this⊢;rw[ab_];omega
  have:=tail ss ns h.2;have h1:=h.1;rw[Lib.join_cons,aap,abc,aaq,ab_];omega
 |[],_::_,h=>h.elim
 |_::_,[],h=>h.elim
theorem pH(hW:W0 W)(l:List D)(p:List UInt8)(hp:p.length<=2)(hd:∀d∈l,Cg d=true)(hl:l.length<=1099511627776)(hs:(l.map dN).sum<=70368744177664):PC P (gl W) 65 [.d (.list (l.map cH)),so p] (sn ((l.map dN).sum+p.length*l.length)):=by
 refine PC.args (α:={ss:List (List UInt8) // nt ss (l.map dN)}) (fun ss=>[.d (.list (ss.1.map encS)),so p]) ⟨(l.map dN).map fun _=>[],u9 _⟩ (fun g w vs h=>?_ ) (fun ss=>?_ )
 ·cases vs with
   |nil=>simp only[aM]at h
   |cons x r=>simp only[aM]at h;obtain⟨ss,h1,h2⟩:=RV.sDL hd h.1;exact⟨⟨ss,h1⟩,by simp only[aM];exact⟨h2,h.2⟩⟩
 ·obtain⟨ss,Uz⟩:=ss;have h1:=Jg p ss _ Uz;have h2:=Uz.len;rw[aaC]at h1 h2;have h3:p.length*l.length<=2*l.length:=aa1 _ hp;have hJ:=FD (W:=W) ss p (by omega) (by omega);exact PC.eH (v:=so (Lib.join ss p)) hJ (show(Lib.join ss p).length<=_ by omega)
theorem pI(hW:W0 W)(l:List D)(hd:∀d∈l,Cg d=true)(hl:l.length<=1099511627776)(hs:(l.map dN).sum<=70368744177664):PC P (gl W) 61 [.d (.list (l.map cH))] (sn ((l.map dN).sum+2*l.length)):=by refine CG.start X1 X2 rfl ?_;have hJ:=pH hW l [44,32] (by simp) hd hl hs;refine bc hW 4 1 [] 0 [(2,sE),(3,lo cH l)] (hJ) ?_;exact iM hW 2 0 [] 0 [(2,.d (.sN (List.sum (l.map dN)+2*List.length l)))] (.d (.sN (List.sum (l.map dN)+2*List.length l)))
theorem pJ(hW:W0 W)(ns:List Nat)(hl:ns.length<=1099511627776)(hs:ns.sum<=70368744177664):PC P (gl W) 61 [.d (.list (ns.map Dy))] (sn (ns.sum+2*ns.length)):=by
 have e:(ns.map D.sN).map dN=ns:=by rw[abX];exact List.map_id ns
 have h:=pI hW (ns.map D.sN) (fun d hd=>by obtain⟨n,_,rfl⟩:=abg.1 hd;rfl) (by simpa using hl) (by rw[e];exact hs);rw[e,aaC,abX]at h;exact h
end Fw.Tz.Pj
/-
  Digits written into an own row, and their number.
-/
namespace Fw.Tz.P3
open Go Go.Proofs Go.RowKit Go.Sort Fw.X Fw.Tz
variable {W:World}
theorem pK(hW:W0 W)(u:Nat)(h1:1<=u)(h2:u<18446744073709551616):PC P (gl W) 340 [.d (.int .u64 u)] (.d (.int .i64 (.ofNat (Lib.nDigits u)))):=by
 refine PC.dZ k_ fun g w vs cX hg=>?_
 obtain⟨x,rfl,k1⟩:=cX.mH;obtain rfl:=k1.mI;refine(Tryz.internal_strconv_numDigits u h1 h2 w (yG hW hg)).mono ?_;rintro e w' ⟨rfl,rfl⟩;exact⟨_,rfl,Below.refl _ _,fun _ _=>RV.zj _ _⟩
theorem KI(u:Nat)(h1:1<=u)(h2:u<18446744073709551616):1<=Lib.nDigits u/\Lib.nDigits u<=20:=by
 have:=Lib.numDigits_eq u h1 h2;have h3:1<=Lib.nDigits u:=by unfold Lib.nDigits;split<;>omega
 exact⟨h3,by split at this<;>omega⟩
def Oo(b:UInt8):V:=.d (.int .u8 b.toNat)
def Dz(b:UInt8):Value:=.int .u8 (b.toNat:Int)
theorem GP{l:List UInt8}(h:l≠[]):aJ bY l=.cells (l.map Oo):=by
 have e:(l.flatMap bY).map V.d=l.map Oo:=by unfold bY;rw[JV (fun b:UInt8=>D.int .u8 b.toNat),abX];rfl
 unfold aJ j1;rw[e];cases l with
  |nil=>exact absurd rfl h
  |cons a l=>rfl
theorem GQ(hW:W0 W)(H:ao)(b:Nat)(l:List UInt8)(nd u:Nat)(hb:aA H b=some (aJ bY l))(fp:l≠[])(oa:nd<=l.length)(hu:u<10^nd)(Ma:u<18446744073709551616)(hl:l.length<1048577):WF P (gl W) 341 [.sl b (l.length*1) 0 nd 1,.d (.int .u64 u)] H (fun v H'=>v=.tuple []/\∃l':List UInt8,l'.length=l.length/\H'=aR H b (aJ bY l')):=by
 refine⟨k_,fun g w vs cX hh hg=>?_ ⟩;obtain⟨x,y,rfl,hx,hy⟩:=cX.fJ;obtain rfl:=hy.mI;rw[GP fp]at hb;obtain⟨gb,pR⟩:=hh.back b _ hb;obtain⟨hd,yb,Ld,hr⟩:=hh.live b gb pR;rw[hb]at Ld;simp only[aat]at Ld;subst Ld;simp only[RV]at hx;have ly:=hx.2 gb pR;cases gb with
  |nil=>simp only[RB]at hr
  |obj=>simp only[RB]at hr
  |cells aK cp cur=>
   have cA:=hr.lt aK rfl;simp only[RB,aaC]at hr;obtain⟨r1,r2,r3,c,e,r4,r5,r6⟩:=hr;obtain⟨cap,rfl,k2,k3⟩:=ly.2 (by omega);have qa:∀j (hj:j<l.length),c[j]? =some (Dz l[j]):=by intro j hj;obtain⟨v,L9,xq⟩:=aM.get j r6 (u:=Oo l[j]) (by simp[hj]);simp only[Oo,RV,Rd]at xq;subst xq;rw[aa4,aaD hj]at L9;simpa[Dz]using L9
   have cG:(l.take nd).toArray.size=nd:=by simp[oa]
   have hH:Holds Dz w aK 0 (l.take nd).toArray:=by
    intro j hj;have HW:j<nd:=by omega
    refine⟨?_,by simp[World.frozen?,r4]⟩;have:=qa j (by omega);simp only[World.cell?,r4,aaR];rw[this,acH _ j hj];simp
   have cq:=Tryz.internal_strconv_formatBase10 aK 0 cap u (l.take nd).toArray w hH (by rw[cG];exact hu) Ma (by rw[cG];omega);rw[cG]at cq;refine cq.mono ?_;rintro ee w' ⟨rfl,n,v',dk,rfl,hF⟩;have ZC:dk.size=nd:=hF.size;let w1:World:=(putRow Dz w aK 0 dk).drewN n;have Nz:∀j,j≠aK->w1.heap[j]? =w.heap[j]? :=fun j hj=>by simp only[w1,World.heap_drewN,putRow,mapBlock,abB];rw[aaH (Ne.symm hj)]
   have zm:w1.heap[aK]? =some (.cells (Go.Sort.putCells Dz 0 dk c) e (0,0)):=by simp only[w1,World.heap_drewN,putRow,mapBlock,abB,abJ,r4,aaI,onCells]
   have hlen:(dk.toList++l.drop nd).length=l.length:=by rw[aap,ace,Array.length_toList,ZC];omega
   have Fu:dk.toList++l.drop nd≠[]:=fun h=>fp (abT (by rw[←hlen,h];rfl))
   have zQ:bA g w g w1:=bA.write pR rfl (hh.qL pR rfl) rfl rfl rfl (by simp[w1,putRow,mapBlock]) Nz;have JJ:ax g w1 (aR H b (.cells ((dk.toList++l.drop nd).map Oo))):=by
    refine ax.write hh _ pR rfl zQ Nz ?_;simp only[RB,aaC,hlen];refine⟨r1,aaJ.2 (fun x hx=>by obtain⟨b,_,rfl⟩:=abg.1 hx;rfl),r3,_,e,zm,by simpa[Go.Sort.putCells]using r5,?_ ⟩;refine aM.eN (by simp[Go.Sort.putCells];omega) fun j u v hu hv=>?_
    simp only[aa9,aaB]at hu;obtain⟨s,hs,rfl⟩:=hu;have hj:j<l.length:=by rw[←hlen];exact(aaA.1 hs).1
    rw[aa4,aaD hj]at hv;have UI:j<c.size:=by omega
    have fY:(Go.Sort.putCells Dz 0 dk c)[j]? =some v:=by simpa using hv
    simp only[Go.Sort.putCells,Array.getElem?_mapIdx,Array.getElem?_eq_getElem UI,aaI,aat]at fY;subst fY;simp only[Oo,RV,Rd];by_cases ZD:j<dk.size
    ·rw[aaD ⟨aaO _,by simpa using ZD⟩];have:dk[j - 0]! =s:=by rw[abD (by simpa using ZD)]at hs;have:=(aaA.1 hs).2;rw[acH _ (j - 0) (by simpa using ZD)];simpa using this
     rw[this];rfl
    ·rw[aaH (by rintro⟨_,h⟩;simp at h;omega)];rw[abv (by simp;omega)]at hs;simp only[Array.length_toList,acy]at hs;have e1:nd+(j - dk.size)=j:=by omega
     rw[e1]at hs;have h5:=qa j hj;rw[Array.getElem?_eq_getElem UI]at h5;simp only[aat]at h5;rw[h5];have:=(aaA.1 hs).2;rw[this];rfl
   refine⟨_,tE,g,_,rfl,⟨rfl,_,hlen,rfl⟩,?_,by rw[GP Fu];exact JJ,zQ⟩;simp only[RV];exact⟨#[],rfl,by simp[aM]⟩
end Fw.Tz.P3
/-
  How long names and expressions are that are valid.
-/
namespace Fw.Tz.Ln
open Go Fw.Tz Fw.Nu Fw.Tz.Na Fw.Tz.El Fw.Tz.Va Fw.Tz.Vb
theorem NI{t:List UInt8}(h:C9 t=true):t.length<=9:=by
 cases t with
  |nil=>simp
  |cons d u=>simp only[C9,aas,aaF]at h;rw[aaq];omega
theorem GR{s:List UInt8}(h:fW s=true):s.length<=30:=by
 cases s with
  |nil=>simp
  |cons c t=>
   rw[fW]at h;cases hb:Nat.beq c.toNat 95 with
    |true=>rw[hb,aaw]at h;have:=NI h;grind
    |false=>grind
theorem rj:∀{ts:List Cf}{p:Option (List UInt8)},gP p ts=true->∀t∈ts,t.var.length<=30
 |[],_,_=>by simp
 |t::r,p,h=>by
  simp only[gP,aas]at h;intro x hx;rcases aaX.1 hx with rfl|hx
  ·exact GR h.1.1.1.1
  ·exact rj h.2 x hx
theorem zc{c:Int}(h:dT c=true): -1000000<=c/\c<=1000000:=by unfold dT at h;grind
theorem vv:∀{ts:List Cf}{p:Option (List UInt8)},gP p ts=true->∀t∈ts,-1000000<=t.c/\t.c<=1000000
 |[],_,_=>by simp
 |t::r,p,h=>by
  simp only[gP,aas]at h;intro x hx;rcases aaX.1 hx with rfl|hx
  ·exact zc h.1.1.2
  ·exact vv h.2 x hx
theorem TY{x:aq}(h:dJ x.c x.ts=true):(-1000000<=x.c/\x.c<=1000000)/\∀t∈x.ts,-1000000<=t.c/\t.c<=1000000:=by simp only[dJ,aas,aaF]at h;exact⟨zc h.1.1,vv h.2⟩
theorem Jh{x:aq}(h:dJ x.c x.ts=true):x.ts.length<=12/\∀t∈x.ts,t.var.length<=30:=by simp only[dJ,aas,aaF]at h;exact⟨h.1.2,rj h.2⟩
end Fw.Tz.Ln
/-
  The text of an expression, by the program: its length.
-/
namespace Fw.Tz.P1
open Go Go.Proofs Fw.X Fw.Tz Fw.Nu Fw.Tz.Sd Fw.Tz.Na Fw.Tz.El Fw.Tz.Va Fw.Tz.Vb Fw.Tz.Tm Fw.Tz.Pj Fw.Tz.Ln
variable {W:World}
theorem pL(n:Int)(h0: -9223372036854775808<=n)(h1:n<=9223372036854775807):(Lib.itoa n).length<=21:=Lib.itoa_length_le n h0 h1
theorem GS(s p:List UInt8):(Lib.trimSuffix s p).length<=s.length:=by
 unfold Lib.trimSuffix;split
 ·simp only[abz];omega
 ·exact aaE _
def hS(u:List UInt8):ao:=[some (.cells [so u])]
theorem BW(hW:W0 W)(u s:List UInt8)(n:Int)(hu:u.length<1048576)(hs:s.length<1048576)(h0: -9223372036854775808<=n)(h1:n<=9223372036854775807):WF P (gl W) 211 [io n,so s,.ptr 0 1 0] (hS u) (fun v H'=>v=.tuple []/\∃u':List UInt8,u'.length<=u.length+22+s.length/\H'=hS u'):=by
 refine CG.bX Sg Sh rfl ?_;have hI:=nZ hW n h0 h1;have hl:=pL n h0 h1;have hT:=pz (W:=W) (Lib.itoa n) [49] (by omega);have Vu:=GS (Lib.itoa n) [49];unfold hS;refine bc hW 1 1 [] 7 [(6,io n)] (hI) ?_;refine s1 hW 4 3 [] 7 [(5,so (Lib.itoa n)),(10,bo (!ah s []))] ?_;refine sp (ah s []) (fun gH=>?_ ) (fun gH=>?_ );rw[gH];refine s1 hW 7 3 [false] 14 [(22,bo (!aI n 0))] ?_;refine j4 n 0 (fun iz xi=>?_ ) (fun iz xi=>?_ );rw[iz];refine s1 hW 5 3 [false] 2 [(28,so u),(29,so (Lib.itoa n)),(30,so s)] ?_;refine CG.bm (a:=(Lib.itoa n)) (b:=s) (by(try simp only[aap,aaq,aar]);omega) rfl k_ ?_;refine CG.bm (a:=u) (b:=(Lib.itoa n++s)) (by(try simp only[aap,aaq,aar]);omega) rfl k_ ?_;rotate_left;rw[iz];refine s1 hW 2 0 [] 7 [(25,bo (!ah u []))] ?_;refine sp (ah u []) (fun iv=>?_ ) (fun iv=>?_ );refine CG.ar (b:=(!ah u [])) (by rw[iv];rfl) k_ ?_;refine s1 hW 2 3 [] 2 [(28,so u),(29,so (Lib.itoa n)),(30,so s)] ?_;refine CG.bm (a:=(Lib.itoa n)) (b:=s) (by(try simp only[aap,aaq,aar]);omega) rfl k_ ?_;refine CG.bm (a:=u) (b:=(Lib.itoa n++s)) (by(try simp only[aap,aaq,aar]);omega) rfl k_ ?_;rotate_left;refine CG.az (b:=(!ah u [])) (by rw[iv];rfl) k_ ?_;refine s1 hW 0 1 [] 7 [(26,so u)] ?_;refine CG.bm (a:=u) (b:=[43]) (by(try simp only[aap,aaq,aar]);omega) rfl k_ ?_;refine s4 hW 2 3 [] 2 [(28,so (u++[43])),(29,so (Lib.itoa n)),(30,so s)] [(0,.cells [so (u++[43])])] ?_;refine CG.bm (a:=(Lib.itoa n)) (b:=s) (by(try simp only[aap,aaq,aar]);omega) rfl k_ ?_;refine CG.bm (a:=(u++[43])) (b:=(Lib.itoa n++s)) (by(try simp only[aap,aaq,aar]);omega) rfl k_ ?_;rotate_left;rw[gH];refine s1 hW 0 3 [] 31 [(13,bo (aN n 1))] ?_;refine cl n 1 (fun jd Gn=>?_ ) (fun jd Gn=>?_ );rw[jd];refine bc hW 3 1 [true] 15 [(18,so (Lib.itoa n))] (hT) ?_;refine s1 hW 4 3 [] 6 [(5,so (Lib.trimSuffix (Lib.itoa n) [49])),(22,bo (!aI n 0))] ?_;have qz:(aI n 0)=false:=eV;rw[qz];refine s1 hW 2 0 [] 7 [(25,bo (!ah u []))] ?_;refine sp (ah u []) (fun qA=>?_ ) (fun qA=>?_ );refine CG.ar (b:=(!ah u [])) (by rw[qA];rfl) k_ ?_;refine s1 hW 2 3 [] 2 [(28,so u),(29,so (Lib.trimSuffix (Lib.itoa n) [49])),(30,so s)] ?_;refine CG.bm (a:=(Lib.trimSuffix (Lib.itoa n) [49])) (b:=s) (by(try simp only[aap,aaq,aar]);omega) rfl k_ ?_;refine CG.bm (a:=u) (b:=(Lib.trimSuffix (Lib.itoa n) [49]++s)) (by(try simp only[aap,aaq,aar]);omega) rfl k_ ?_;rotate_left;refine CG.az (b:=(!ah u [])) (by rw[qA];rfl) k_ ?_;refine s1 hW 0 1 [] 7 [(26,so u)] ?_;refine CG.bm (a:=u) (b:=[43]) (by(try simp only[aap,aaq,aar]);omega) rfl k_ ?_;refine s4 hW 2 3 [] 2 [(28,so (u++[43])),(29,so (Lib.trimSuffix (Lib.itoa n) [49])),(30,so s)] [(0,.cells [so (u++[43])])] ?_;refine CG.bm (a:=(Lib.trimSuffix (Lib.itoa n) [49])) (b:=s) (by(try simp only[aap,aaq,aar]);omega) rfl k_ ?_;refine CG.bm (a:=(u++[43])) (b:=(Lib.trimSuffix (Lib.itoa n) [49]++s)) (by(try simp only[aap,aaq,aar]);omega) rfl k_ ?_;rotate_left;rw[jd];refine s1 hW 2 0 [] 15 [(17,bo (aN n (-1)))] ?_;refine cl n (-1) (fun qB Av=>?_ ) (fun qB Av=>?_ );refine CG.az qB k_ ?_;refine bc hW 0 1 [] 15 [(18,so (Lib.itoa n))] (hT) ?_;refine s1 hW 4 3 [] 6 [(5,so (Lib.trimSuffix (Lib.itoa n) [49])),(22,bo (!aI n 0))] ?_;have ug:(aI n 0)=true:=fi;rw[ug];refine s1 hW 5 3 [false] 2 [(28,so u),(29,so (Lib.trimSuffix (Lib.itoa n) [49])),(30,so s)] ?_;refine CG.bm (a:=(Lib.trimSuffix (Lib.itoa n) [49])) (b:=s) (by(try simp only[aap,aaq,aar]);omega) rfl k_ ?_;refine CG.bm (a:=u) (b:=(Lib.trimSuffix (Lib.itoa n) [49]++s)) (by(try simp only[aap,aaq,aar]);omega) rfl k_ ?_;rotate_left;refine CG.ar qB k_ ?_;refine s1 hW 4 3 [] 14 [(22,bo (!aI n 0))] ?_;refine j4 n 0 (fun pA Gd=>?_ ) (fun pA Gd=>?_ );rw[pA];refine s1 hW 5 3 [false] 2 [(28,so u),(29,so (Lib.itoa n)),(30,so s)] ?_;refine CG.bm (a:=(Lib.itoa n)) (b:=s) (by(try simp only[aap,aaq,aar]);omega) rfl k_ ?_;refine CG.bm (a:=u) (b:=(Lib.itoa n++s)) (by(try simp only[aap,aaq,aar]);omega) rfl k_ ?_;rotate_left;rw[pA];refine s1 hW 2 0 [] 7 [(25,bo (!ah u []))] ?_;refine sp (ah u []) (fun IU=>?_ ) (fun IU=>?_ );refine CG.ar (b:=(!ah u [])) (by rw[IU];rfl) k_ ?_;refine s1 hW 2 3 [] 2 [(28,so u),(29,so (Lib.itoa n)),(30,so s)] ?_;refine CG.bm (a:=(Lib.itoa n)) (b:=s) (by(try simp only[aap,aaq,aar]);omega) rfl k_ ?_;refine CG.bm (a:=u) (b:=(Lib.itoa n++s)) (by(try simp only[aap,aaq,aar]);omega) rfl k_ ?_;rotate_left;refine CG.az (b:=(!ah u [])) (by rw[IU];rfl) k_ ?_;refine s1 hW 0 1 [] 7 [(26,so u)] ?_;refine CG.bm (a:=u) (b:=[43]) (by(try simp only[aap,aaq,aar]);omega) rfl k_ ?_;refine s4 hW 2 3 [] 2 [(28,so (u++[43])),(29,so (Lib.itoa n)),(30,so s)] [(0,.cells [so (u++[43])])] ?_;refine CG.bm (a:=(Lib.itoa n)) (b:=s) (by(try simp only[aap,aaq,aar]);omega) rfl k_ ?_;refine CG.bm (a:=(u++[43])) (b:=(Lib.itoa n++s)) (by(try simp only[aap,aaq,aar]);omega) rfl k_ ?_;rotate_left
 ·exact CG.py (u++(Lib.itoa n++s)) (u:=so u) rfl rfl k_ ⟨rfl,_,by(simp only[aap,aaq,aar];omega),rfl⟩
 ·exact CG.py (u++(Lib.itoa n++s)) (u:=so u) rfl rfl k_ ⟨rfl,_,by(simp only[aap,aaq,aar];omega),rfl⟩
 ·exact CG.py (u++[43]++(Lib.itoa n++s)) (u:=so (u++[43])) rfl rfl k_ ⟨rfl,_,by(simp only[aap,aaq,aar];omega),rfl⟩
 ·exact CG.py (u++(Lib.trimSuffix (Lib.itoa n) [49]++s)) (u:=so u) rfl rfl k_ ⟨rfl,_,by(simp only[aap,aaq,aar];omega),rfl⟩
 ·exact CG.py (u++[43]++(Lib.trimSuffix (Lib.itoa n) [49]++s)) (u:=so (u++[43])) rfl rfl k_ ⟨rfl,_,by(simp only[aap,aaq,aar];omega),rfl⟩
 ·exact CG.py (u++(Lib.trimSuffix (Lib.itoa n) [49]++s)) (u:=so u) rfl rfl k_ ⟨rfl,_,by(simp only[aap,aaq,aar];omega),rfl⟩
 ·exact CG.py (u++(Lib.itoa n++s)) (u:=so u) rfl rfl k_ ⟨rfl,_,by(simp only[aap,aaq,aar];omega),rfl⟩
 ·exact CG.py (u++(Lib.itoa n++s)) (u:=so u) rfl rfl k_ ⟨rfl,_,by(simp only[aap,aaq,aar];omega),rfl⟩
 ·exact CG.py (u++[43]++(Lib.itoa n++s)) (u:=so (u++[43])) rfl rfl k_ ⟨rfl,_,by(simp only[aap,aaq,aar];omega),rfl⟩
theorem mR(hW:W0 W)(x:aq)(hs:aq.sm x):PC P (gl W) 156 [.agg (x.aa.map .d)] (sn 1024):=by
 refine CG.fR RU RW rfl ?_;have hv:=tv hW x.c x.ts hs.1 hs.2;refine s1 hW 1 0 [] 1 [] ?_;refine CG.dA ?_;refine CG.cI (cs:=[.int .i64 x.c,.list (x.ts.map Cf.aa)]) rfl k_ rfl ?_;refine bc hW 4 1 [] 2 [(2,sE),(7,.agg x.ce)] (hv) ?_;refine s1 hW 2 0 [] 3 [(9,bo (!dJ x.c x.ts))] ?_;refine sp (dJ x.c x.ts) (fun q6=>?_ ) (fun q6=>?_ );refine CG.ar (b:=(!dJ x.c x.ts)) (by rw[q6];rfl) k_ ?_;refine s4 hW 13 0 [] 3 [(3,.ptr 0 1 0),(4,.func 211 [] [.ptr 0 1 0]),(12,lo Cf.aa x.ts),(13,no (x.ts.map Cf.aa).length),(14,i0)] [(0,.cells [sE])] ?_;rotate_left;refine CG.az (b:=(!dJ x.c x.ts)) (by rw[q6];rfl) k_ ?_;refine s1 hW 3 0 [] 3 [] ?_;refine CG.cM (sE) ?_;rotate_left
 ·have hl:=Jh (x:=x) (by assumption);have hc:=TY (x:=x) (by assumption);refine CG.bh x.ts (fun i u=>[(1,.aL [.int .i64 x.c,.list (x.ts.map Cf.aa)]),(2,sE),(3,.ptr 0 1 0),(4,.func 211 [] [.ptr 0 1 0]),(12,lo Cf.aa x.ts),(13,no (x.ts.map Cf.aa).length),(14,.d (.int .i64 (.ofNat i)))]) (fun i u=>[some (.cells [so u])]) (fun i u r=>(u.length<=64*i)) ([]:List UInt8) ?_ (ay.refl _ _) ?_ ?_
  ·exact aaO _
  ·intro i u hi dz aH;have hp:=BW hW u [] x.c (by omega) (by simp) (by omega) (by omega);unfold hS at hp;refine iJ hW 4 0 [] 95 [(15,bo (aI (Int.ofNat i) (Int.ofNat (x.ts.map Cf.aa).length)))] (fh i (x.ts.map Cf.aa).length) ?_;refine CG.aV (by decide) ?_;refine s1 hW 4 4 [] 15 [(28,bo (!aN x.c 0))] ?_;refine cl x.c 0 (fun iz xi=>?_ ) (fun iz xi=>?_ );rw[iz];refine s1 hW 2 0 [] 15 [(31,bo (ah u []))] ?_;refine sp (ah u []) (fun iv=>?_ ) (fun iv=>?_ );refine CG.az iv k_ ?_;refine s1 hW 0 3 [] 6 [(32,.func 211 [] [.ptr 0 1 0]),(34,io x.c)] ?_;rotate_left;refine CG.ar iv k_ ?_;refine s1 hW 5 0 [] 0 [(2,so u)] ?_;refine CG.cM (so u) ?_;rotate_left;rw[iz];refine s1 hW 3 3 [true] 6 [(32,.func 211 [] [.ptr 0 1 0]),(34,io x.c)] ?_;rotate_left
   ·refine CG.ta (first:=[]) (cap:=[.ptr 0 1 0]) hp rfl k_ ?_;rintro v H' ⟨rfl,u',UJ,rfl⟩;simp only[aar]at UJ;refine s1 hW 5 0 [] 0 [(2,so u')] ?_;refine CG.cM (so u') ?_;rotate_left;exact⟨_,rfl,show u'.length<=1024 by omega⟩
   ·exact⟨_,rfl,show u.length<=1024 by omega⟩
   ·refine CG.ta (first:=[]) (cap:=[.ptr 0 1 0]) hp rfl k_ ?_;rintro v H' ⟨rfl,u',UJ,rfl⟩;simp only[aar]at UJ;refine s1 hW 5 0 [] 0 [(2,so u')] ?_;refine CG.cM (so u') ?_;rotate_left;exact⟨_,rfl,show u'.length<=1024 by omega⟩
  ·intro i u c r dz hx cA aH;have dI:True:=trivial;have hcm:=aau hx;have h1:=hl.2 c hcm;have h2:=hc.2 c hcm;have hp:=BW hW u c.var c.c (by omega) (by omega) (by omega) (by omega);unfold hS at hp;refine hX hW 4 0 [] 127 [(15,bo (aI (Int.ofNat i) (Int.ofNat (x.ts.map Cf.aa).length)))] (fg i (x.ts.map Cf.aa).length) ?_;refine s1 hW 5 0 [] 127 [] ?_;refine CG.dA ?_;refine CG.ix (aG (aa:=Cf.aa) hx) rfl k_ ?_;refine s1 hW 0 1 [] 127 [(17,.agg [so c.var,io c.c])] ?_;refine CG.fS (cs:=[.str c.var,.int .i64 c.c]) rfl (fun _=>by kernel_rfl) rfl ?_;refine s1 hW 2 5 [] 239 [(18,.func 211 [] [.ptr 0 1 0]),(20,io c.c),(22,so c.var)] ?_;rotate_left;refine CG.ta (first:=[]) (cap:=[.ptr 0 1 0]) hp rfl k_ ?_;rintro v H' ⟨rfl,u',UJ,rfl⟩;refine hZ hW 3 2 [] [(1,.aL [.int .i64 x.c,.list (x.ts.map Cf.aa)]),(2,sE),(3,.ptr 0 1 0),(4,.func 211 [] [.ptr 0 1 0]),(12,lo Cf.aa x.ts),(13,no (x.ts.map Cf.aa).length),(14,io (aT IntKind.i64 (bC (Int.ofNat i) 1)))] ([some (.cells [so u'])]) ?_;rw[ba (by omega)];rotate_left;exact⟨u',by omega,ay.refl _ _⟩
 ·exact⟨_,rfl,aaO _⟩
end Fw.Tz.P1
/-
  Numbers appended to rows of bytes.
-/
namespace Fw.Tz.P4
open Go Go.Proofs Fw.X Fw.Tz Fw.Nu Fw.Tz.Sd Fw.Tz.Na Fw.Tz.El Fw.Tz.Va Fw.Tz.Vb Fw.Tz.Tm Fw.Tz.Pj Fw.Tz.P1 Fw.Tz.P3
variable {W:World}
def BX(v:Option V):Bool:=match v with
 |some (.d (.str s))=>Nat.ble 1 s.length&&Nat.ble s.length 2
 |_=>false
theorem DA:(List.range 100).all (fun k=>BX (Tb W q0 .e 40 339 [no k]))=true:=k_
theorem mh(hW:W0 W)(k:Nat)(hk:k<100):∃s:List UInt8,1<=s.length/\s.length<=2/\PC P (gl W) 339 [no k] (so s):=by
 have h:=aaJ.1 (DA (W:=W)) k (abn.2 hk);cases hv:Tb W q0 .e 40 339 [no k]with
  |none=>rw[hv]at h;cases h
  |some v=>
   rw[hv]at h;unfold BX at h;split at h
   ·rename_i s hs;simp only[aat]at hs;subst hs;simp only[aas,abG]at h;exact⟨s,h.1,h.2,tl hW jo 40 _ _ _ hv⟩
   ·cases h
end Fw.Tz.P4
/-
  Numbers appended to rows of bytes.
-/
namespace Fw.Tz.P4
open Go Go.Proofs Fw.X Fw.Tz Fw.Nu Fw.Tz.Sd Fw.Tz.Na Fw.Tz.El Fw.Tz.Va Fw.Tz.Vb Fw.Tz.Tm Fw.Tz.Pj Fw.Tz.P1 Fw.Tz.P3
variable {W:World}
abbrev xl(l:List UInt8):V:=.full (l.map bY)
abbrev ki(b:Nat)(l:List UInt8):V:=.sl b (l.length*1) 0 l.length 1
def hB(c:V)(o:Option (List UInt8))(l:List UInt8):ao:=[some (.cells [c]),o.map (aJ bY),some (aJ bY l)]
def zs:List UInt8:=[0,0,0,0,0,0,0,0,0,0,0,0,0,0,0,0,0,0,0,0,0,0,0,0]
theorem mo{l:List UInt8}(h:1<=l.length):l≠[]:=fun e=>by rw[e]at h;simp at h
theorem GU(u:Nat)(h:u<100):IntKind.wrap .i64 (Int.ofNat u)=Int.ofNat u:=by rw[IntKind.wrap_i64];simp only[aba];omega
theorem NJ(hW:W0 W)(l0 l:List UInt8)(u:Nat)(hl:l.length<1048577)(hu:u<18446744073709551616):WF P (gl W) 316 [xl l,.d (.int .u64 (.ofNat u)),no 10] [some (.cells [xl l0])] (fun v H'=>∃l' o,l'≠[]/\l'.length<=l.length+20/\v=ki 2 l'/\H'=hB (xl l0) o l'):=by
 refine CG.bX Km Kn rfl ?_;by_cases h:u<100
 ·obtain⟨s,Hq,Bt,hS⟩:=mh hW u h;refine CG.tidy ay.pad ?_;refine hX hW 12 0 [true] 7 [(6,.aj),(12,bo (aI (Int.ofNat u) 100))] (show(aI (Int.ofNat u) 100)=true from fi) ?_;refine s1 hW 1 3 [] 15 [(13,.full (l.map bY)),(15,io (IntKind.wrap IntKind.i64 (Int.ofNat u)))] ?_;rotate_left;rw[GU u h];refine CG.pg (hS) rfl k_ ?_;rotate_left;refine CG.P' (sz:=1) (bytes:=1) bY l s (so s) (fun _=>rfl) Nat.one_pos (mo Hq) rfl k_ (s9 _ _) (by omega) ?_;refine s1 hW 2 0 [] 7 [(6,.sl 2 (List.length (l++s)*1) 0 (l++s).length 1)] ?_;refine CG.cM (.sl 2 (List.length (l++s)*1) 0 (l++s).length 1) ?_;rotate_left;exact⟨l++s,none,mo (by rw[aap];omega),by rw[aap];omega,rfl,rfl⟩
 ·have hN:=pK hW u (by omega) hu;have oa:=KI u (by omega) hu;refine iJ hW 12 0 [true] 7 [(6,.aj),(12,bo (aI (Int.ofNat u) 100))] (show(aI (Int.ofNat u) 100)=false from eV) ?_;refine s4 hW 6 1 [] 15 [(7,.ptr 1 24 0),(18,.d (.int .u64 (.ofNat u)))] [(1,.cells [.d (.int .u8 0),.d (.int .u8 0),.d (.int .u8 0),.d (.int .u8 0),.d (.int .u8 0),.d (.int .u8 0),.d (.int .u8 0),.d (.int .u8 0),.d (.int .u8 0),.d (.int .u8 0),.d (.int .u8 0),.d (.int .u8 0),.d (.int .u8 0),.d (.int .u8 0),.d (.int .u8 0),.d (.int .u8 0),.d (.int .u8 0),.d (.int .u8 0),.d (.int .u8 0),.d (.int .u8 0),.d (.int .u8 0),.d (.int .u8 0),.d (.int .u8 0),.d (.int .u8 0)])] ?_;refine CG.pg (hN) rfl k_ ?_;refine s1 hW 3 1 [] 31 [(8,no (Lib.nDigits u)),(20,no (Lib.nDigits u))] ?_;rotate_left;refine CG.mX [some (.cells [xl l0]),some (aJ bY zs)] rfl ?_;refine CG.Io zs 1 24 (Lib.nDigits u) 24 rfl (by omega) (by omega) rfl rfl k_ ?_;refine s1 hW 0 1 [] 191 [(22,.d (.int .u64 (.ofNat u)))] ?_;rotate_left;refine CG.xh (GQ hW [some (.cells [xl l0]),some (aJ bY zs)] 1 zs (Lib.nDigits u) u rfl (by simp[zs]) (by simp[zs];omega) (Lib.lt_pow_nDigits u) hu (by simp[zs])) rfl rfl k_ rfl ?_;rintro v H' ⟨rfl,z2,Hx,rfl⟩;refine CG.mX [some (.cells [xl l0]),some (aJ bY z2)] rfl ?_;have Hy:z2.length=24:=Hx;refine s1 hW 3 2 [] 31 [(24,.full (l.map bY)),(25,no (Lib.nDigits u))] ?_;rotate_left;refine CG.Io z2 1 24 (Lib.nDigits u) 24 Hy (by omega) (by omega) rfl rfl k_ ?_;have NK:z2≠[]:=mo (by omega);have htl:(z2.take (Lib.nDigits u)).length=Lib.nDigits u:=by rw[abz];omega
  refine CG.P' (sz:=1) (bytes:=1) bY l (z2.take (Lib.nDigits u)) (.sl 1 (z2.length*1) 0 (Lib.nDigits u) 1) (fun _=>rfl) Nat.one_pos (mo (by omega)) rfl k_ (nX (Lib.nDigits u) Nat.one_pos (fun _=>rfl) rfl (by omega) NK) (by omega) ?_;refine s1 hW 2 0 [] 7 [(6,.sl 2 (List.length (l++List.take (Lib.nDigits u) z2)*1) 0 (List.length (l++List.take (Lib.nDigits u) z2)) 1)] ?_;refine CG.cM (.sl 2 (List.length (l++List.take (Lib.nDigits u) z2)*1) 0 (List.length (l++List.take (Lib.nDigits u) z2)) 1) ?_;rotate_left;exact⟨l++z2.take (Lib.nDigits u),some z2,mo (by rw[aap];omega),by rw[aap];omega,rfl,rfl⟩
end Fw.Tz.P4
/-
  Numbers appended to rows of bytes, further.
-/
namespace Fw.Tz.P4
open Go Go.Proofs Fw.X Fw.Tz Fw.Nu Fw.Tz.Sd Fw.Tz.Na Fw.Tz.El Fw.Tz.Va Fw.Tz.Vb Fw.Tz.Tm Fw.Tz.Pj Fw.Tz.P1 Fw.Tz.P3
variable {W:World}
theorem KJ(k:Nat)(h:k<18446744073709551616):IntKind.wrap .u64 (Int.ofNat k)=Int.ofNat k:=by rw[IntKind.wrap_u64];simp only[aba];omega
theorem Fj(n:Int)(h0: -9223372036854775808<=n)(h1:n<0):IntKind.wrap .u64 (0 - IntKind.wrap .u64 n)=Int.ofNat n.natAbs:=by rw[IntKind.wrap_u64,IntKind.wrap_u64];simp only[aba];omega
theorem DB(lc l:List UInt8)(o:Option (List UInt8)):aS 3 (hB (ki 2 lc) o l)=true:=by cases o<;>simp only[hB,aS,abj,aaI,cj,aaW,aaV]<;>simp[cZ,aE,aC]
theorem GV(hW:W0 W)(lc l:List UInt8)(o:Option (List UInt8))(u:Nat)(hl:l.length<1048577)(hu:u<18446744073709551616):WF P (gl W) 316 [ki 2 l,.d (.int .u64 (.ofNat u)),no 10] (hB (ki 2 lc) o l) (fun v H'=>∃l',l'≠[]/\l'.length<=l.length+20/\v=ki 2 l'/\H'=hB (ki 2 lc) o l'):=by
 refine WF.cut ?_;refine CG.bX Km Kn rfl ?_;unfold hB;by_cases h:u<100
 ·obtain⟨s,Hq,Bt,hS⟩:=mh hW u h;refine hX hW 12 0 [true] 7 [(6,.aj),(12,bo (aI (Int.ofNat u) 100))] (show(aI (Int.ofNat u) 100)=true from fi) ?_;refine s1 hW 1 3 [] 15 [(13,.sl 2 (List.length l*1) 0 l.length 1),(15,io (IntKind.wrap IntKind.i64 (Int.ofNat u)))] ?_;rotate_left;rw[GU u h];refine CG.pg (hS) rfl k_ ?_;rotate_left;refine CG.ud (sz:=1) (bytes:=1) bY l s 2 (so s) (fun _=>rfl) rfl rfl k_ (s9 _ _) (by omega) ?_;refine s1 hW 2 0 [] 7 [(6,.sl 2 (List.length (l++s)*1) 0 (l++s).length 1)] ?_;refine CG.cM (.sl 2 (List.length (l++s)*1) 0 (l++s).length 1) ?_;rotate_left;exact .inl ⟨l++s,mo (by rw[aap];omega),by rw[aap];omega,rfl,rfl⟩
 ·have hN:=pK hW u (by omega) hu;have oa:=KI u (by omega) hu;refine iJ hW 12 0 [true] 7 [(6,.aj),(12,bo (aI (Int.ofNat u) 100))] (show(aI (Int.ofNat u) 100)=false from eV) ?_;refine s4 hW 6 1 [] 15 [(7,.ptr 3 24 0),(18,.d (.int .u64 (.ofNat u)))] [(3,.cells [.d (.int .u8 0),.d (.int .u8 0),.d (.int .u8 0),.d (.int .u8 0),.d (.int .u8 0),.d (.int .u8 0),.d (.int .u8 0),.d (.int .u8 0),.d (.int .u8 0),.d (.int .u8 0),.d (.int .u8 0),.d (.int .u8 0),.d (.int .u8 0),.d (.int .u8 0),.d (.int .u8 0),.d (.int .u8 0),.d (.int .u8 0),.d (.int .u8 0),.d (.int .u8 0),.d (.int .u8 0),.d (.int .u8 0),.d (.int .u8 0),.d (.int .u8 0),.d (.int .u8 0)])] ?_;refine CG.pg (hN) rfl k_ ?_;refine s1 hW 3 1 [] 31 [(8,no (Lib.nDigits u)),(20,no (Lib.nDigits u))] ?_;rotate_left;refine CG.mX [some (.cells [ki 2 lc]),o.map (aJ bY),some (aJ bY l),some (aJ bY zs)] rfl ?_;refine CG.Io zs 3 24 (Lib.nDigits u) 24 rfl (by omega) (by omega) rfl rfl k_ ?_;refine s1 hW 0 1 [] 191 [(22,.d (.int .u64 (.ofNat u)))] ?_;rotate_left;refine CG.xh (GQ hW [some (.cells [ki 2 lc]),o.map (aJ bY),some (aJ bY l),some (aJ bY zs)] 3 zs (Lib.nDigits u) u rfl (by simp[zs]) (by simp[zs];omega) (Lib.lt_pow_nDigits u) hu (by simp[zs])) rfl rfl k_ rfl ?_;rintro v H' ⟨rfl,z2,Hx,rfl⟩;refine CG.mX [some (.cells [ki 2 lc]),o.map (aJ bY),some (aJ bY l),some (aJ bY z2)] rfl ?_;have Hy:z2.length=24:=Hx;refine s1 hW 3 2 [] 31 [(24,.sl 2 (List.length l*1) 0 l.length 1),(25,no (Lib.nDigits u))] ?_;rotate_left;refine CG.Io z2 3 24 (Lib.nDigits u) 24 Hy (by omega) (by omega) rfl rfl k_ ?_;have NK:z2≠[]:=mo (by omega);have htl:(z2.take (Lib.nDigits u)).length=Lib.nDigits u:=by rw[abz];omega
  refine CG.ud (sz:=1) (bytes:=1) bY l (z2.take (Lib.nDigits u)) 2 (.sl 3 (z2.length*1) 0 (Lib.nDigits u) 1) (fun _=>rfl) rfl rfl k_ (nX (Lib.nDigits u) Nat.one_pos (fun _=>rfl) rfl (by omega) NK) (by omega) ?_;refine s1 hW 2 0 [] 7 [(6,.sl 2 (List.length (l++List.take (Lib.nDigits u) z2)*1) 0 (List.length (l++List.take (Lib.nDigits u) z2)) 1)] ?_;refine CG.cM (.sl 2 (List.length (l++List.take (Lib.nDigits u) z2)*1) 0 (List.length (l++List.take (Lib.nDigits u) z2)) 1) ?_;rotate_left;exact .inr ⟨rfl,DB lc (l++z2.take (Lib.nDigits u)) o,l++z2.take (Lib.nDigits u),mo (by rw[aap];omega),by rw[aap];omega,rfl,rfl⟩
theorem NL(hW:W0 W)(l0 l:List UInt8)(k:Nat)(hl:l.length<1048577)(hk:k<9223372036854775808):WF P (gl W) 275 [xl l,no k,no 10] [some (.cells [xl l0])] (fun v H'=>∃l' o,l'≠[]/\l'.length<=l.length+20/\v=ki 2 l'/\H'=hB (xl l0) o l'):=by refine CG.bX Kk Kl rfl ?_;refine s1 hW 14 3 [false] 0 [(6,.aj),(17,.full (l.map bY)),(18,.d (.int .u64 (IntKind.wrap IntKind.u64 (Int.ofNat k)))),(19,io 10)] ?_;rotate_left;rw[KJ k (by omega)];rotate_left;refine CG.xh (NJ hW l0 l k hl (by omega)) rfl rfl k_ rfl ?_;rintro v H' ⟨l',o,h1,h2,rfl,rfl⟩;unfold hB;refine s1 hW 2 0 [] 0 [(6,.sl 2 (List.length l'*1) 0 l'.length 1)] ?_;refine CG.cM (.sl 2 (List.length l'*1) 0 l'.length 1) ?_;rotate_left;exact⟨l',o,h1,h2,rfl,rfl⟩
theorem NM(hW:W0 W)(lc l:List UInt8)(o:Option (List UInt8))(n:Int)(hl:l.length<1048000)(h0: -9223372036854775808<=n)(h1:n<=9223372036854775807):WF P (gl W) 275 [ki 2 l,io n,no 10] (hB (ki 2 lc) o l) (fun v H'=>∃l',l'≠[]/\l'.length<=l.length+21/\v=ki 2 l'/\H'=hB (ki 2 lc) o l'):=by
 refine CG.bX Kk Kl rfl ?_;unfold hB;by_cases hn:n<0
 ·refine hX hW 10 0 [] 5 [(6,.aj),(7,.d (.int .u64 (IntKind.wrap IntKind.u64 n))),(11,bo (aI n 0))] (show(aI n 0)=true from fi) ?_;refine s1 hW 1 2 [] 15 [(12,.sl 2 (List.length l*1) 0 l.length 1),(13,.d (.list [[.int .u8 45]]))] ?_;rotate_left;refine CG.ud (sz:=1) (bytes:=1) bY l [45] 2 (.d (.list [[.int .u8 45]])) (fun _=>rfl) rfl rfl k_ rfl (by simp only[aaq,aar];omega) ?_;refine s1 hW 5 3 [] 4 [(17,.sl 2 (List.length (l++[45])*1) 0 (l++[45]).length 1),(18,.d (.int .u64 (IntKind.wrap IntKind.u64 (0 - IntKind.wrap IntKind.u64 n)))),(19,io 10)] ?_;rotate_left;rw[Fj n h0 hn];rotate_left;have xk:=GV hW lc (l++[45]) o n.natAbs (by rw[aap];simp only[aaq,aar];omega) (by omega);unfold hB at xk;refine CG.xh xk rfl rfl k_ rfl ?_;rintro v H' ⟨l',a1,a2,rfl,rfl⟩;refine s1 hW 2 0 [] 0 [(6,.sl 2 (List.length l'*1) 0 l'.length 1)] ?_;refine CG.cM (.sl 2 (List.length l'*1) 0 l'.length 1) ?_;rotate_left;exact⟨l',a1,by rw[aap]at a2;simp only[aaq,aar]at a2;omega,rfl,rfl⟩
 ·obtain⟨k,rfl⟩:∃k:Nat,n=Int.ofNat k:=⟨n.toNat,by simp;omega⟩;simp only[aba]at h1;refine s1 hW 14 3 [false] 0 [(6,.aj),(17,.sl 2 (List.length l*1) 0 l.length 1),(18,.d (.int .u64 (IntKind.wrap IntKind.u64 (Int.ofNat k)))),(19,io 10)] ?_;rotate_left;rw[KJ k (by omega)];rotate_left;have xk:=GV hW lc l o k (by omega) (by omega);unfold hB at xk;refine CG.xh xk rfl rfl k_ rfl ?_;rintro v H' ⟨l',a1,a2,rfl,rfl⟩;refine s1 hW 2 0 [] 0 [(6,.sl 2 (List.length l'*1) 0 l'.length 1)] ?_;refine CG.cM (.sl 2 (List.length l'*1) 0 l'.length 1) ?_;rotate_left;exact⟨l',a1,by omega,rfl,rfl⟩
theorem BY(hW:W0 W)(l:List UInt8)(k:Nat)(hl:l.length<1048000)(hk:k<9223372036854775808):WF P (gl W) 214 [no k,bF,.ptr 0 1 0] [some (.cells [xl l])] (fun v H'=>v=.tuple []/\∃l' o,l'≠[]/\l'.length<=l.length+20/\H'=hB (ki 2 l') o l'):=by
 refine CG.bX Ke Kf rfl ?_;have hp:WF P (gl W) 215 [xl l,no k,no 10] [some (.cells [xl l])] (fun v H'=>∃l' o,l'≠[]/\l'.length<=l.length+20/\v=ki 2 l'/\H'=hB (xl l) o l'):=by refine CG.bX Kg Kh rfl ?_;refine s1 hW 4 3 [] 0 [(6,.aj),(7,.full (l.map bY)),(8,no k),(9,io 10)] ?_;rotate_left;refine CG.xh (NL hW l l k (by omega) hk) rfl rfl k_ rfl ?_;rintro v H' ⟨l',o,h1,h2,rfl,rfl⟩;unfold hB;refine s1 hW 2 0 [] 0 [(6,.sl 2 (List.length l'*1) 0 l'.length 1)] ?_;refine CG.cM (.sl 2 (List.length l'*1) 0 l'.length 1) ?_;rotate_left;exact⟨l',o,h1,h2,rfl,rfl⟩
 refine s1 hW 7 2 [false] 4 [(9,.full (l.map bY)),(10,no k)] ?_;rotate_left;refine CG.xh hp rfl rfl k_ rfl ?_;rintro v H' ⟨l',o,h1,h2,rfl,rfl⟩;unfold hB;rotate_left;exact CG.Ai (ki 2 l') (xl l) [o.map (aJ bY),some (aJ bY l')] rfl rfl k_ rfl rfl ⟨rfl,l',o,h1,h2,rfl⟩
theorem mS(hW:W0 W)(b:Bool)(l:List UInt8)(o:Option (List UInt8))(n:Int)(hl:l.length<1047000)(h0: -9223372036854775808<=n)(h1:n<=9223372036854775807):WF P (gl W) 214 [io n,bo b,.ptr 0 1 0] (hB (ki 2 l) o l) (fun v H'=>v=.tuple []/\∃l',l'≠[]/\l'.length<=l.length+22/\H'=hB (ki 2 l') o l'):=by
 have hp:∀m:List UInt8,m.length<1048000->WF P (gl W) 215 [ki 2 m,io n,no 10] (hB (ki 2 m) o m) (fun v H'=>∃l',l'≠[]/\l'.length<=m.length+21/\v=ki 2 l'/\H'=hB (ki 2 m) o l'):=by intro m hm;refine CG.bX Kg Kh rfl ?_;have xk:=NM hW m m o n hm h0 h1;unfold hB at xk⊢;refine s1 hW 4 3 [] 0 [(6,.aj),(7,.sl 2 (List.length m*1) 0 m.length 1),(8,io n),(9,io 10)] ?_;rotate_left;refine CG.xh xk rfl rfl k_ rfl ?_;rintro v H' ⟨l',a1,a2,rfl,rfl⟩;refine s1 hW 2 0 [] 0 [(6,.sl 2 (List.length l'*1) 0 l'.length 1)] ?_;refine CG.cM (.sl 2 (List.length l'*1) 0 l'.length 1) ?_;rotate_left;exact⟨l',a1,a2,rfl,rfl⟩
 refine CG.bX Ke Kf rfl ?_;unfold hB at hp⊢;cases b with
  |false=>refine s1 hW 7 2 [false] 4 [(9,.sl 2 (List.length l*1) 0 l.length 1),(10,io n)] ?_;rotate_left;refine CG.xh (hp l (by omega)) rfl rfl k_ rfl ?_;rintro v H' ⟨l',a1,a2,rfl,rfl⟩;rotate_left;exact CG.Ai (ki 2 l') (ki 2 l) [o.map (aJ bY),some (aJ bY l')] rfl rfl k_ rfl rfl ⟨rfl,l',a1,by omega,rfl⟩
  |true=>refine s1 hW 5 2 [true] 5 [(6,.sl 2 (List.length l*1) 0 l.length 1),(7,.d (.list [[.int .u8 32]]))] ?_;rotate_left;refine CG.ud (sz:=1) (bytes:=1) bY l [32] 2 (.d (.list [[.int .u8 32]])) (fun _=>rfl) rfl rfl k_ rfl (by simp only[aaq,aar];omega) ?_;refine s4 hW 2 2 [] 2 [(9,.sl 2 (List.length (l++[32])*1) 0 (l++[32]).length 1),(10,io n)] [(0,.cells [.sl 2 (List.length (l++[32])*1) 0 (l++[32]).length 1])] ?_;rotate_left;refine CG.xh (hp (l++[32]) (by rw[aap];simp only[aaq,aar];omega)) rfl rfl k_ rfl ?_;rintro v H' ⟨l',a1,a2,rfl,rfl⟩;rw[aap]at a2;simp only[aaq,aar]at a2;rotate_left;exact CG.Ai (ki 2 l') (ki 2 (l++[32])) [o.map (aJ bY),some (aJ bY l')] rfl rfl k_ rfl rfl ⟨rfl,l',a1,by omega,rfl⟩
end Fw.Tz.P4
/-
  The text of an array, by the program: its length.
-/
namespace Fw.Tz.P6
open Go Go.Proofs Fw.X Fw.Tz Fw.Nu Fw.Tz.Sd Fw.Tz.Na Fw.Tz.El Fw.Tz.Va Fw.Tz.Vb Fw.Tz.Tm Fw.Tz.Pj Fw.Tz.P1 Fw.Tz.P3 Fw.Tz.P4 Fw.Tz.Ar
variable {W:World}
theorem GW:∀(l:List Int)(a:Int),a<=4096->(rb a l).1<=4096:=by
 intro l;induction l with
  |nil=>intro a h;exact h
  |cons d l ih=>
   intro a h;rw[rb];by_cases hx:4096<a*d
   ·rw[aaD hx];exact(by omega:(0:Int)<=4096)
   ·rw[aaH hx];exact ih _ (by omega)
theorem GX{e:List UInt8}{ad av:List Int}(h:m_ e ad av=true):ad.length<=6/\(∀d∈ad,0<=d/\d<=4096)/\av.length<=4096/\∀n∈av,-2147483648<=n/\n<=2147483647:=by
 unfold m_ DW at h;split at h
 ·cases h
 split at h
 ·rename_i h1 h2;rw[cR]at h;exact absurd (by simpa using h) h2
 split at h
 ·cases h
 split at h
 ·cases h
 rename_i h1 h2 h3 h4;simp only[ne_eq,Decidable.not_not]at h2 h3;have hav:∀n∈av,-2147483648<=n/\n<=2147483647:=by
  intro n hn;have hx:rB e n=true:=by
   cases hb:rB e n with
    |true=>rfl
    |false=>exact absurd (List.any_eq_true.2 ⟨n,hn,by rw[hb];rfl⟩) h4
  unfold rB at hx;split at hx
  ·simpa using hx
  ·simp only[aas,aaF]at hx;omega
 unfold cC at h2 h3;split at h2
 ·cases h2
 rename_i hl;rw[aaH hl]at h3;split at h2
 ·cases h2
 rename_i hd;rw[aaH hd]at h3;have Lp:∀d∈ad,0<=d/\d<=4096:=by intro d Hm;have:=aaJ.1 (by simpa using hd) d Hm;simpa[uh]using this
 refine⟨by omega,Lp,?_,hav⟩;split at h3
 ·simp only at h3;omega
 ·have:=GW ad 1 (by omega);omega
def J(c:V):Option (List UInt8×Option (List UInt8))->ao|none=>[some (.cells [c])]|some (l,o)=>hB (ki 2 l) o l
def TZ:Option (List UInt8×Option (List UInt8))->Nat|none=>3|some (l,_)=>l.length
theorem DC(hW:W0 W)(e:List UInt8)(ad av:List Int)(h1:ad.length<1048577)(h2:av.length<1048577):PC P (gl W) 157 [.agg [.d (.str e),.d (.list (ad.map encI)),.d (.list (av.map encI))]] (.tuple [sn 131072,no (if m_ e ad av then 0 else 1)]):=by
 refine CG.fR RX RY rfl ?_;have hv:=Gp hW e ad av h1 h2;refine s1 hW 1 0 [] 1 [] ?_;refine CG.dA ?_;refine CG.cI (cs:=[.str e,.list (ad.map Tm.encI),.list (av.map Tm.encI)]) rfl k_ rfl ?_;refine bc hW 4 1 [] 2 [(2,sE),(3,i0),(8,.agg [so e,lo Tm.encI ad,lo Tm.encI av])] (hv) ?_;refine s1 hW 2 0 [] 7 [(10,bo (!m_ e ad av))] ?_;refine sp (m_ e ad av) (fun q9=>?_ ) (fun q9=>?_ );refine CG.ar (b:=(!m_ e ad av)) (by rw[q9];rfl) k_ ?_;refine s1 hW 3 0 [] 7 [] ?_;refine CG.dA ?_;refine CG.JW [35,91] [[.int .u8 35],[.int .u8 91]] rfl k_ k_ k_ ?_;refine s4 hW 6 0 [] 7 [(4,.ptr 0 1 0),(15,bo (ah e [98,111,111,108]))] [(0,.cells [.full [[.int .u8 35],[.int .u8 91]]])] ?_;refine sp (ah e [98,111,111,108]) (fun gO=>?_ ) (fun gO=>?_ );refine CG.az gO k_ ?_;refine CG.dA ?_;refine CG.JW [35,98,91] [[.int .u8 35],[.int .u8 98],[.int .u8 91]] rfl k_ k_ k_ ?_;refine s4 hW 10 0 [] 15 [(5,.func 214 [] [.ptr 0 1 0]),(21,no (ad.map Tm.encI).length),(22,i0)] [(0,.cells [.full [[.int .u8 35],[.int .u8 98],[.int .u8 91]]])] ?_;rotate_left;refine CG.ar gO k_ ?_;refine s1 hW 10 0 [] 15 [(5,.func 214 [] [.ptr 0 1 0]),(21,no (ad.map Tm.encI).length),(22,i0)] ?_;rotate_left;refine CG.az (b:=(!m_ e ad av)) (by rw[q9];rfl) k_ ?_;refine s1 hW 3 0 [] 3 [(3,io 1)] ?_;refine CG.cM (.tuple [sE,io 1]) ?_;rotate_left
 ·obtain⟨k1,k2,k3,k4⟩:=GX (by assumption);refine CG.mX (J (.full [[.int .u8 35],[.int .u8 98],[.int .u8 91]]) none) rfl ?_;have me:True:=trivial;refine CG.bh ad (fun i a=>[(1,.aL [.str e,.list (ad.map Tm.encI),.list (av.map Tm.encI)]),(2,sE),(3,i0),(4,.ptr 0 1 0),(5,.func 214 [] [.ptr 0 1 0]),(21,no (ad.map Tm.encI).length),(22,.d (.int .i64 (.ofNat i)))]) (fun i a=>J (.full [[.int .u8 35],[.int .u8 98],[.int .u8 91]]) a) (fun i a r=>((a=none->i=0)/\TZ a<=3+22*i)) (none:Option (List UInt8×Option (List UInt8))) ?_ (ay.u1 k_) ?_ ?_
  ·exact⟨fun _=>rfl,aaE _⟩
  ·intro i a hi dz aH;cases a with
    |none=>
     refine CG.mX [some (.cells [xl [35,98,91]])] k_ ?_;refine CG.tidy ay.pad ?_;refine iJ hW 4 0 [] 95 [(23,bo (aI (Int.ofNat i) (Int.ofNat (ad.map Tm.encI).length)))] (fh i (ad.map Tm.encI).length) ?_;refine CG.aV (by decide) ?_;refine s4 hW 10 0 [] 31 [(40,no (av.map Tm.encI).length),(41,i0)] [(0,.cells [.sl 2 4 0 4 1]),(2,.cells [.d (.int .u8 35),.d (.int .u8 98),.d (.int .u8 91),.d (.int .u8 58)])] ?_;rotate_left;refine CG.mX (hB (ki 2 [35,98,91,58]) none [35,98,91,58]) k_ ?_;refine CG.bh av (fun j b=>[(1,.aL [.str e,.list (ad.map Tm.encI),.list (av.map Tm.encI)]),(2,sE),(3,i0),(4,.ptr 0 1 0),(5,.func 214 [] [.ptr 0 1 0]),(40,no (av.map Tm.encI).length),(41,.d (.int .i64 (.ofNat j)))]) (fun j b=>hB (ki 2 b) none b) (fun j b r2=>(b.length<=140+22*j)) ([35,98,91,58]) ?_ (ay.u1 k_) ?_ ?_
     ·simp only[aap,aaq,aar];omega
     ·intro j b hj qD gm;unfold hB;refine iJ hW 4 0 [] 95 [(42,bo (aI (Int.ofNat j) (Int.ofNat (av.map Tm.encI).length)))] (fh j (av.map Tm.encI).length) ?_;refine CG.aV (by decide) ?_;refine s1 hW 3 2 [] 6 [(52,.sl 2 (List.length b*1) 0 b.length 1),(53,.d (.list [[.int .u8 93]]))] ?_;rotate_left;refine CG.ud (sz:=1) (bytes:=1) bY b [93] 2 (.d (.list [[.int .u8 93]])) (fun _=>rfl) rfl rfl k_ rfl (by simp only[aaq,aar];omega) ?_;rotate_left;refine CG.Im (b:=2) (b++[93]) (by simp) rfl k_ ?_;refine s1 hW 2 0 [] 2 [(2,so (b++[93]))] ?_;refine CG.cM (.tuple [so (b++[93]),i0]) ?_;rotate_left;refine⟨_,rfl,?_,by rw[aaD (by simp_all)];rfl,trivial⟩;show(b++[93]).length<=131072;simp only[aap,aaq,aar];omega
     ·intro j b x r2 qD ly AD gm;have hm:=k4 x (aau ly);refine hX hW 4 0 [] 127 [(42,bo (aI (Int.ofNat j) (Int.ofNat (av.map Tm.encI).length)))] (fg j (av.map Tm.encI).length) ?_;refine s1 hW 7 4 [] 127 [(44,.func 214 [] [.ptr 0 1 0]),(46,lo Tm.encI av),(47,no j)] ?_;refine CG.ix (aG (aa:=Tm.encI) ly) rfl k_ ?_;refine s1 hW 0 1 [] 255 [(49,io x)] ?_;rotate_left;refine CG.ta (first:=[]) (cap:=[.ptr 0 1 0]) (mS hW true b none x (by omega) (by omega) (by omega)) rfl k_ ?_;rintro v H' ⟨rfl,l',b1,b2,rfl⟩;refine hZ hW 3 2 [] [(1,.aL [.str e,.list (ad.map Tm.encI),.list (av.map Tm.encI)]),(2,sE),(3,i0),(4,.ptr 0 1 0),(5,.func 214 [] [.ptr 0 1 0]),(40,no (av.map Tm.encI).length),(41,io (aT IntKind.i64 (bC (Int.ofNat j) 1)))] ([some (.cells [.sl 2 (List.length l'*1) 0 l'.length 1]),none,some (aJ bY l')]) ?_;rw[ba (by omega)];rotate_left;exact⟨l',by omega,ay.refl _ _⟩
    |some lo=>
     obtain⟨l,o⟩:=lo;have hle:l.length<=3+22*i:=aH.2;refine CG.mX [some (.cells [ki 2 l]),o.map (aJ bY),some (aJ bY l)] rfl ?_;refine iJ hW 4 0 [] 95 [(23,bo (aI (Int.ofNat i) (Int.ofNat (ad.map Tm.encI).length)))] (fh i (ad.map Tm.encI).length) ?_;refine CG.aV (by decide) ?_;refine s1 hW 3 2 [] 31 [(35,.sl 2 (List.length l*1) 0 l.length 1),(36,.d (.list [[.int .u8 58]]))] ?_;rotate_left;refine CG.ud (sz:=1) (bytes:=1) bY l [58] 2 (.d (.list [[.int .u8 58]])) (fun _=>rfl) rfl rfl k_ rfl (by simp only[aaq,aar];omega) ?_;refine s4 hW 7 0 [] 31 [(40,no (av.map Tm.encI).length),(41,i0)] [(0,.cells [.sl 2 (List.length (l++[58])*1) 0 (l++[58]).length 1])] ?_;rotate_left;refine CG.mX (hB (ki 2 (l++[58])) o (l++[58])) k_ ?_;refine CG.bh av (fun j b=>[(1,.aL [.str e,.list (ad.map Tm.encI),.list (av.map Tm.encI)]),(2,sE),(3,i0),(4,.ptr 0 1 0),(5,.func 214 [] [.ptr 0 1 0]),(40,no (av.map Tm.encI).length),(41,.d (.int .i64 (.ofNat j)))]) (fun j b=>hB (ki 2 b) o b) (fun j b r2=>(b.length<=140+22*j)) (l++[58]) ?_ (ay.u1 k_) ?_ ?_
     ·simp only[aap,aaq,aar];omega
     ·intro j b hj qD gm;unfold hB;refine iJ hW 4 0 [] 95 [(42,bo (aI (Int.ofNat j) (Int.ofNat (av.map Tm.encI).length)))] (fh j (av.map Tm.encI).length) ?_;refine CG.aV (by decide) ?_;refine s1 hW 3 2 [] 6 [(52,.sl 2 (List.length b*1) 0 b.length 1),(53,.d (.list [[.int .u8 93]]))] ?_;rotate_left;refine CG.ud (sz:=1) (bytes:=1) bY b [93] 2 (.d (.list [[.int .u8 93]])) (fun _=>rfl) rfl rfl k_ rfl (by simp only[aaq,aar];omega) ?_;rotate_left;refine CG.Im (b:=2) (b++[93]) (by simp) rfl k_ ?_;refine s1 hW 2 0 [] 2 [(2,so (b++[93]))] ?_;refine CG.cM (.tuple [so (b++[93]),i0]) ?_;rotate_left;refine⟨_,rfl,?_,by rw[aaD (by simp_all)];rfl,trivial⟩;show(b++[93]).length<=131072;simp only[aap,aaq,aar];omega
     ·intro j b x r2 qD ly AD gm;have hm:=k4 x (aau ly);refine hX hW 4 0 [] 127 [(42,bo (aI (Int.ofNat j) (Int.ofNat (av.map Tm.encI).length)))] (fg j (av.map Tm.encI).length) ?_;refine s1 hW 7 4 [] 127 [(44,.func 214 [] [.ptr 0 1 0]),(46,lo Tm.encI av),(47,no j)] ?_;refine CG.ix (aG (aa:=Tm.encI) ly) rfl k_ ?_;refine s1 hW 0 1 [] 255 [(49,io x)] ?_;rotate_left;refine CG.ta (first:=[]) (cap:=[.ptr 0 1 0]) (mS hW true b o x (by omega) (by omega) (by omega)) rfl k_ ?_;rintro v H' ⟨rfl,l',b1,b2,rfl⟩;refine hZ hW 3 2 [] [(1,.aL [.str e,.list (ad.map Tm.encI),.list (av.map Tm.encI)]),(2,sE),(3,i0),(4,.ptr 0 1 0),(5,.func 214 [] [.ptr 0 1 0]),(40,no (av.map Tm.encI).length),(41,io (aT IntKind.i64 (bC (Int.ofNat j) 1)))] ([some (.cells [.sl 2 (List.length l'*1) 0 l'.length 1]),Option.map (aJ bY) o,some (aJ bY l')]) ?_;rw[ba (by omega)];rotate_left;exact⟨l',by omega,ay.refl _ _⟩
  ·intro i a x r dz hx cA aH;have hm:=k2 x (aau hx);cases a with
    |none=>obtain rfl:i=0:=aH.1 rfl;obtain⟨k,rfl⟩:∃k:Nat,x=Int.ofNat k:=⟨x.toNat,by simp;omega⟩;simp only[aba]at hm;refine CG.mX [some (.cells [xl [35,98,91]])] k_ ?_;refine hX hW 4 0 [] 127 [(23,bo (aI 0 (Int.ofNat (ad.map Tm.encI).length)))] (show(aI 0 (Int.ofNat (ad.map Tm.encI).length))=true from fi) ?_;refine s1 hW 7 4 [] 127 [(6,i0),(25,.func 214 [] [.ptr 0 1 0]),(27,lo Tm.encI ad),(28,i0)] ?_;refine CG.ix (aG (aa:=Tm.encI) hx) rfl k_ ?_;refine s1 hW 0 3 [] 479 [(30,no k),(32,bF)] ?_;rotate_left;refine CG.ta (first:=[]) (cap:=[.ptr 0 1 0]) (BY hW [35,98,91] k (by simp) (by omega)) rfl k_ ?_;rintro v H' ⟨rfl,l',o,b0,b1,rfl⟩;simp only[aaq,aar]at b1;refine hZ hW 3 2 [] [(1,.aL [.str e,.list (ad.map Tm.encI),.list (av.map Tm.encI)]),(2,sE),(3,i0),(4,.ptr 0 1 0),(5,.func 214 [] [.ptr 0 1 0]),(21,no (ad.map Tm.encI).length),(22,io 1)] ([some (.cells [.sl 2 (List.length l'*1) 0 l'.length 1]),Option.map (aJ bY) o,some (aJ bY l')]) ?_;rotate_left;exact⟨some (l',o),⟨nofun,show l'.length<=3+22*(0+1) by omega⟩,ay.refl _ _⟩
    |some lo=>obtain⟨l,o⟩:=lo;have hle:l.length<=3+22*i:=aH.2;refine CG.mX (hB (ki 2 l) o l) rfl ?_;refine hX hW 4 0 [] 127 [(23,bo (aI (Int.ofNat i) (Int.ofNat (ad.map Tm.encI).length)))] (fg i (ad.map Tm.encI).length) ?_;refine s1 hW 7 4 [] 127 [(6,no i),(25,.func 214 [] [.ptr 0 1 0]),(27,lo Tm.encI ad),(28,no i)] ?_;refine CG.ix (aG (aa:=Tm.encI) hx) rfl k_ ?_;refine s1 hW 0 3 [] 479 [(30,io x),(32,bo (aI 0 (Int.ofNat i)))] ?_;rotate_left;refine CG.ta (first:=[]) (cap:=[.ptr 0 1 0]) (mS hW (aI 0 (Int.ofNat i)) l o x (by omega) (by omega) (by omega)) rfl k_ ?_;rintro v H' ⟨rfl,l',b0,b1,rfl⟩;refine hZ hW 3 2 [] [(1,.aL [.str e,.list (ad.map Tm.encI),.list (av.map Tm.encI)]),(2,sE),(3,i0),(4,.ptr 0 1 0),(5,.func 214 [] [.ptr 0 1 0]),(21,no (ad.map Tm.encI).length),(22,io (aT IntKind.i64 (bC (Int.ofNat i) 1)))] ([some (.cells [.sl 2 (List.length l'*1) 0 l'.length 1]),Option.map (aJ bY) o,some (aJ bY l')]) ?_;rw[ba (by omega)];rotate_left;exact⟨some (l',o),⟨nofun,show l'.length<=3+22*(i+1) by omega⟩,ay.refl _ _⟩
 ·obtain⟨k1,k2,k3,k4⟩:=GX (by assumption);refine CG.mX (J (.full [[.int .u8 35],[.int .u8 91]]) none) rfl ?_;have me:True:=trivial;refine CG.bh ad (fun i a=>[(1,.aL [.str e,.list (ad.map Tm.encI),.list (av.map Tm.encI)]),(2,sE),(3,i0),(4,.ptr 0 1 0),(5,.func 214 [] [.ptr 0 1 0]),(21,no (ad.map Tm.encI).length),(22,.d (.int .i64 (.ofNat i)))]) (fun i a=>J (.full [[.int .u8 35],[.int .u8 91]]) a) (fun i a r=>((a=none->i=0)/\TZ a<=3+22*i)) (none:Option (List UInt8×Option (List UInt8))) ?_ (ay.u1 k_) ?_ ?_
  ·exact⟨fun _=>rfl,aaE _⟩
  ·intro i a hi dz aH;cases a with
    |none=>
     refine CG.mX [some (.cells [xl [35,91]])] k_ ?_;refine CG.tidy ay.pad ?_;refine iJ hW 4 0 [] 95 [(23,bo (aI (Int.ofNat i) (Int.ofNat (ad.map Tm.encI).length)))] (fh i (ad.map Tm.encI).length) ?_;refine CG.aV (by decide) ?_;refine s4 hW 10 0 [] 31 [(40,no (av.map Tm.encI).length),(41,i0)] [(0,.cells [.sl 2 3 0 3 1]),(2,.cells [.d (.int .u8 35),.d (.int .u8 91),.d (.int .u8 58)])] ?_;rotate_left;refine CG.mX (hB (ki 2 [35,91,58]) none [35,91,58]) k_ ?_;refine CG.bh av (fun j b=>[(1,.aL [.str e,.list (ad.map Tm.encI),.list (av.map Tm.encI)]),(2,sE),(3,i0),(4,.ptr 0 1 0),(5,.func 214 [] [.ptr 0 1 0]),(40,no (av.map Tm.encI).length),(41,.d (.int .i64 (.ofNat j)))]) (fun j b=>hB (ki 2 b) none b) (fun j b r2=>(b.length<=140+22*j)) ([35,91,58]) ?_ (ay.u1 k_) ?_ ?_
     ·simp only[aap,aaq,aar];omega
     ·intro j b hj qD gm;unfold hB;refine iJ hW 4 0 [] 95 [(42,bo (aI (Int.ofNat j) (Int.ofNat (av.map Tm.encI).length)))] (fh j (av.map Tm.encI).length) ?_;refine CG.aV (by decide) ?_;refine s1 hW 3 2 [] 6 [(52,.sl 2 (List.length b*1) 0 b.length 1),(53,.d (.list [[.int .u8 93]]))] ?_;rotate_left;refine CG.ud (sz:=1) (bytes:=1) bY b [93] 2 (.d (.list [[.int .u8 93]])) (fun _=>rfl) rfl rfl k_ rfl (by simp only[aaq,aar];omega) ?_;rotate_left;refine CG.Im (b:=2) (b++[93]) (by simp) rfl k_ ?_;refine s1 hW 2 0 [] 2 [(2,so (b++[93]))] ?_;refine CG.cM (.tuple [so (b++[93]),i0]) ?_;rotate_left;refine⟨_,rfl,?_,by rw[aaD (by simp_all)];rfl,trivial⟩;show(b++[93]).length<=131072;simp only[aap,aaq,aar];omega
     ·intro j b x r2 qD ly AD gm;have hm:=k4 x (aau ly);refine hX hW 4 0 [] 127 [(42,bo (aI (Int.ofNat j) (Int.ofNat (av.map Tm.encI).length)))] (fg j (av.map Tm.encI).length) ?_;refine s1 hW 7 4 [] 127 [(44,.func 214 [] [.ptr 0 1 0]),(46,lo Tm.encI av),(47,no j)] ?_;refine CG.ix (aG (aa:=Tm.encI) ly) rfl k_ ?_;refine s1 hW 0 1 [] 255 [(49,io x)] ?_;rotate_left;refine CG.ta (first:=[]) (cap:=[.ptr 0 1 0]) (mS hW true b none x (by omega) (by omega) (by omega)) rfl k_ ?_;rintro v H' ⟨rfl,l',b1,b2,rfl⟩;refine hZ hW 3 2 [] [(1,.aL [.str e,.list (ad.map Tm.encI),.list (av.map Tm.encI)]),(2,sE),(3,i0),(4,.ptr 0 1 0),(5,.func 214 [] [.ptr 0 1 0]),(40,no (av.map Tm.encI).length),(41,io (aT IntKind.i64 (bC (Int.ofNat j) 1)))] ([some (.cells [.sl 2 (List.length l'*1) 0 l'.length 1]),none,some (aJ bY l')]) ?_;rw[ba (by omega)];rotate_left;exact⟨l',by omega,ay.refl _ _⟩
    |some lo=>
     obtain⟨l,o⟩:=lo;have hle:l.length<=3+22*i:=aH.2;refine CG.mX [some (.cells [ki 2 l]),o.map (aJ bY),some (aJ bY l)] rfl ?_;refine iJ hW 4 0 [] 95 [(23,bo (aI (Int.ofNat i) (Int.ofNat (ad.map Tm.encI).length)))] (fh i (ad.map Tm.encI).length) ?_;refine CG.aV (by decide) ?_;refine s1 hW 3 2 [] 31 [(35,.sl 2 (List.length l*1) 0 l.length 1),(36,.d (.list [[.int .u8 58]]))] ?_;rotate_left;refine CG.ud (sz:=1) (bytes:=1) bY l [58] 2 (.d (.list [[.int .u8 58]])) (fun _=>rfl) rfl rfl k_ rfl (by simp only[aaq,aar];omega) ?_;refine s4 hW 7 0 [] 31 [(40,no (av.map Tm.encI).length),(41,i0)] [(0,.cells [.sl 2 (List.length (l++[58])*1) 0 (l++[58]).length 1])] ?_;rotate_left;refine CG.mX (hB (ki 2 (l++[58])) o (l++[58])) k_ ?_;refine CG.bh av (fun j b=>[(1,.aL [.str e,.list (ad.map Tm.encI),.list (av.map Tm.encI)]),(2,sE),(3,i0),(4,.ptr 0 1 0),(5,.func 214 [] [.ptr 0 1 0]),(40,no (av.map Tm.encI).length),(41,.d (.int .i64 (.ofNat j)))]) (fun j b=>hB (ki 2 b) o b) (fun j b r2=>(b.length<=140+22*j)) (l++[58]) ?_ (ay.u1 k_) ?_ ?_
     ·simp only[aap,aaq,aar];omega
     ·intro j b hj qD gm;unfold hB;refine iJ hW 4 0 [] 95 [(42,bo (aI (Int.ofNat j) (Int.ofNat (av.map Tm.encI).length)))] (fh j (av.map Tm.encI).length) ?_;refine CG.aV (by decide) ?_;refine s1 hW 3 2 [] 6 [(52,.sl 2 (List.length b*1) 0 b.length 1),(53,.d (.list [[.int .u8 93]]))] ?_;rotate_left;refine CG.ud (sz:=1) (bytes:=1) bY b [93] 2 (.d (.list [[.int .u8 93]])) (fun _=>rfl) rfl rfl k_ rfl (by simp only[aaq,aar];omega) ?_;rotate_left;refine CG.Im (b:=2) (b++[93]) (by simp) rfl k_ ?_;refine s1 hW 2 0 [] 2 [(2,so (b++[93]))] ?_;refine CG.cM (.tuple [so (b++[93]),i0]) ?_;rotate_left;refine⟨_,rfl,?_,by rw[aaD (by simp_all)];rfl,trivial⟩;show(b++[93]).length<=131072;simp only[aap,aaq,aar];omega
     ·intro j b x r2 qD ly AD gm;have hm:=k4 x (aau ly);refine hX hW 4 0 [] 127 [(42,bo (aI (Int.ofNat j) (Int.ofNat (av.map Tm.encI).length)))] (fg j (av.map Tm.encI).length) ?_;refine s1 hW 7 4 [] 127 [(44,.func 214 [] [.ptr 0 1 0]),(46,lo Tm.encI av),(47,no j)] ?_;refine CG.ix (aG (aa:=Tm.encI) ly) rfl k_ ?_;refine s1 hW 0 1 [] 255 [(49,io x)] ?_;rotate_left;refine CG.ta (first:=[]) (cap:=[.ptr 0 1 0]) (mS hW true b o x (by omega) (by omega) (by omega)) rfl k_ ?_;rintro v H' ⟨rfl,l',b1,b2,rfl⟩;refine hZ hW 3 2 [] [(1,.aL [.str e,.list (ad.map Tm.encI),.list (av.map Tm.encI)]),(2,sE),(3,i0),(4,.ptr 0 1 0),(5,.func 214 [] [.ptr 0 1 0]),(40,no (av.map Tm.encI).length),(41,io (aT IntKind.i64 (bC (Int.ofNat j) 1)))] ([some (.cells [.sl 2 (List.length l'*1) 0 l'.length 1]),Option.map (aJ bY) o,some (aJ bY l')]) ?_;rw[ba (by omega)];rotate_left;exact⟨l',by omega,ay.refl _ _⟩
  ·intro i a x r dz hx cA aH;have hm:=k2 x (aau hx);cases a with
    |none=>obtain rfl:i=0:=aH.1 rfl;obtain⟨k,rfl⟩:∃k:Nat,x=Int.ofNat k:=⟨x.toNat,by simp;omega⟩;simp only[aba]at hm;refine CG.mX [some (.cells [xl [35,91]])] k_ ?_;refine hX hW 4 0 [] 127 [(23,bo (aI 0 (Int.ofNat (ad.map Tm.encI).length)))] (show(aI 0 (Int.ofNat (ad.map Tm.encI).length))=true from fi) ?_;refine s1 hW 7 4 [] 127 [(6,i0),(25,.func 214 [] [.ptr 0 1 0]),(27,lo Tm.encI ad),(28,i0)] ?_;refine CG.ix (aG (aa:=Tm.encI) hx) rfl k_ ?_;refine s1 hW 0 3 [] 479 [(30,no k),(32,bF)] ?_;rotate_left;refine CG.ta (first:=[]) (cap:=[.ptr 0 1 0]) (BY hW [35,91] k (by simp) (by omega)) rfl k_ ?_;rintro v H' ⟨rfl,l',o,b0,b1,rfl⟩;simp only[aaq,aar]at b1;refine hZ hW 3 2 [] [(1,.aL [.str e,.list (ad.map Tm.encI),.list (av.map Tm.encI)]),(2,sE),(3,i0),(4,.ptr 0 1 0),(5,.func 214 [] [.ptr 0 1 0]),(21,no (ad.map Tm.encI).length),(22,io 1)] ([some (.cells [.sl 2 (List.length l'*1) 0 l'.length 1]),Option.map (aJ bY) o,some (aJ bY l')]) ?_;rotate_left;exact⟨some (l',o),⟨nofun,show l'.length<=3+22*(0+1) by omega⟩,ay.refl _ _⟩
    |some lo=>obtain⟨l,o⟩:=lo;have hle:l.length<=3+22*i:=aH.2;refine CG.mX (hB (ki 2 l) o l) rfl ?_;refine hX hW 4 0 [] 127 [(23,bo (aI (Int.ofNat i) (Int.ofNat (ad.map Tm.encI).length)))] (fg i (ad.map Tm.encI).length) ?_;refine s1 hW 7 4 [] 127 [(6,no i),(25,.func 214 [] [.ptr 0 1 0]),(27,lo Tm.encI ad),(28,no i)] ?_;refine CG.ix (aG (aa:=Tm.encI) hx) rfl k_ ?_;refine s1 hW 0 3 [] 479 [(30,io x),(32,bo (aI 0 (Int.ofNat i)))] ?_;rotate_left;refine CG.ta (first:=[]) (cap:=[.ptr 0 1 0]) (mS hW (aI 0 (Int.ofNat i)) l o x (by omega) (by omega) (by omega)) rfl k_ ?_;rintro v H' ⟨rfl,l',b0,b1,rfl⟩;refine hZ hW 3 2 [] [(1,.aL [.str e,.list (ad.map Tm.encI),.list (av.map Tm.encI)]),(2,sE),(3,i0),(4,.ptr 0 1 0),(5,.func 214 [] [.ptr 0 1 0]),(21,no (ad.map Tm.encI).length),(22,io (aT IntKind.i64 (bC (Int.ofNat i) 1)))] ([some (.cells [.sl 2 (List.length l'*1) 0 l'.length 1]),Option.map (aJ bY) o,some (aJ bY l')]) ?_;rw[ba (by omega)];rotate_left;exact⟨some (l',o),⟨nofun,show l'.length<=3+22*(i+1) by omega⟩,ay.refl _ _⟩
 ·refine⟨_,rfl,aaO _,?_,trivial⟩;rw[aaH (by simp_all)];rfl
end Fw.Tz.P6
