/-
  Texts put side by side, by the program: joined.
-/
import Derived.Test.YtpeomfjbcdahnaaGreatDoorTe
import Derived.Test.YtpeomfjbcdahnaaGreatDoorTd
import Derived.Test.YtpeomfjbcdahnaaGreatDoorFi
import Derived.Test.YtpeomfjbcdahnaaGreatDoorTl
import Derived.Test.YtpeomfjbcdahnaaGreatDoorFh
import Derived.Lib.ItoaLen
import Derived.Test.YtpeomfjbcdahnaaGreatDoorTf
set_option linter.unusedSimpArgs false
set_option maxRecDepth 1000000
set_option maxHeartbeats 4000000
set_option linter.unusedVariables false
namespace Fw.Tz.Pj
open Go Go.Proofs Fw.X Fw.Tz Fw.Nu Fw.Tz.Sd Fw.Tz.Na Fw.Tz.El Fw.Tz.Va Fw.Tz.Vb Fw.Tz.Tm
variable {W:World}
abbrev sn(n:Nat):V:=.d (.sN n)
abbrev DE(n:Nat):List D:=[.sN n]
abbrev bN(d:D):List D:=[d]
theorem Jm(p:List UInt8):∀(ss:List (List UInt8))(ns:List Nat),mn ss ns->(Lib.join ss p).length<=ns.sum+p.length*ns.length
 |[],[],_=>by simp[Lib.join_nil]
 |s::ss,n::ns,h=>by
  have tail:∀(ss:List (List UInt8))(ns:List Nat),mn ss ns->(Lib.joinTail p ss).length<=ns.sum+p.length*ns.length:=by
   intro ss;induction ss with
    |nil=>intro ns h;simp[Lib.joinTail]
    |cons t ss ih=>
     intro ns h;cases ns with
      |nil=>exact h.elim
      |cons m ns=>have:=ih ns h.2;have h1:=h.1;simp only[Lib.joinTail,aaB,acB,aao,aa8,aap]at this⊢;rw[acd];omega
  have:=tail ss ns h.2;have h1:=h.1;rw[Lib.join_cons,aao,aa8,aap,acd];omega
 |[],_::_,h=>h.elim
 |_::_,[],h=>h.elim
theorem jn(hW:W0 W)(l:List D)(p:List UInt8)(hp:p.length<=2)(hd:∀d∈l,zq d=true)(hl:l.length<=1099511627776)(hs:(l.map dN).sum<=70368744177664):PC P (gl W) 65 [.d (.list (l.map bN)),so p] (sn ((l.map dN).sum+p.length*l.length)):=by
 refine PC.args (α:={ss:List (List UInt8) // mn ss (l.map dN)}) (fun ss=>[.d (.list (ss.1.map encS)),so p]) ⟨(l.map dN).map fun _=>[],vk _⟩ (fun g w vs h=>?_ ) (fun ss=>?_ )
 ·cases vs with
   |nil=>simp only[aN]at h
   |cons x r=>simp only[aN]at h;obtain⟨ss,h1,h2⟩:=RV.sDL hd h.1;exact⟨⟨ss,h1⟩,by simp only[aN];exact⟨h2,h.2⟩⟩
 ·obtain⟨ss,Um⟩:=ss;have h1:=Jm p ss _ Um;have h2:=Um.len;rw[aaE]at h1 h2;have h3:p.length*l.length<=2*l.length:=aa0 _ hp;have hJ:=FF (W:=W) ss p (by omega) (by omega);exact PC.dW (v:=so (Lib.join ss p)) hJ (show(Lib.join ss p).length<=_ by omega)
theorem pW(hW:W0 W)(l:List D)(hd:∀d∈l,zq d=true)(hl:l.length<=1099511627776)(hs:(l.map dN).sum<=70368744177664):PC P (gl W) 61 [.d (.list (l.map bN))] (sn ((l.map dN).sum+2*l.length)):=by refine CG.start Xk Xl rfl ?_;have hJ:=jn hW l [44,32] (by simp) hd hl hs;refine a_ hW 4 1 [] 0 [(2,sE),(3,lo bN l)] (hJ) ?_;exact gi hW 2 0 [] 0 [(2,.d (.sN (List.sum (l.map dN)+2*List.length l)))] (.d (.sN (List.sum (l.map dN)+2*List.length l)))
theorem pX(hW:W0 W)(ns:List Nat)(hl:ns.length<=1099511627776)(hs:ns.sum<=70368744177664):PC P (gl W) 61 [.d (.list (ns.map DE))] (sn (ns.sum+2*ns.length)):=by
 have e:(ns.map D.sN).map dN=ns:=by rw[abY];exact List.map_id ns
 have h:=pW hW (ns.map D.sN) (fun d hd=>by obtain⟨n,_,rfl⟩:=aba.1 hd;rfl) (by simpa using hl) (by rw[e];exact hs);rw[e,aaE,abY]at h;exact h
end Fw.Tz.Pj
/-
  Digits written into an own row, and their number.
-/
namespace Fw.Tz.P3
open Go Go.Proofs Go.RowKit Go.Sort Fw.X Fw.Tz
variable {W:World}
theorem pY(hW:W0 W)(u:Nat)(h1:1<=u)(h2:u<18446744073709551616):PC P (gl W) 340 [.d (.int .u64 u)] (.d (.int .i64 (.ofNat (Lib.nDigits u)))):=by
 refine PC.dY k_ fun g w vs cX hg=>?_
 obtain⟨x,rfl,k1⟩:=cX.mP;obtain rfl:=k1.rT;refine(Tryz.internal_strconv_numDigits u h1 h2 w (yL hW hg)).mono ?_;rintro e w' ⟨rfl,rfl⟩;exact⟨_,rfl,Below.refl _ _,fun _ _=>RV.zp _ _⟩
theorem KJ(u:Nat)(h1:1<=u)(h2:u<18446744073709551616):1<=Lib.nDigits u/\Lib.nDigits u<=20:=by
 have:=Lib.numDigits_eq u h1 h2;have h3:1<=Lib.nDigits u:=by unfold Lib.nDigits;split<;>omega
 exact⟨h3,by split at this<;>omega⟩
def Ov(b:UInt8):V:=.d (.int .u8 b.toNat)
def DF(b:UInt8):Value:=.int .u8 (b.toNat:Int)
theorem GQ{l:List UInt8}(h:l≠[]):aK bW l=.cells (l.map Ov):=by
 have e:(l.flatMap bW).map V.d=l.map Ov:=by unfold bW;rw[JW (fun b:UInt8=>D.int .u8 b.toNat),abY];rfl
 unfold aK lh;rw[e];cases l with
  |nil=>exact absurd rfl h
  |cons a l=>rfl
theorem GR(hW:W0 W)(H:an)(b:Nat)(l:List UInt8)(nd u:Nat)(hb:aC H b=some (aK bW l))(hO:l≠[])(oJ:nd<=l.length)(hu:u<10^nd)(L':u<18446744073709551616)(hl:l.length<1048577):WF P (gl W) 341 [.sl b (l.length*1) 0 nd 1,.d (.int .u64 u)] H (fun v H'=>v=.tuple []/\∃l':List UInt8,l'.length=l.length/\H'=aR H b (aK bW l')):=by
 refine⟨k_,fun g w vs cX hh hg=>?_ ⟩;obtain⟨x,y,rfl,hx,hy⟩:=cX.fH;obtain rfl:=hy.rT;rw[GQ hO]at hb;obtain⟨gb,sh⟩:=hh.back b _ hb;obtain⟨hd,yb,Lc,hr⟩:=hh.live b gb sh;rw[hb]at Lc;simp only[aar]at Lc;subst Lc;simp only[RV]at hx;have nb:=hx.2 gb sh;cases gb with
  |nil=>simp only[RB]at hr
  |obj=>simp only[RB]at hr
  |cells aM cp cur=>
   have cy:=hr.lt aM rfl;simp only[RB,aaE]at hr;obtain⟨r1,r2,r3,c,e,r4,r5,r6⟩:=hr;obtain⟨cap,rfl,k2,k3⟩:=nb.2 (by omega);have rz:∀j (hj:j<l.length),c[j]? =some (DF l[j]):=by intro j hj;obtain⟨v,L9,xq⟩:=aN.get j r6 (u:=Ov l[j]) (by simp[hj]);simp only[Ov,RV,Rd]at xq;subst xq;rw[aa5,aaF hj]at L9;simpa[DF]using L9
   have cH:(l.take nd).toArray.size=nd:=by simp[oJ]
   have hH:Holds DF w aM 0 (l.take nd).toArray:=by
    intro j hj;have HT:j<nd:=by omega
    refine⟨?_,by simp[World.frozen?,r4]⟩;have:=rz j (by omega);simp only[World.cell?,r4,aaK];rw[this,acG _ j hj];simp
   have bZ:=Tryz.internal_strconv_formatBase10 aM 0 cap u (l.take nd).toArray w hH (by rw[cH];exact hu) L' (by rw[cH];omega);rw[cH]at bZ;refine bZ.mono ?_;rintro ee w' ⟨rfl,n,v',dk,rfl,hF⟩;have hdk:dk.size=nd:=hF.size;let w1:World:=(putRow DF w aM 0 dk).drewN n;have NB:∀j,j≠aM->w1.heap[j]? =w.heap[j]? :=fun j hj=>by simp only[w1,World.heap_drewN,putRow,mapBlock,abC];rw[aaH (Ne.symm hj)]
   have zx:w1.heap[aM]? =some (.cells (Go.Sort.putCells DF 0 dk c) e (0,0)):=by simp only[w1,World.heap_drewN,putRow,mapBlock,abC,abK,r4,aaI,onCells]
   have hlen:(dk.toList++l.drop nd).length=l.length:=by rw[aao,acg,Array.length_toList,hdk];omega
   have Fx:dk.toList++l.drop nd≠[]:=fun h=>hO (abH (by rw[←hlen,h];rfl))
   have v_:bu g w g w1:=bu.write sh rfl (hh.qO sh rfl) rfl rfl rfl (by simp[w1,putRow,mapBlock]) NB;have JJ:aw g w1 (aR H b (.cells ((dk.toList++l.drop nd).map Ov))):=by
    refine aw.write hh _ sh rfl v_ NB ?_;simp only[RB,aaE,hlen];refine⟨r1,aaJ.2 (fun x hx=>by obtain⟨b,_,rfl⟩:=aba.1 hx;rfl),r3,_,e,zx,by simpa[Go.Sort.putCells]using r5,?_ ⟩;refine aN.eM (by simp[Go.Sort.putCells];omega) fun j u v hu hv=>?_
    simp only[aa4,aaA]at hu;obtain⟨s,hs,rfl⟩:=hu;have hj:j<l.length:=by rw[←hlen];exact(aaz.1 hs).1
    rw[aa5,aaF hj]at hv;have Uv:j<c.size:=by omega
    have fV:(Go.Sort.putCells DF 0 dk c)[j]? =some v:=by simpa using hv
    simp only[Go.Sort.putCells,Array.getElem?_mapIdx,Array.getElem?_eq_getElem Uv,aaI,aar]at fV;subst fV;simp only[Ov,RV,Rd];by_cases YV:j<dk.size
    ·rw[aaF ⟨aaP _,by simpa using YV⟩];have:dk[j - 0]! =s:=by rw[abr (by simpa using YV)]at hs;have:=(aaz.1 hs).2;rw[acG _ (j - 0) (by simpa using YV)];simpa using this
     rw[this];rfl
    ·rw[aaH (by rintro⟨_,h⟩;simp at h;omega)];rw[abc (by simp;omega)]at hs;simp only[Array.length_toList,acx]at hs;have e1:nd+(j - dk.size)=j:=by omega
     rw[e1]at hs;have h5:=rz j hj;rw[Array.getElem?_eq_getElem Uv]at h5;simp only[aar]at h5;rw[h5];have:=(aaz.1 hs).2;rw[this];rfl
   refine⟨_,tE,g,_,rfl,⟨rfl,_,hlen,rfl⟩,?_,by rw[GQ Fx];exact JJ,v_⟩;simp only[RV];exact⟨#[],rfl,by simp[aN]⟩
end Fw.Tz.P3
/-
  How long names and expressions are that are valid.
-/
namespace Fw.Tz.Ln
open Go Fw.Tz Fw.Nu Fw.Tz.Na Fw.Tz.El Fw.Tz.Va Fw.Tz.Vb
theorem NK{t:List UInt8}(h:De t=true):t.length<=9:=by
 cases t with
  |nil=>simp
  |cons d u=>simp only[De,aas,aaD]at h;rw[aap];omega
theorem GS{s:List UInt8}(h:fS s=true):s.length<=30:=by
 cases s with
  |nil=>simp
  |cons c t=>
   rw[fS]at h;cases hb:Nat.beq c.toNat 95 with
    |true=>rw[hb,aaw]at h;have:=NK h;grind
    |false=>grind
theorem rq:∀{ts:List Cf}{p:Option (List UInt8)},gP p ts=true->∀t∈ts,t.var.length<=30
 |[],_,_=>by simp
 |t::r,p,h=>by
  simp only[gP,aas]at h;intro x hx;rcases aaT.1 hx with rfl|hx
  ·exact GS h.1.1.1.1
  ·exact rq h.2 x hx
theorem zj{c:Int}(h:dL c=true): -1000000<=c/\c<=1000000:=by unfold dL at h;grind
theorem vG:∀{ts:List Cf}{p:Option (List UInt8)},gP p ts=true->∀t∈ts,-1000000<=t.c/\t.c<=1000000
 |[],_,_=>by simp
 |t::r,p,h=>by
  simp only[gP,aas]at h;intro x hx;rcases aaT.1 hx with rfl|hx
  ·exact zj h.1.1.2
  ·exact vG h.2 x hx
theorem TS{x:aq}(h:dF x.c x.ts=true):(-1000000<=x.c/\x.c<=1000000)/\∀t∈x.ts,-1000000<=t.c/\t.c<=1000000:=by simp only[dF,aas,aaD]at h;exact⟨zj h.1.1,vG h.2⟩
theorem Jn{x:aq}(h:dF x.c x.ts=true):x.ts.length<=12/\∀t∈x.ts,t.var.length<=30:=by simp only[dF,aas,aaD]at h;exact⟨h.1.2,rq h.2⟩
end Fw.Tz.Ln
/-
  The text of an expression, by the program: its length.
-/
namespace Fw.Tz.P1
open Go Go.Proofs Fw.X Fw.Tz Fw.Nu Fw.Tz.Sd Fw.Tz.Na Fw.Tz.El Fw.Tz.Va Fw.Tz.Vb Fw.Tz.Tm Fw.Tz.Pj Fw.Tz.Ln
variable {W:World}
theorem pZ(n:Int)(h0: -9223372036854775808<=n)(h1:n<=9223372036854775807):(Lib.itoa n).length<=21:=Lib.itoa_length_le n h0 h1
theorem GU(s p:List UInt8):(Lib.trimSuffix s p).length<=s.length:=by
 unfold Lib.trimSuffix;split
 ·simp only[abB];omega
 ·exact aaC _
def hS(u:List UInt8):an:=[some (.cells [so u])]
theorem Cb(hW:W0 W)(u s:List UInt8)(n:Int)(hu:u.length<1048576)(hs:s.length<1048576)(h0: -9223372036854775808<=n)(h1:n<=9223372036854775807):WF P (gl W) 211 [io n,so s,.ptr 0 1 0] (hS u) (fun v H'=>v=.tuple []/\∃u':List UInt8,u'.length<=u.length+22+s.length/\H'=hS u'):=by
 refine CG.b_ Sa Sb rfl ?_;have hI:=oq hW n h0 h1;have hl:=pZ n h0 h1;have hT:=pM (W:=W) (Lib.itoa n) [49] (by omega);have Vh:=GU (Lib.itoa n) [49];unfold hS;refine a_ hW 1 1 [] 7 [(6,io n)] (hI) ?_;refine s1 hW 4 3 [] 7 [(5,so (Lib.itoa n)),(10,bo (!ah s []))] ?_;refine sp (ah s []) (fun gG=>?_ ) (fun gG=>?_ );rw[gG];refine s1 hW 7 3 [false] 14 [(22,bo (!aI n 0))] ?_;refine kf n 0 (fun iA xj=>?_ ) (fun iA xj=>?_ );rw[iA];refine s1 hW 5 3 [false] 2 [(28,so u),(29,so (Lib.itoa n)),(30,so s)] ?_;refine CG.bg (a:=(Lib.itoa n)) (b:=s) (by(try simp only[aao,aap,aaq]);omega) rfl k_ ?_;refine CG.bg (a:=u) (b:=(Lib.itoa n++s)) (by(try simp only[aao,aap,aaq]);omega) rfl k_ ?_;rotate_left;rw[iA];refine s1 hW 2 0 [] 7 [(25,bo (!ah u []))] ?_;refine sp (ah u []) (fun iq=>?_ ) (fun iq=>?_ );refine CG.ao (b:=(!ah u [])) (by rw[iq];rfl) k_ ?_;refine s1 hW 2 3 [] 2 [(28,so u),(29,so (Lib.itoa n)),(30,so s)] ?_;refine CG.bg (a:=(Lib.itoa n)) (b:=s) (by(try simp only[aao,aap,aaq]);omega) rfl k_ ?_;refine CG.bg (a:=u) (b:=(Lib.itoa n++s)) (by(try simp only[aao,aap,aaq]);omega) rfl k_ ?_;rotate_left;refine CG.ay (b:=(!ah u [])) (by rw[iq];rfl) k_ ?_;refine s1 hW 0 1 [] 7 [(26,so u)] ?_;refine CG.bg (a:=u) (b:=[43]) (by(try simp only[aao,aap,aaq]);omega) rfl k_ ?_;refine s4 hW 2 3 [] 2 [(28,so (u++[43])),(29,so (Lib.itoa n)),(30,so s)] [(0,.cells [so (u++[43])])] ?_;refine CG.bg (a:=(Lib.itoa n)) (b:=s) (by(try simp only[aao,aap,aaq]);omega) rfl k_ ?_;refine CG.bg (a:=(u++[43])) (b:=(Lib.itoa n++s)) (by(try simp only[aao,aap,aaq]);omega) rfl k_ ?_;rotate_left;rw[gG];refine s1 hW 0 3 [] 31 [(13,bo (aP n 1))] ?_;refine cq n 1 (fun jk Gp=>?_ ) (fun jk Gp=>?_ );rw[jk];refine a_ hW 3 1 [true] 15 [(18,so (Lib.itoa n))] (hT) ?_;refine s1 hW 4 3 [] 6 [(5,so (Lib.trimSuffix (Lib.itoa n) [49])),(22,bo (!aI n 0))] ?_;have qF:(aI n 0)=false:=eW;rw[qF];refine s1 hW 2 0 [] 7 [(25,bo (!ah u []))] ?_;refine sp (ah u []) (fun wS=>?_ ) (fun wS=>?_ );refine CG.ao (b:=(!ah u [])) (by rw[wS];rfl) k_ ?_;refine s1 hW 2 3 [] 2 [(28,so u),(29,so (Lib.trimSuffix (Lib.itoa n) [49])),(30,so s)] ?_;refine CG.bg (a:=(Lib.trimSuffix (Lib.itoa n) [49])) (b:=s) (by(try simp only[aao,aap,aaq]);omega) rfl k_ ?_;refine CG.bg (a:=u) (b:=(Lib.trimSuffix (Lib.itoa n) [49]++s)) (by(try simp only[aao,aap,aaq]);omega) rfl k_ ?_;rotate_left;refine CG.ay (b:=(!ah u [])) (by rw[wS];rfl) k_ ?_;refine s1 hW 0 1 [] 7 [(26,so u)] ?_;refine CG.bg (a:=u) (b:=[43]) (by(try simp only[aao,aap,aaq]);omega) rfl k_ ?_;refine s4 hW 2 3 [] 2 [(28,so (u++[43])),(29,so (Lib.trimSuffix (Lib.itoa n) [49])),(30,so s)] [(0,.cells [so (u++[43])])] ?_;refine CG.bg (a:=(Lib.trimSuffix (Lib.itoa n) [49])) (b:=s) (by(try simp only[aao,aap,aaq]);omega) rfl k_ ?_;refine CG.bg (a:=(u++[43])) (b:=(Lib.trimSuffix (Lib.itoa n) [49]++s)) (by(try simp only[aao,aap,aaq]);omega) rfl k_ ?_;rotate_left;rw[jk];refine s1 hW 2 0 [] 15 [(17,bo (aP n (-1)))] ?_;refine cq n (-1) (fun qG AK=>?_ ) (fun qG AK=>?_ );refine CG.ay qG k_ ?_;refine a_ hW 0 1 [] 15 [(18,so (Lib.itoa n))] (hT) ?_;refine s1 hW 4 3 [] 6 [(5,so (Lib.trimSuffix (Lib.itoa n) [49])),(22,bo (!aI n 0))] ?_;have ur:(aI n 0)=true:=fe;rw[ur];refine s1 hW 5 3 [false] 2 [(28,so u),(29,so (Lib.trimSuffix (Lib.itoa n) [49])),(30,so s)] ?_;refine CG.bg (a:=(Lib.trimSuffix (Lib.itoa n) [49])) (b:=s) (by(try simp only[aao,aap,aaq]);omega) rfl k_ ?_;refine CG.bg (a:=u) (b:=(Lib.trimSuffix (Lib.itoa n) [49]++s)) (by(try simp only[aao,aap,aaq]);omega) rfl k_ ?_;rotate_left;refine CG.ao qG k_ ?_;refine s1 hW 4 3 [] 14 [(22,bo (!aI n 0))] ?_;refine kf n 0 (fun rH ME=>?_ ) (fun rH ME=>?_ );rw[rH];refine s1 hW 5 3 [false] 2 [(28,so u),(29,so (Lib.itoa n)),(30,so s)] ?_;refine CG.bg (a:=(Lib.itoa n)) (b:=s) (by(try simp only[aao,aap,aaq]);omega) rfl k_ ?_;refine CG.bg (a:=u) (b:=(Lib.itoa n++s)) (by(try simp only[aao,aap,aaq]);omega) rfl k_ ?_;rotate_left;rw[rH];refine s1 hW 2 0 [] 7 [(25,bo (!ah u []))] ?_;refine sp (ah u []) (fun I0=>?_ ) (fun I0=>?_ );refine CG.ao (b:=(!ah u [])) (by rw[I0];rfl) k_ ?_;refine s1 hW 2 3 [] 2 [(28,so u),(29,so (Lib.itoa n)),(30,so s)] ?_;refine CG.bg (a:=(Lib.itoa n)) (b:=s) (by(try simp only[aao,aap,aaq]);omega) rfl k_ ?_;refine CG.bg (a:=u) (b:=(Lib.itoa n++s)) (by(try simp only[aao,aap,aaq]);omega) rfl k_ ?_;rotate_left;refine CG.ay (b:=(!ah u [])) (by rw[I0];rfl) k_ ?_;refine s1 hW 0 1 [] 7 [(26,so u)] ?_;refine CG.bg (a:=u) (b:=[43]) (by(try simp only[aao,aap,aaq]);omega) rfl k_ ?_;refine s4 hW 2 3 [] 2 [(28,so (u++[43])),(29,so (Lib.itoa n)),(30,so s)] [(0,.cells [so (u++[43])])] ?_;refine CG.bg (a:=(Lib.itoa n)) (b:=s) (by(try simp only[aao,aap,aaq]);omega) rfl k_ ?_;refine CG.bg (a:=(u++[43])) (b:=(Lib.itoa n++s)) (by(try simp only[aao,aap,aaq]);omega) rfl k_ ?_;rotate_left
 ·exact CG.pL (u++(Lib.itoa n++s)) (u:=so u) rfl rfl k_ ⟨rfl,_,by(simp only[aao,aap,aaq];omega),rfl⟩
 ·exact CG.pL (u++(Lib.itoa n++s)) (u:=so u) rfl rfl k_ ⟨rfl,_,by(simp only[aao,aap,aaq];omega),rfl⟩
 ·exact CG.pL (u++[43]++(Lib.itoa n++s)) (u:=so (u++[43])) rfl rfl k_ ⟨rfl,_,by(simp only[aao,aap,aaq];omega),rfl⟩
 ·exact CG.pL (u++(Lib.trimSuffix (Lib.itoa n) [49]++s)) (u:=so u) rfl rfl k_ ⟨rfl,_,by(simp only[aao,aap,aaq];omega),rfl⟩
 ·exact CG.pL (u++[43]++(Lib.trimSuffix (Lib.itoa n) [49]++s)) (u:=so (u++[43])) rfl rfl k_ ⟨rfl,_,by(simp only[aao,aap,aaq];omega),rfl⟩
 ·exact CG.pL (u++(Lib.trimSuffix (Lib.itoa n) [49]++s)) (u:=so u) rfl rfl k_ ⟨rfl,_,by(simp only[aao,aap,aaq];omega),rfl⟩
 ·exact CG.pL (u++(Lib.itoa n++s)) (u:=so u) rfl rfl k_ ⟨rfl,_,by(simp only[aao,aap,aaq];omega),rfl⟩
 ·exact CG.pL (u++(Lib.itoa n++s)) (u:=so u) rfl rfl k_ ⟨rfl,_,by(simp only[aao,aap,aaq];omega),rfl⟩
 ·exact CG.pL (u++[43]++(Lib.itoa n++s)) (u:=so (u++[43])) rfl rfl k_ ⟨rfl,_,by(simp only[aao,aap,aaq];omega),rfl⟩
theorem mZ(hW:W0 W)(x:aq)(hs:aq.sm x):PC P (gl W) 156 [.agg (x.aa.map .d)] (sn 1024):=by
 refine CG.fO RN RO rfl ?_;have hv:=tL hW x.c x.ts hs.1 hs.2;refine s1 hW 1 0 [] 1 [] ?_;refine CG.dt ?_;refine CG.cU (cs:=[.int .i64 x.c,.list (x.ts.map Cf.aa)]) rfl k_ rfl ?_;refine a_ hW 4 1 [] 2 [(2,sE),(7,.agg x.ce)] (hv) ?_;refine s1 hW 2 0 [] 3 [(9,bo (!dF x.c x.ts))] ?_;refine sp (dF x.c x.ts) (fun q6=>?_ ) (fun q6=>?_ );refine CG.ao (b:=(!dF x.c x.ts)) (by rw[q6];rfl) k_ ?_;refine s4 hW 13 0 [] 3 [(3,.ptr 0 1 0),(4,.func 211 [] [.ptr 0 1 0]),(12,lo Cf.aa x.ts),(13,no (x.ts.map Cf.aa).length),(14,i0)] [(0,.cells [sE])] ?_;rotate_left;refine CG.ay (b:=(!dF x.c x.ts)) (by rw[q6];rfl) k_ ?_;refine s1 hW 3 0 [] 3 [] ?_;refine CG.cG (sE) ?_;rotate_left
 ·have hl:=Jn (x:=x) (by assumption);have hc:=TS (x:=x) (by assumption);refine CG.bh x.ts (fun i u=>[(1,.aO [.int .i64 x.c,.list (x.ts.map Cf.aa)]),(2,sE),(3,.ptr 0 1 0),(4,.func 211 [] [.ptr 0 1 0]),(12,lo Cf.aa x.ts),(13,no (x.ts.map Cf.aa).length),(14,.d (.int .i64 (.ofNat i)))]) (fun i u=>[some (.cells [so u])]) (fun i u r=>(u.length<=64*i)) ([]:List UInt8) ?_ (ax.refl _ _) ?_ ?_
  ·exact aaP _
  ·intro i u hi cQ aF;have hp:=Cb hW u [] x.c (by omega) (by simp) (by omega) (by omega);unfold hS at hp;refine gF hW 4 0 [] 95 [(15,bo (aI (Int.ofNat i) (Int.ofNat (x.ts.map Cf.aa).length)))] (fp i (x.ts.map Cf.aa).length) ?_;refine CG.aX (by decide) ?_;refine s1 hW 4 4 [] 15 [(28,bo (!aP x.c 0))] ?_;refine cq x.c 0 (fun iA xj=>?_ ) (fun iA xj=>?_ );rw[iA];refine s1 hW 2 0 [] 15 [(31,bo (ah u []))] ?_;refine sp (ah u []) (fun iq=>?_ ) (fun iq=>?_ );refine CG.ay iq k_ ?_;refine s1 hW 0 3 [] 6 [(32,.func 211 [] [.ptr 0 1 0]),(34,io x.c)] ?_;rotate_left;refine CG.ao iq k_ ?_;refine s1 hW 5 0 [] 0 [(2,so u)] ?_;refine CG.cG (so u) ?_;rotate_left;rw[iA];refine s1 hW 3 3 [true] 6 [(32,.func 211 [] [.ptr 0 1 0]),(34,io x.c)] ?_;rotate_left
   ·refine CG.tu (first:=[]) (cap:=[.ptr 0 1 0]) hp rfl k_ ?_;rintro v H' ⟨rfl,u',Ux,rfl⟩;simp only[aaq]at Ux;refine s1 hW 5 0 [] 0 [(2,so u')] ?_;refine CG.cG (so u') ?_;rotate_left;exact⟨_,rfl,show u'.length<=1024 by omega⟩
   ·exact⟨_,rfl,show u.length<=1024 by omega⟩
   ·refine CG.tu (first:=[]) (cap:=[.ptr 0 1 0]) hp rfl k_ ?_;rintro v H' ⟨rfl,u',Ux,rfl⟩;simp only[aaq]at Ux;refine s1 hW 5 0 [] 0 [(2,so u')] ?_;refine CG.cG (so u') ?_;rotate_left;exact⟨_,rfl,show u'.length<=1024 by omega⟩
  ·intro i u c r cQ hx cy aF;have cO:True:=trivial;have hcm:=aat hx;have h1:=hl.2 c hcm;have h2:=hc.2 c hcm;have hp:=Cb hW u c.var c.c (by omega) (by omega) (by omega) (by omega);unfold hS at hp;refine fx hW 4 0 [] 127 [(15,bo (aI (Int.ofNat i) (Int.ofNat (x.ts.map Cf.aa).length)))] (eV i (x.ts.map Cf.aa).length) ?_;refine s1 hW 5 0 [] 127 [] ?_;refine CG.dt ?_;refine CG.ix (aG (aa:=Cf.aa) hx) rfl k_ ?_;refine s1 hW 0 1 [] 127 [(17,.agg [so c.var,io c.c])] ?_;refine CG.dB (cs:=[.str c.var,.int .i64 c.c]) rfl (fun _=>by kernel_rfl) rfl ?_;refine s1 hW 2 5 [] 239 [(18,.func 211 [] [.ptr 0 1 0]),(20,io c.c),(22,so c.var)] ?_;rotate_left;refine CG.tu (first:=[]) (cap:=[.ptr 0 1 0]) hp rfl k_ ?_;rintro v H' ⟨rfl,u',Ux,rfl⟩;refine fU hW 3 2 [] [(1,.aO [.int .i64 x.c,.list (x.ts.map Cf.aa)]),(2,sE),(3,.ptr 0 1 0),(4,.func 211 [] [.ptr 0 1 0]),(12,lo Cf.aa x.ts),(13,no (x.ts.map Cf.aa).length),(14,io (aW IntKind.i64 (bJ (Int.ofNat i) 1)))] ([some (.cells [so u'])]) ?_;rw[bf (by omega)];rotate_left;exact⟨u',by omega,ax.refl _ _⟩
 ·exact⟨_,rfl,aaP _⟩
end Fw.Tz.P1
/-
  Numbers appended to rows of bytes.
-/
namespace Fw.Tz.P4
open Go Go.Proofs Fw.X Fw.Tz Fw.Nu Fw.Tz.Sd Fw.Tz.Na Fw.Tz.El Fw.Tz.Va Fw.Tz.Vb Fw.Tz.Tm Fw.Tz.Pj Fw.Tz.P1 Fw.Tz.P3
variable {W:World}
def Cc(v:Option V):Bool:=match v with
 |some (.d (.str s))=>Nat.ble 1 s.length&&Nat.ble s.length 2
 |_=>false
theorem DG:(List.range 100).all (fun k=>Cc (S8 W re .e 40 339 [no k]))=true:=k_
theorem mw(hW:W0 W)(k:Nat)(hk:k<100):∃s:List UInt8,1<=s.length/\s.length<=2/\PC P (gl W) 339 [no k] (so s):=by
 have h:=aaJ.1 (DG (W:=W)) k (aa'.2 hk);cases hv:S8 W re .e 40 339 [no k]with
  |none=>rw[hv]at h;cases h
  |some v=>
   rw[hv]at h;unfold Cc at h;split at h
   ·rename_i s hs;simp only[aar]at hs;subst hs;simp only[aas,abG]at h;exact⟨s,h.1,h.2,tF hW ju 40 _ _ _ hv⟩
   ·cases h
end Fw.Tz.P4
/-
  Numbers appended to rows of bytes.
-/
namespace Fw.Tz.P4
open Go Go.Proofs Fw.X Fw.Tz Fw.Nu Fw.Tz.Sd Fw.Tz.Na Fw.Tz.El Fw.Tz.Va Fw.Tz.Vb Fw.Tz.Tm Fw.Tz.Pj Fw.Tz.P1 Fw.Tz.P3
variable {W:World}
abbrev xl(l:List UInt8):V:=.full (l.map bW)
abbrev kB(b:Nat)(l:List UInt8):V:=.sl b (l.length*1) 0 l.length 1
def hB(c:V)(o:Option (List UInt8))(l:List UInt8):an:=[some (.cells [c]),o.map (aK bW),some (aK bW l)]
def zs:List UInt8:=[0,0,0,0,0,0,0,0,0,0,0,0,0,0,0,0,0,0,0,0,0,0,0,0]
theorem mB{l:List UInt8}(h:1<=l.length):l≠[]:=fun e=>by rw[e]at h;simp at h
theorem GV(u:Nat)(h:u<100):IntKind.wrap .i64 (Int.ofNat u)=Int.ofNat u:=by rw[IntKind.wrap_i64];simp only[abf];omega
theorem NL(hW:W0 W)(l0 l:List UInt8)(u:Nat)(hl:l.length<1048577)(hu:u<18446744073709551616):WF P (gl W) 316 [xl l,.d (.int .u64 (.ofNat u)),no 10] [some (.cells [xl l0])] (fun v H'=>∃l' o,l'≠[]/\l'.length<=l.length+20/\v=kB 2 l'/\H'=hB (xl l0) o l'):=by
 refine CG.b_ Kn Ko rfl ?_;by_cases h:u<100
 ·obtain⟨s,Hn,BH,hS⟩:=mw hW u h;refine CG.tidy ax.pad ?_;refine fx hW 12 0 [true] 7 [(6,.ak),(12,bo (aI (Int.ofNat u) 100))] (show(aI (Int.ofNat u) 100)=true from fe) ?_;refine s1 hW 1 3 [] 15 [(13,.full (l.map bW)),(15,io (IntKind.wrap IntKind.i64 (Int.ofNat u)))] ?_;rotate_left;rw[GV u h];refine CG.pg (hS) rfl k_ ?_;rotate_left;refine CG.PX (sz:=1) (bytes:=1) bW l s (so s) (fun _=>rfl) Nat.one_pos (mB Hn) rfl k_ (tq _ _) (by omega) ?_;refine s1 hW 2 0 [] 7 [(6,.sl 2 (List.length (l++s)*1) 0 (l++s).length 1)] ?_;refine CG.cG (.sl 2 (List.length (l++s)*1) 0 (l++s).length 1) ?_;rotate_left;exact⟨l++s,none,mB (by rw[aao];omega),by rw[aao];omega,rfl,rfl⟩
 ·have hN:=pY hW u (by omega) hu;have oJ:=KJ u (by omega) hu;refine gF hW 12 0 [true] 7 [(6,.ak),(12,bo (aI (Int.ofNat u) 100))] (show(aI (Int.ofNat u) 100)=false from eW) ?_;refine s4 hW 6 1 [] 15 [(7,.ptr 1 24 0),(18,.d (.int .u64 (.ofNat u)))] [(1,.cells [.d (.int .u8 0),.d (.int .u8 0),.d (.int .u8 0),.d (.int .u8 0),.d (.int .u8 0),.d (.int .u8 0),.d (.int .u8 0),.d (.int .u8 0),.d (.int .u8 0),.d (.int .u8 0),.d (.int .u8 0),.d (.int .u8 0),.d (.int .u8 0),.d (.int .u8 0),.d (.int .u8 0),.d (.int .u8 0),.d (.int .u8 0),.d (.int .u8 0),.d (.int .u8 0),.d (.int .u8 0),.d (.int .u8 0),.d (.int .u8 0),.d (.int .u8 0),.d (.int .u8 0)])] ?_;refine CG.pg (hN) rfl k_ ?_;refine s1 hW 3 1 [] 31 [(8,no (Lib.nDigits u)),(20,no (Lib.nDigits u))] ?_;rotate_left;refine CG.oh [some (.cells [xl l0]),some (aK bW zs)] rfl ?_;refine CG.Ir zs 1 24 (Lib.nDigits u) 24 rfl (by omega) (by omega) rfl rfl k_ ?_;refine s1 hW 0 1 [] 191 [(22,.d (.int .u64 (.ofNat u)))] ?_;rotate_left;refine CG.yx (GR hW [some (.cells [xl l0]),some (aK bW zs)] 1 zs (Lib.nDigits u) u rfl (by simp[zs]) (by simp[zs];omega) (Lib.lt_pow_nDigits u) hu (by simp[zs])) rfl rfl k_ rfl ?_;rintro v H' ⟨rfl,z2,Hu,rfl⟩;refine CG.oh [some (.cells [xl l0]),some (aK bW z2)] rfl ?_;have Hv:z2.length=24:=Hu;refine s1 hW 3 2 [] 31 [(24,.full (l.map bW)),(25,no (Lib.nDigits u))] ?_;rotate_left;refine CG.Ir z2 1 24 (Lib.nDigits u) 24 Hv (by omega) (by omega) rfl rfl k_ ?_;have NM:z2≠[]:=mB (by omega);have N_:(z2.take (Lib.nDigits u)).length=Lib.nDigits u:=by rw[abB];omega
  refine CG.PX (sz:=1) (bytes:=1) bW l (z2.take (Lib.nDigits u)) (.sl 1 (z2.length*1) 0 (Lib.nDigits u) 1) (fun _=>rfl) Nat.one_pos (mB (by omega)) rfl k_ (oj (Lib.nDigits u) Nat.one_pos (fun _=>rfl) rfl (by omega) NM) (by omega) ?_;refine s1 hW 2 0 [] 7 [(6,.sl 2 (List.length (l++List.take (Lib.nDigits u) z2)*1) 0 (List.length (l++List.take (Lib.nDigits u) z2)) 1)] ?_;refine CG.cG (.sl 2 (List.length (l++List.take (Lib.nDigits u) z2)*1) 0 (List.length (l++List.take (Lib.nDigits u) z2)) 1) ?_;rotate_left;exact⟨l++z2.take (Lib.nDigits u),some z2,mB (by rw[aao];omega),by rw[aao];omega,rfl,rfl⟩
end Fw.Tz.P4
/-
  Numbers appended to rows of bytes, further.
-/
namespace Fw.Tz.P4
open Go Go.Proofs Fw.X Fw.Tz Fw.Nu Fw.Tz.Sd Fw.Tz.Na Fw.Tz.El Fw.Tz.Va Fw.Tz.Vb Fw.Tz.Tm Fw.Tz.Pj Fw.Tz.P1 Fw.Tz.P3
variable {W:World}
theorem KK(k:Nat)(h:k<18446744073709551616):IntKind.wrap .u64 (Int.ofNat k)=Int.ofNat k:=by rw[IntKind.wrap_u64];simp only[abf];omega
theorem Fo(n:Int)(h0: -9223372036854775808<=n)(h1:n<0):IntKind.wrap .u64 (0 - IntKind.wrap .u64 n)=Int.ofNat n.natAbs:=by rw[IntKind.wrap_u64,IntKind.wrap_u64];simp only[abf];omega
theorem DH(lc l:List UInt8)(o:Option (List UInt8)):a6 3 (hB (kB 2 lc) o l)=true:=by cases o<;>simp only[hB,a6,abp,aaI,di,aaW,aaU]<;>simp[dq,aJ,aE]
theorem GW(hW:W0 W)(lc l:List UInt8)(o:Option (List UInt8))(u:Nat)(hl:l.length<1048577)(hu:u<18446744073709551616):WF P (gl W) 316 [kB 2 l,.d (.int .u64 (.ofNat u)),no 10] (hB (kB 2 lc) o l) (fun v H'=>∃l',l'≠[]/\l'.length<=l.length+20/\v=kB 2 l'/\H'=hB (kB 2 lc) o l'):=by
 refine WF.cut ?_;refine CG.b_ Kn Ko rfl ?_;unfold hB;by_cases h:u<100
 ·obtain⟨s,Hn,BH,hS⟩:=mw hW u h;refine fx hW 12 0 [true] 7 [(6,.ak),(12,bo (aI (Int.ofNat u) 100))] (show(aI (Int.ofNat u) 100)=true from fe) ?_;refine s1 hW 1 3 [] 15 [(13,.sl 2 (List.length l*1) 0 l.length 1),(15,io (IntKind.wrap IntKind.i64 (Int.ofNat u)))] ?_;rotate_left;rw[GV u h];refine CG.pg (hS) rfl k_ ?_;rotate_left;refine CG.uq (sz:=1) (bytes:=1) bW l s 2 (so s) (fun _=>rfl) rfl rfl k_ (tq _ _) (by omega) ?_;refine s1 hW 2 0 [] 7 [(6,.sl 2 (List.length (l++s)*1) 0 (l++s).length 1)] ?_;refine CG.cG (.sl 2 (List.length (l++s)*1) 0 (l++s).length 1) ?_;rotate_left;exact .inl ⟨l++s,mB (by rw[aao];omega),by rw[aao];omega,rfl,rfl⟩
 ·have hN:=pY hW u (by omega) hu;have oJ:=KJ u (by omega) hu;refine gF hW 12 0 [true] 7 [(6,.ak),(12,bo (aI (Int.ofNat u) 100))] (show(aI (Int.ofNat u) 100)=false from eW) ?_;refine s4 hW 6 1 [] 15 [(7,.ptr 3 24 0),(18,.d (.int .u64 (.ofNat u)))] [(3,.cells [.d (.int .u8 0),.d (.int .u8 0),.d (.int .u8 0),.d (.int .u8 0),.d (.int .u8 0),.d (.int .u8 0),.d (.int .u8 0),.d (.int .u8 0),.d (.int .u8 0),.d (.int .u8 0),.d (.int .u8 0),.d (.int .u8 0),.d (.int .u8 0),.d (.int .u8 0),.d (.int .u8 0),.d (.int .u8 0),.d (.int .u8 0),.d (.int .u8 0),.d (.int .u8 0),.d (.int .u8 0),.d (.int .u8 0),.d (.int .u8 0),.d (.int .u8 0),.d (.int .u8 0)])] ?_;refine CG.pg (hN) rfl k_ ?_;refine s1 hW 3 1 [] 31 [(8,no (Lib.nDigits u)),(20,no (Lib.nDigits u))] ?_;rotate_left;refine CG.oh [some (.cells [kB 2 lc]),o.map (aK bW),some (aK bW l),some (aK bW zs)] rfl ?_;refine CG.Ir zs 3 24 (Lib.nDigits u) 24 rfl (by omega) (by omega) rfl rfl k_ ?_;refine s1 hW 0 1 [] 191 [(22,.d (.int .u64 (.ofNat u)))] ?_;rotate_left;refine CG.yx (GR hW [some (.cells [kB 2 lc]),o.map (aK bW),some (aK bW l),some (aK bW zs)] 3 zs (Lib.nDigits u) u rfl (by simp[zs]) (by simp[zs];omega) (Lib.lt_pow_nDigits u) hu (by simp[zs])) rfl rfl k_ rfl ?_;rintro v H' ⟨rfl,z2,Hu,rfl⟩;refine CG.oh [some (.cells [kB 2 lc]),o.map (aK bW),some (aK bW l),some (aK bW z2)] rfl ?_;have Hv:z2.length=24:=Hu;refine s1 hW 3 2 [] 31 [(24,.sl 2 (List.length l*1) 0 l.length 1),(25,no (Lib.nDigits u))] ?_;rotate_left;refine CG.Ir z2 3 24 (Lib.nDigits u) 24 Hv (by omega) (by omega) rfl rfl k_ ?_;have NM:z2≠[]:=mB (by omega);have N_:(z2.take (Lib.nDigits u)).length=Lib.nDigits u:=by rw[abB];omega
  refine CG.uq (sz:=1) (bytes:=1) bW l (z2.take (Lib.nDigits u)) 2 (.sl 3 (z2.length*1) 0 (Lib.nDigits u) 1) (fun _=>rfl) rfl rfl k_ (oj (Lib.nDigits u) Nat.one_pos (fun _=>rfl) rfl (by omega) NM) (by omega) ?_;refine s1 hW 2 0 [] 7 [(6,.sl 2 (List.length (l++List.take (Lib.nDigits u) z2)*1) 0 (List.length (l++List.take (Lib.nDigits u) z2)) 1)] ?_;refine CG.cG (.sl 2 (List.length (l++List.take (Lib.nDigits u) z2)*1) 0 (List.length (l++List.take (Lib.nDigits u) z2)) 1) ?_;rotate_left;exact .inr ⟨rfl,DH lc (l++z2.take (Lib.nDigits u)) o,l++z2.take (Lib.nDigits u),mB (by rw[aao];omega),by rw[aao];omega,rfl,rfl⟩
theorem NN(hW:W0 W)(l0 l:List UInt8)(k:Nat)(hl:l.length<1048577)(hk:k<9223372036854775808):WF P (gl W) 275 [xl l,no k,no 10] [some (.cells [xl l0])] (fun v H'=>∃l' o,l'≠[]/\l'.length<=l.length+20/\v=kB 2 l'/\H'=hB (xl l0) o l'):=by refine CG.b_ Kl Km rfl ?_;refine s1 hW 14 3 [false] 0 [(6,.ak),(17,.full (l.map bW)),(18,.d (.int .u64 (IntKind.wrap IntKind.u64 (Int.ofNat k)))),(19,io 10)] ?_;rotate_left;rw[KK k (by omega)];rotate_left;refine CG.yx (NL hW l0 l k hl (by omega)) rfl rfl k_ rfl ?_;rintro v H' ⟨l',o,h1,h2,rfl,rfl⟩;unfold hB;refine s1 hW 2 0 [] 0 [(6,.sl 2 (List.length l'*1) 0 l'.length 1)] ?_;refine CG.cG (.sl 2 (List.length l'*1) 0 l'.length 1) ?_;rotate_left;exact⟨l',o,h1,h2,rfl,rfl⟩
theorem NO(hW:W0 W)(lc l:List UInt8)(o:Option (List UInt8))(n:Int)(hl:l.length<1048000)(h0: -9223372036854775808<=n)(h1:n<=9223372036854775807):WF P (gl W) 275 [kB 2 l,io n,no 10] (hB (kB 2 lc) o l) (fun v H'=>∃l',l'≠[]/\l'.length<=l.length+21/\v=kB 2 l'/\H'=hB (kB 2 lc) o l'):=by
 refine CG.b_ Kl Km rfl ?_;unfold hB;by_cases hn:n<0
 ·refine fx hW 10 0 [] 5 [(6,.ak),(7,.d (.int .u64 (IntKind.wrap IntKind.u64 n))),(11,bo (aI n 0))] (show(aI n 0)=true from fe) ?_;refine s1 hW 1 2 [] 15 [(12,.sl 2 (List.length l*1) 0 l.length 1),(13,.d (.list [[.int .u8 45]]))] ?_;rotate_left;refine CG.uq (sz:=1) (bytes:=1) bW l [45] 2 (.d (.list [[.int .u8 45]])) (fun _=>rfl) rfl rfl k_ rfl (by simp only[aap,aaq];omega) ?_;refine s1 hW 5 3 [] 4 [(17,.sl 2 (List.length (l++[45])*1) 0 (l++[45]).length 1),(18,.d (.int .u64 (IntKind.wrap IntKind.u64 (0 - IntKind.wrap IntKind.u64 n)))),(19,io 10)] ?_;rotate_left;rw[Fo n h0 hn];rotate_left;have xk:=GW hW lc (l++[45]) o n.natAbs (by rw[aao];simp only[aap,aaq];omega) (by omega);unfold hB at xk;refine CG.yx xk rfl rfl k_ rfl ?_;rintro v H' ⟨l',a1,a2,rfl,rfl⟩;refine s1 hW 2 0 [] 0 [(6,.sl 2 (List.length l'*1) 0 l'.length 1)] ?_;refine CG.cG (.sl 2 (List.length l'*1) 0 l'.length 1) ?_;rotate_left;exact⟨l',a1,by rw[aao]at a2;simp only[aap,aaq]at a2;omega,rfl,rfl⟩
 ·obtain⟨k,rfl⟩:∃k:Nat,n=Int.ofNat k:=⟨n.toNat,by simp;omega⟩;simp only[abf]at h1;refine s1 hW 14 3 [false] 0 [(6,.ak),(17,.sl 2 (List.length l*1) 0 l.length 1),(18,.d (.int .u64 (IntKind.wrap IntKind.u64 (Int.ofNat k)))),(19,io 10)] ?_;rotate_left;rw[KK k (by omega)];rotate_left;have xk:=GW hW lc l o k (by omega) (by omega);unfold hB at xk;refine CG.yx xk rfl rfl k_ rfl ?_;rintro v H' ⟨l',a1,a2,rfl,rfl⟩;refine s1 hW 2 0 [] 0 [(6,.sl 2 (List.length l'*1) 0 l'.length 1)] ?_;refine CG.cG (.sl 2 (List.length l'*1) 0 l'.length 1) ?_;rotate_left;exact⟨l',a1,by omega,rfl,rfl⟩
theorem Cd(hW:W0 W)(l:List UInt8)(k:Nat)(hl:l.length<1048000)(hk:k<9223372036854775808):WF P (gl W) 214 [no k,bF,.ptr 0 1 0] [some (.cells [xl l])] (fun v H'=>v=.tuple []/\∃l' o,l'≠[]/\l'.length<=l.length+20/\H'=hB (kB 2 l') o l'):=by
 refine CG.b_ Kf Kg rfl ?_;have hp:WF P (gl W) 215 [xl l,no k,no 10] [some (.cells [xl l])] (fun v H'=>∃l' o,l'≠[]/\l'.length<=l.length+20/\v=kB 2 l'/\H'=hB (xl l) o l'):=by refine CG.b_ Kh Ki rfl ?_;refine s1 hW 4 3 [] 0 [(6,.ak),(7,.full (l.map bW)),(8,no k),(9,io 10)] ?_;rotate_left;refine CG.yx (NN hW l l k (by omega) hk) rfl rfl k_ rfl ?_;rintro v H' ⟨l',o,h1,h2,rfl,rfl⟩;unfold hB;refine s1 hW 2 0 [] 0 [(6,.sl 2 (List.length l'*1) 0 l'.length 1)] ?_;refine CG.cG (.sl 2 (List.length l'*1) 0 l'.length 1) ?_;rotate_left;exact⟨l',o,h1,h2,rfl,rfl⟩
 refine s1 hW 7 2 [false] 4 [(9,.full (l.map bW)),(10,no k)] ?_;rotate_left;refine CG.yx hp rfl rfl k_ rfl ?_;rintro v H' ⟨l',o,h1,h2,rfl,rfl⟩;unfold hB;rotate_left;exact CG.Ax (kB 2 l') (xl l) [o.map (aK bW),some (aK bW l')] rfl rfl k_ rfl rfl ⟨rfl,l',o,h1,h2,rfl⟩
theorem m_(hW:W0 W)(b:Bool)(l:List UInt8)(o:Option (List UInt8))(n:Int)(hl:l.length<1047000)(h0: -9223372036854775808<=n)(h1:n<=9223372036854775807):WF P (gl W) 214 [io n,bo b,.ptr 0 1 0] (hB (kB 2 l) o l) (fun v H'=>v=.tuple []/\∃l',l'≠[]/\l'.length<=l.length+22/\H'=hB (kB 2 l') o l'):=by
 have hp:∀m:List UInt8,m.length<1048000->WF P (gl W) 215 [kB 2 m,io n,no 10] (hB (kB 2 m) o m) (fun v H'=>∃l',l'≠[]/\l'.length<=m.length+21/\v=kB 2 l'/\H'=hB (kB 2 m) o l'):=by intro m hm;refine CG.b_ Kh Ki rfl ?_;have xk:=NO hW m m o n hm h0 h1;unfold hB at xk⊢;refine s1 hW 4 3 [] 0 [(6,.ak),(7,.sl 2 (List.length m*1) 0 m.length 1),(8,io n),(9,io 10)] ?_;rotate_left;refine CG.yx xk rfl rfl k_ rfl ?_;rintro v H' ⟨l',a1,a2,rfl,rfl⟩;refine s1 hW 2 0 [] 0 [(6,.sl 2 (List.length l'*1) 0 l'.length 1)] ?_;refine CG.cG (.sl 2 (List.length l'*1) 0 l'.length 1) ?_;rotate_left;exact⟨l',a1,a2,rfl,rfl⟩
 refine CG.b_ Kf Kg rfl ?_;unfold hB at hp⊢;cases b with
  |false=>refine s1 hW 7 2 [false] 4 [(9,.sl 2 (List.length l*1) 0 l.length 1),(10,io n)] ?_;rotate_left;refine CG.yx (hp l (by omega)) rfl rfl k_ rfl ?_;rintro v H' ⟨l',a1,a2,rfl,rfl⟩;rotate_left;exact CG.Ax (kB 2 l') (kB 2 l) [o.map (aK bW),some (aK bW l')] rfl rfl k_ rfl rfl ⟨rfl,l',a1,by omega,rfl⟩
  |true=>refine s1 hW 5 2 [true] 5 [(6,.sl 2 (List.length l*1) 0 l.length 1),(7,.d (.list [[.int .u8 32]]))] ?_;rotate_left;refine CG.uq (sz:=1) (bytes:=1) bW l [32] 2 (.d (.list [[.int .u8 32]])) (fun _=>rfl) rfl rfl k_ rfl (by simp only[aap,aaq];omega) ?_;refine s4 hW 2 2 [] 2 [(9,.sl 2 (List.length (l++[32])*1) 0 (l++[32]).length 1),(10,io n)] [(0,.cells [.sl 2 (List.length (l++[32])*1) 0 (l++[32]).length 1])] ?_;rotate_left;refine CG.yx (hp (l++[32]) (by rw[aao];simp only[aap,aaq];omega)) rfl rfl k_ rfl ?_;rintro v H' ⟨l',a1,a2,rfl,rfl⟩;rw[aao]at a2;simp only[aap,aaq]at a2;rotate_left;exact CG.Ax (kB 2 l') (kB 2 (l++[32])) [o.map (aK bW),some (aK bW l')] rfl rfl k_ rfl rfl ⟨rfl,l',a1,by omega,rfl⟩
end Fw.Tz.P4
/-
  The text of an array, by the program: its length.
-/
namespace Fw.Tz.P6
open Go Go.Proofs Fw.X Fw.Tz Fw.Nu Fw.Tz.Sd Fw.Tz.Na Fw.Tz.El Fw.Tz.Va Fw.Tz.Vb Fw.Tz.Tm Fw.Tz.Pj Fw.Tz.P1 Fw.Tz.P3 Fw.Tz.P4 Fw.Tz.Ar
variable {W:World}
theorem GX:∀(l:List Int)(a:Int),a<=4096->(rj a l).1<=4096:=by
 intro l;induction l with
  |nil=>intro a h;exact h
  |cons d l ih=>
   intro a h;rw[rj];by_cases hx:4096<a*d
   ·rw[aaF hx];exact(by omega:(0:Int)<=4096)
   ·rw[aaH hx];exact ih _ (by omega)
theorem GY{e:List UInt8}{ad av:List Int}(h:nk e ad av=true):ad.length<=6/\(∀d∈ad,0<=d/\d<=4096)/\av.length<=4096/\∀n∈av,-2147483648<=n/\n<=2147483647:=by
 unfold nk DY at h;split at h
 ·cases h
 split at h
 ·rename_i h1 h2;rw[dd]at h;exact absurd (by simpa using h) h2
 split at h
 ·cases h
 split at h
 ·cases h
 rename_i h1 h2 h3 h4;simp only[ne_eq,Decidable.not_not]at h2 h3;have hav:∀n∈av,-2147483648<=n/\n<=2147483647:=by
  intro n hn;have hx:rI e n=true:=by
   cases hb:rI e n with
    |true=>rfl
    |false=>exact absurd (ab2.2 ⟨n,hn,by rw[hb];rfl⟩) h4
  unfold rI at hx;split at hx
  ·simpa using hx
  ·simp only[aas,aaD]at hx;omega
 unfold cz at h2 h3;split at h2
 ·cases h2
 rename_i hl;rw[aaH hl]at h3;split at h2
 ·cases h2
 rename_i hd;rw[aaH hd]at h3;have Lp:∀d∈ad,0<=d/\d<=4096:=by intro d Bk;have:=aaJ.1 (by simpa using hd) d Bk;simpa[uv]using this
 refine⟨by omega,Lp,?_,hav⟩;split at h3
 ·simp only at h3;omega
 ·have:=GX ad 1 (by omega);omega
def J(c:V):Option (List UInt8×Option (List UInt8))->an|none=>[some (.cells [c])]|some (l,o)=>hB (kB 2 l) o l
def TT:Option (List UInt8×Option (List UInt8))->Nat|none=>3|some (l,_)=>l.length
theorem DI(hW:W0 W)(e:List UInt8)(ad av:List Int)(h1:ad.length<1048577)(h2:av.length<1048577):PC P (gl W) 157 [.agg [.d (.str e),.d (.list (ad.map encI)),.d (.list (av.map encI))]] (.tuple [sn 131072,no (if nk e ad av then 0 else 1)]):=by
 refine CG.fO RP RR rfl ?_;have hv:=Gq hW e ad av h1 h2;refine s1 hW 1 0 [] 1 [] ?_;refine CG.dt ?_;refine CG.cU (cs:=[.str e,.list (ad.map Tm.encI),.list (av.map Tm.encI)]) rfl k_ rfl ?_;refine a_ hW 4 1 [] 2 [(2,sE),(3,i0),(8,.agg [so e,lo Tm.encI ad,lo Tm.encI av])] (hv) ?_;refine s1 hW 2 0 [] 7 [(10,bo (!nk e ad av))] ?_;refine sp (nk e ad av) (fun q9=>?_ ) (fun q9=>?_ );refine CG.ao (b:=(!nk e ad av)) (by rw[q9];rfl) k_ ?_;refine s1 hW 3 0 [] 7 [] ?_;refine CG.dt ?_;refine CG.JX [35,91] [[.int .u8 35],[.int .u8 91]] rfl k_ k_ k_ ?_;refine s4 hW 6 0 [] 7 [(4,.ptr 0 1 0),(15,bo (ah e [98,111,111,108]))] [(0,.cells [.full [[.int .u8 35],[.int .u8 91]]])] ?_;refine sp (ah e [98,111,111,108]) (fun hU=>?_ ) (fun hU=>?_ );refine CG.ay hU k_ ?_;refine CG.dt ?_;refine CG.JX [35,98,91] [[.int .u8 35],[.int .u8 98],[.int .u8 91]] rfl k_ k_ k_ ?_;refine s4 hW 10 0 [] 15 [(5,.func 214 [] [.ptr 0 1 0]),(21,no (ad.map Tm.encI).length),(22,i0)] [(0,.cells [.full [[.int .u8 35],[.int .u8 98],[.int .u8 91]]])] ?_;rotate_left;refine CG.ao hU k_ ?_;refine s1 hW 10 0 [] 15 [(5,.func 214 [] [.ptr 0 1 0]),(21,no (ad.map Tm.encI).length),(22,i0)] ?_;rotate_left;refine CG.ay (b:=(!nk e ad av)) (by rw[q9];rfl) k_ ?_;refine s1 hW 3 0 [] 3 [(3,io 1)] ?_;refine CG.cG (.tuple [sE,io 1]) ?_;rotate_left
 ·obtain⟨k1,k2,k3,k4⟩:=GY (by assumption);refine CG.oh (J (.full [[.int .u8 35],[.int .u8 98],[.int .u8 91]]) none) rfl ?_;have ij:True:=trivial;refine CG.bh ad (fun i a=>[(1,.aO [.str e,.list (ad.map Tm.encI),.list (av.map Tm.encI)]),(2,sE),(3,i0),(4,.ptr 0 1 0),(5,.func 214 [] [.ptr 0 1 0]),(21,no (ad.map Tm.encI).length),(22,.d (.int .i64 (.ofNat i)))]) (fun i a=>J (.full [[.int .u8 35],[.int .u8 98],[.int .u8 91]]) a) (fun i a r=>((a=none->i=0)/\TT a<=3+22*i)) (none:Option (List UInt8×Option (List UInt8))) ?_ (ax.rC k_) ?_ ?_
  ·exact⟨fun _=>rfl,aaC _⟩
  ·intro i a hi cQ aF;cases a with
    |none=>
     refine CG.oh [some (.cells [xl [35,98,91]])] k_ ?_;refine CG.tidy ax.pad ?_;refine gF hW 4 0 [] 95 [(23,bo (aI (Int.ofNat i) (Int.ofNat (ad.map Tm.encI).length)))] (fp i (ad.map Tm.encI).length) ?_;refine CG.aX (by decide) ?_;refine s4 hW 10 0 [] 31 [(40,no (av.map Tm.encI).length),(41,i0)] [(0,.cells [.sl 2 4 0 4 1]),(2,.cells [.d (.int .u8 35),.d (.int .u8 98),.d (.int .u8 91),.d (.int .u8 58)])] ?_;rotate_left;refine CG.oh (hB (kB 2 [35,98,91,58]) none [35,98,91,58]) k_ ?_;refine CG.bh av (fun j b=>[(1,.aO [.str e,.list (ad.map Tm.encI),.list (av.map Tm.encI)]),(2,sE),(3,i0),(4,.ptr 0 1 0),(5,.func 214 [] [.ptr 0 1 0]),(40,no (av.map Tm.encI).length),(41,.d (.int .i64 (.ofNat j)))]) (fun j b=>hB (kB 2 b) none b) (fun j b r2=>(b.length<=140+22*j)) ([35,98,91,58]) ?_ (ax.rC k_) ?_ ?_
     ·simp only[aao,aap,aaq];omega
     ·intro j b hj qI gj;unfold hB;refine gF hW 4 0 [] 95 [(42,bo (aI (Int.ofNat j) (Int.ofNat (av.map Tm.encI).length)))] (fp j (av.map Tm.encI).length) ?_;refine CG.aX (by decide) ?_;refine s1 hW 3 2 [] 6 [(52,.sl 2 (List.length b*1) 0 b.length 1),(53,.d (.list [[.int .u8 93]]))] ?_;rotate_left;refine CG.uq (sz:=1) (bytes:=1) bW b [93] 2 (.d (.list [[.int .u8 93]])) (fun _=>rfl) rfl rfl k_ rfl (by simp only[aap,aaq];omega) ?_;rotate_left;refine CG.Iq (b:=2) (b++[93]) (by simp) rfl k_ ?_;refine s1 hW 2 0 [] 2 [(2,so (b++[93]))] ?_;refine CG.cG (.tuple [so (b++[93]),i0]) ?_;rotate_left;refine⟨_,rfl,?_,by rw[aaF (by simp_all)];rfl,trivial⟩;show(b++[93]).length<=131072;simp only[aao,aap,aaq];omega
     ·intro j b x r2 qI nb AT gj;have hm:=k4 x (aat nb);refine fx hW 4 0 [] 127 [(42,bo (aI (Int.ofNat j) (Int.ofNat (av.map Tm.encI).length)))] (eV j (av.map Tm.encI).length) ?_;refine s1 hW 7 4 [] 127 [(44,.func 214 [] [.ptr 0 1 0]),(46,lo Tm.encI av),(47,no j)] ?_;refine CG.ix (aG (aa:=Tm.encI) nb) rfl k_ ?_;refine s1 hW 0 1 [] 255 [(49,io x)] ?_;rotate_left;refine CG.tu (first:=[]) (cap:=[.ptr 0 1 0]) (m_ hW true b none x (by omega) (by omega) (by omega)) rfl k_ ?_;rintro v H' ⟨rfl,l',b1,b2,rfl⟩;refine fU hW 3 2 [] [(1,.aO [.str e,.list (ad.map Tm.encI),.list (av.map Tm.encI)]),(2,sE),(3,i0),(4,.ptr 0 1 0),(5,.func 214 [] [.ptr 0 1 0]),(40,no (av.map Tm.encI).length),(41,io (aW IntKind.i64 (bJ (Int.ofNat j) 1)))] ([some (.cells [.sl 2 (List.length l'*1) 0 l'.length 1]),none,some (aK bW l')]) ?_;rw[bf (by omega)];rotate_left;exact⟨l',by omega,ax.refl _ _⟩
    |some lo=>
     obtain⟨l,o⟩:=lo;have hle:l.length<=3+22*i:=aF.2;refine CG.oh [some (.cells [kB 2 l]),o.map (aK bW),some (aK bW l)] rfl ?_;refine gF hW 4 0 [] 95 [(23,bo (aI (Int.ofNat i) (Int.ofNat (ad.map Tm.encI).length)))] (fp i (ad.map Tm.encI).length) ?_;refine CG.aX (by decide) ?_;refine s1 hW 3 2 [] 31 [(35,.sl 2 (List.length l*1) 0 l.length 1),(36,.d (.list [[.int .u8 58]]))] ?_;rotate_left;refine CG.uq (sz:=1) (bytes:=1) bW l [58] 2 (.d (.list [[.int .u8 58]])) (fun _=>rfl) rfl rfl k_ rfl (by simp only[aap,aaq];omega) ?_;refine s4 hW 7 0 [] 31 [(40,no (av.map Tm.encI).length),(41,i0)] [(0,.cells [.sl 2 (List.length (l++[58])*1) 0 (l++[58]).length 1])] ?_;rotate_left;refine CG.oh (hB (kB 2 (l++[58])) o (l++[58])) k_ ?_;refine CG.bh av (fun j b=>[(1,.aO [.str e,.list (ad.map Tm.encI),.list (av.map Tm.encI)]),(2,sE),(3,i0),(4,.ptr 0 1 0),(5,.func 214 [] [.ptr 0 1 0]),(40,no (av.map Tm.encI).length),(41,.d (.int .i64 (.ofNat j)))]) (fun j b=>hB (kB 2 b) o b) (fun j b r2=>(b.length<=140+22*j)) (l++[58]) ?_ (ax.rC k_) ?_ ?_
     ·simp only[aao,aap,aaq];omega
     ·intro j b hj qI gj;unfold hB;refine gF hW 4 0 [] 95 [(42,bo (aI (Int.ofNat j) (Int.ofNat (av.map Tm.encI).length)))] (fp j (av.map Tm.encI).length) ?_;refine CG.aX (by decide) ?_;refine s1 hW 3 2 [] 6 [(52,.sl 2 (List.length b*1) 0 b.length 1),(53,.d (.list [[.int .u8 93]]))] ?_;rotate_left;refine CG.uq (sz:=1) (bytes:=1) bW b [93] 2 (.d (.list [[.int .u8 93]])) (fun _=>rfl) rfl rfl k_ rfl (by simp only[aap,aaq];omega) ?_;rotate_left;refine CG.Iq (b:=2) (b++[93]) (by simp) rfl k_ ?_;refine s1 hW 2 0 [] 2 [(2,so (b++[93]))] ?_;refine CG.cG (.tuple [so (b++[93]),i0]) ?_;rotate_left;refine⟨_,rfl,?_,by rw[aaF (by simp_all)];rfl,trivial⟩;show(b++[93]).length<=131072;simp only[aao,aap,aaq];omega
     ·intro j b x r2 qI nb AT gj;have hm:=k4 x (aat nb);refine fx hW 4 0 [] 127 [(42,bo (aI (Int.ofNat j) (Int.ofNat (av.map Tm.encI).length)))] (eV j (av.map Tm.encI).length) ?_;refine s1 hW 7 4 [] 127 [(44,.func 214 [] [.ptr 0 1 0]),(46,lo Tm.encI av),(47,no j)] ?_;refine CG.ix (aG (aa:=Tm.encI) nb) rfl k_ ?_;refine s1 hW 0 1 [] 255 [(49,io x)] ?_;rotate_left;refine CG.tu (first:=[]) (cap:=[.ptr 0 1 0]) (m_ hW true b o x (by omega) (by omega) (by omega)) rfl k_ ?_;rintro v H' ⟨rfl,l',b1,b2,rfl⟩;refine fU hW 3 2 [] [(1,.aO [.str e,.list (ad.map Tm.encI),.list (av.map Tm.encI)]),(2,sE),(3,i0),(4,.ptr 0 1 0),(5,.func 214 [] [.ptr 0 1 0]),(40,no (av.map Tm.encI).length),(41,io (aW IntKind.i64 (bJ (Int.ofNat j) 1)))] ([some (.cells [.sl 2 (List.length l'*1) 0 l'.length 1]),Option.map (aK bW) o,some (aK bW l')]) ?_;rw[bf (by omega)];rotate_left;exact⟨l',by omega,ax.refl _ _⟩
  ·intro i a x r cQ hx cy aF;have hm:=k2 x (aat hx);cases a with
    |none=>obtain rfl:i=0:=aF.1 rfl;obtain⟨k,rfl⟩:∃k:Nat,x=Int.ofNat k:=⟨x.toNat,by simp;omega⟩;simp only[abf]at hm;refine CG.oh [some (.cells [xl [35,98,91]])] k_ ?_;refine fx hW 4 0 [] 127 [(23,bo (aI 0 (Int.ofNat (ad.map Tm.encI).length)))] (show(aI 0 (Int.ofNat (ad.map Tm.encI).length))=true from fe) ?_;refine s1 hW 7 4 [] 127 [(6,i0),(25,.func 214 [] [.ptr 0 1 0]),(27,lo Tm.encI ad),(28,i0)] ?_;refine CG.ix (aG (aa:=Tm.encI) hx) rfl k_ ?_;refine s1 hW 0 3 [] 479 [(30,no k),(32,bF)] ?_;rotate_left;refine CG.tu (first:=[]) (cap:=[.ptr 0 1 0]) (Cd hW [35,98,91] k (by simp) (by omega)) rfl k_ ?_;rintro v H' ⟨rfl,l',o,b0,b1,rfl⟩;simp only[aap,aaq]at b1;refine fU hW 3 2 [] [(1,.aO [.str e,.list (ad.map Tm.encI),.list (av.map Tm.encI)]),(2,sE),(3,i0),(4,.ptr 0 1 0),(5,.func 214 [] [.ptr 0 1 0]),(21,no (ad.map Tm.encI).length),(22,io 1)] ([some (.cells [.sl 2 (List.length l'*1) 0 l'.length 1]),Option.map (aK bW) o,some (aK bW l')]) ?_;rotate_left;exact⟨some (l',o),⟨nofun,show l'.length<=3+22*(0+1) by omega⟩,ax.refl _ _⟩
    |some lo=>obtain⟨l,o⟩:=lo;have hle:l.length<=3+22*i:=aF.2;refine CG.oh (hB (kB 2 l) o l) rfl ?_;refine fx hW 4 0 [] 127 [(23,bo (aI (Int.ofNat i) (Int.ofNat (ad.map Tm.encI).length)))] (eV i (ad.map Tm.encI).length) ?_;refine s1 hW 7 4 [] 127 [(6,no i),(25,.func 214 [] [.ptr 0 1 0]),(27,lo Tm.encI ad),(28,no i)] ?_;refine CG.ix (aG (aa:=Tm.encI) hx) rfl k_ ?_;refine s1 hW 0 3 [] 479 [(30,io x),(32,bo (aI 0 (Int.ofNat i)))] ?_;rotate_left;refine CG.tu (first:=[]) (cap:=[.ptr 0 1 0]) (m_ hW (aI 0 (Int.ofNat i)) l o x (by omega) (by omega) (by omega)) rfl k_ ?_;rintro v H' ⟨rfl,l',b0,b1,rfl⟩;refine fU hW 3 2 [] [(1,.aO [.str e,.list (ad.map Tm.encI),.list (av.map Tm.encI)]),(2,sE),(3,i0),(4,.ptr 0 1 0),(5,.func 214 [] [.ptr 0 1 0]),(21,no (ad.map Tm.encI).length),(22,io (aW IntKind.i64 (bJ (Int.ofNat i) 1)))] ([some (.cells [.sl 2 (List.length l'*1) 0 l'.length 1]),Option.map (aK bW) o,some (aK bW l')]) ?_;rw[bf (by omega)];rotate_left;exact⟨some (l',o),⟨nofun,show l'.length<=3+22*(i+1) by omega⟩,ax.refl _ _⟩
 ·obtain⟨k1,k2,k3,k4⟩:=GY (by assumption);refine CG.oh (J (.full [[.int .u8 35],[.int .u8 91]]) none) rfl ?_;have ij:True:=trivial;refine CG.bh ad (fun i a=>[(1,.aO [.str e,.list (ad.map Tm.encI),.list (av.map Tm.encI)]),(2,sE),(3,i0),(4,.ptr 0 1 0),(5,.func 214 [] [.ptr 0 1 0]),(21,no (ad.map Tm.encI).length),(22,.d (.int .i64 (.ofNat i)))]) (fun i a=>J (.full [[.int .u8 35],[.int .u8 91]]) a) (fun i a r=>((a=none->i=0)/\TT a<=3+22*i)) (none:Option (List UInt8×Option (List UInt8))) ?_ (ax.rC k_) ?_ ?_
  ·exact⟨fun _=>rfl,aaC _⟩
  ·intro i a hi cQ aF;cases a with
    |none=>
     refine CG.oh [some (.cells [xl [35,91]])] k_ ?_;refine CG.tidy ax.pad ?_;refine gF hW 4 0 [] 95 [(23,bo (aI (Int.ofNat i) (Int.ofNat (ad.map Tm.encI).length)))] (fp i (ad.map Tm.encI).length) ?_;refine CG.aX (by decide) ?_;refine s4 hW 10 0 [] 31 [(40,no (av.map Tm.encI).length),(41,i0)] [(0,.cells [.sl 2 3 0 3 1]),(2,.cells [.d (.int .u8 35),.d (.int .u8 91),.d (.int .u8 58)])] ?_;rotate_left;refine CG.oh (hB (kB 2 [35,91,58]) none [35,91,58]) k_ ?_;refine CG.bh av (fun j b=>[(1,.aO [.str e,.list (ad.map Tm.encI),.list (av.map Tm.encI)]),(2,sE),(3,i0),(4,.ptr 0 1 0),(5,.func 214 [] [.ptr 0 1 0]),(40,no (av.map Tm.encI).length),(41,.d (.int .i64 (.ofNat j)))]) (fun j b=>hB (kB 2 b) none b) (fun j b r2=>(b.length<=140+22*j)) ([35,91,58]) ?_ (ax.rC k_) ?_ ?_
     ·simp only[aao,aap,aaq];omega
     ·intro j b hj qI gj;unfold hB;refine gF hW 4 0 [] 95 [(42,bo (aI (Int.ofNat j) (Int.ofNat (av.map Tm.encI).length)))] (fp j (av.map Tm.encI).length) ?_;refine CG.aX (by decide) ?_;refine s1 hW 3 2 [] 6 [(52,.sl 2 (List.length b*1) 0 b.length 1),(53,.d (.list [[.int .u8 93]]))] ?_;rotate_left;refine CG.uq (sz:=1) (bytes:=1) bW b [93] 2 (.d (.list [[.int .u8 93]])) (fun _=>rfl) rfl rfl k_ rfl (by simp only[aap,aaq];omega) ?_;rotate_left;refine CG.Iq (b:=2) (b++[93]) (by simp) rfl k_ ?_;refine s1 hW 2 0 [] 2 [(2,so (b++[93]))] ?_;refine CG.cG (.tuple [so (b++[93]),i0]) ?_;rotate_left;refine⟨_,rfl,?_,by rw[aaF (by simp_all)];rfl,trivial⟩;show(b++[93]).length<=131072;simp only[aao,aap,aaq];omega
     ·intro j b x r2 qI nb AT gj;have hm:=k4 x (aat nb);refine fx hW 4 0 [] 127 [(42,bo (aI (Int.ofNat j) (Int.ofNat (av.map Tm.encI).length)))] (eV j (av.map Tm.encI).length) ?_;refine s1 hW 7 4 [] 127 [(44,.func 214 [] [.ptr 0 1 0]),(46,lo Tm.encI av),(47,no j)] ?_;refine CG.ix (aG (aa:=Tm.encI) nb) rfl k_ ?_;refine s1 hW 0 1 [] 255 [(49,io x)] ?_;rotate_left;refine CG.tu (first:=[]) (cap:=[.ptr 0 1 0]) (m_ hW true b none x (by omega) (by omega) (by omega)) rfl k_ ?_;rintro v H' ⟨rfl,l',b1,b2,rfl⟩;refine fU hW 3 2 [] [(1,.aO [.str e,.list (ad.map Tm.encI),.list (av.map Tm.encI)]),(2,sE),(3,i0),(4,.ptr 0 1 0),(5,.func 214 [] [.ptr 0 1 0]),(40,no (av.map Tm.encI).length),(41,io (aW IntKind.i64 (bJ (Int.ofNat j) 1)))] ([some (.cells [.sl 2 (List.length l'*1) 0 l'.length 1]),none,some (aK bW l')]) ?_;rw[bf (by omega)];rotate_left;exact⟨l',by omega,ax.refl _ _⟩
    |some lo=>
     obtain⟨l,o⟩:=lo;have hle:l.length<=3+22*i:=aF.2;refine CG.oh [some (.cells [kB 2 l]),o.map (aK bW),some (aK bW l)] rfl ?_;refine gF hW 4 0 [] 95 [(23,bo (aI (Int.ofNat i) (Int.ofNat (ad.map Tm.encI).length)))] (fp i (ad.map Tm.encI).length) ?_;refine CG.aX (by decide) ?_;refine s1 hW 3 2 [] 31 [(35,.sl 2 (List.length l*1) 0 l.length 1),(36,.d (.list [[.int .u8 58]]))] ?_;rotate_left;refine CG.uq (sz:=1) (bytes:=1) bW l [58] 2 (.d (.list [[.int .u8 58]])) (fun _=>rfl) rfl rfl k_ rfl (by simp only[aap,aaq];omega) ?_;refine s4 hW 7 0 [] 31 [(40,no (av.map Tm.encI).length),(41,i0)] [(0,.cells [.sl 2 (List.length (l++[58])*1) 0 (l++[58]).length 1])] ?_;rotate_left;refine CG.oh (hB (kB 2 (l++[58])) o (l++[58])) k_ ?_;refine CG.bh av (fun j b=>[(1,.aO [.str e,.list (ad.map Tm.encI),.list (av.map Tm.encI)]),(2,sE),(3,i0),(4,.ptr 0 1 0),(5,.func 214 [] [.ptr 0 1 0]),(40,no (av.map Tm.encI).length),(41,.d (.int .i64 (.ofNat j)))]) (fun j b=>hB (kB 2 b) o b) (fun j b r2=>(b.length<=140+22*j)) (l++[58]) ?_ (ax.rC k_) ?_ ?_
     ·simp only[aao,aap,aaq];omega
     ·intro j b hj qI gj;unfold hB;refine gF hW 4 0 [] 95 [(42,bo (aI (Int.ofNat j) (Int.ofNat (av.map Tm.encI).length)))] (fp j (av.map Tm.encI).length) ?_;refine CG.aX (by decide) ?_;refine s1 hW 3 2 [] 6 [(52,.sl 2 (List.length b*1) 0 b.length 1),(53,.d (.list [[.int .u8 93]]))] ?_;rotate_left;refine CG.uq (sz:=1) (bytes:=1) bW b [93] 2 (.d (.list [[.int .u8 93]])) (fun _=>rfl) rfl rfl k_ rfl (by simp only[aap,aaq];omega) ?_;rotate_left;refine CG.Iq (b:=2) (b++[93]) (by simp) rfl k_ ?_;refine s1 hW 2 0 [] 2 [(2,so (b++[93]))] ?_;refine CG.cG (.tuple [so (b++[93]),i0]) ?_;rotate_left;refine⟨_,rfl,?_,by rw[aaF (by simp_all)];rfl,trivial⟩;show(b++[93]).length<=131072;simp only[aao,aap,aaq];omega
     ·intro j b x r2 qI nb AT gj;have hm:=k4 x (aat nb);refine fx hW 4 0 [] 127 [(42,bo (aI (Int.ofNat j) (Int.ofNat (av.map Tm.encI).length)))] (eV j (av.map Tm.encI).length) ?_;refine s1 hW 7 4 [] 127 [(44,.func 214 [] [.ptr 0 1 0]),(46,lo Tm.encI av),(47,no j)] ?_;refine CG.ix (aG (aa:=Tm.encI) nb) rfl k_ ?_;refine s1 hW 0 1 [] 255 [(49,io x)] ?_;rotate_left;refine CG.tu (first:=[]) (cap:=[.ptr 0 1 0]) (m_ hW true b o x (by omega) (by omega) (by omega)) rfl k_ ?_;rintro v H' ⟨rfl,l',b1,b2,rfl⟩;refine fU hW 3 2 [] [(1,.aO [.str e,.list (ad.map Tm.encI),.list (av.map Tm.encI)]),(2,sE),(3,i0),(4,.ptr 0 1 0),(5,.func 214 [] [.ptr 0 1 0]),(40,no (av.map Tm.encI).length),(41,io (aW IntKind.i64 (bJ (Int.ofNat j) 1)))] ([some (.cells [.sl 2 (List.length l'*1) 0 l'.length 1]),Option.map (aK bW) o,some (aK bW l')]) ?_;rw[bf (by omega)];rotate_left;exact⟨l',by omega,ax.refl _ _⟩
  ·intro i a x r cQ hx cy aF;have hm:=k2 x (aat hx);cases a with
    |none=>obtain rfl:i=0:=aF.1 rfl;obtain⟨k,rfl⟩:∃k:Nat,x=Int.ofNat k:=⟨x.toNat,by simp;omega⟩;simp only[abf]at hm;refine CG.oh [some (.cells [xl [35,91]])] k_ ?_;refine fx hW 4 0 [] 127 [(23,bo (aI 0 (Int.ofNat (ad.map Tm.encI).length)))] (show(aI 0 (Int.ofNat (ad.map Tm.encI).length))=true from fe) ?_;refine s1 hW 7 4 [] 127 [(6,i0),(25,.func 214 [] [.ptr 0 1 0]),(27,lo Tm.encI ad),(28,i0)] ?_;refine CG.ix (aG (aa:=Tm.encI) hx) rfl k_ ?_;refine s1 hW 0 3 [] 479 [(30,no k),(32,bF)] ?_;rotate_left;refine CG.tu (first:=[]) (cap:=[.ptr 0 1 0]) (Cd hW [35,91] k (by simp) (by omega)) rfl k_ ?_;rintro v H' ⟨rfl,l',o,b0,b1,rfl⟩;simp only[aap,aaq]at b1;refine fU hW 3 2 [] [(1,.aO [.str e,.list (ad.map Tm.encI),.list (av.map Tm.encI)]),(2,sE),(3,i0),(4,.ptr 0 1 0),(5,.func 214 [] [.ptr 0 1 0]),(21,no (ad.map Tm.encI).length),(22,io 1)] ([some (.cells [.sl 2 (List.length l'*1) 0 l'.length 1]),Option.map (aK bW) o,some (aK bW l')]) ?_;rotate_left;exact⟨some (l',o),⟨nofun,show l'.length<=3+22*(0+1) by omega⟩,ax.refl _ _⟩
    |some lo=>obtain⟨l,o⟩:=lo;have hle:l.length<=3+22*i:=aF.2;refine CG.oh (hB (kB 2 l) o l) rfl ?_;refine fx hW 4 0 [] 127 [(23,bo (aI (Int.ofNat i) (Int.ofNat (ad.map Tm.encI).length)))] (eV i (ad.map Tm.encI).length) ?_;refine s1 hW 7 4 [] 127 [(6,no i),(25,.func 214 [] [.ptr 0 1 0]),(27,lo Tm.encI ad),(28,no i)] ?_;refine CG.ix (aG (aa:=Tm.encI) hx) rfl k_ ?_;refine s1 hW 0 3 [] 479 [(30,io x),(32,bo (aI 0 (Int.ofNat i)))] ?_;rotate_left;refine CG.tu (first:=[]) (cap:=[.ptr 0 1 0]) (m_ hW (aI 0 (Int.ofNat i)) l o x (by omega) (by omega) (by omega)) rfl k_ ?_;rintro v H' ⟨rfl,l',b0,b1,rfl⟩;refine fU hW 3 2 [] [(1,.aO [.str e,.list (ad.map Tm.encI),.list (av.map Tm.encI)]),(2,sE),(3,i0),(4,.ptr 0 1 0),(5,.func 214 [] [.ptr 0 1 0]),(21,no (ad.map Tm.encI).length),(22,io (aW IntKind.i64 (bJ (Int.ofNat i) 1)))] ([some (.cells [.sl 2 (List.length l'*1) 0 l'.length 1]),Option.map (aK bW) o,some (aK bW l')]) ?_;rw[bf (by omega)];rotate_left;exact⟨some (l',o),⟨nofun,show l'.length<=3+22*(i+1) by omega⟩,ax.refl _ _⟩
 ·refine⟨_,rfl,aaP _,?_,trivial⟩;rw[aaH (by simp_all)];rfl
end Fw.Tz.P6
