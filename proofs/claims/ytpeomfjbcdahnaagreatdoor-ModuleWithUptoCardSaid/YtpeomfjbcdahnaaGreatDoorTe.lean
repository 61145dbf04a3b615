/-
  Numerals: which strings of digits are the decimal digits of a positive number.
-/
import Derived.Lib.AtoiAll
import Derived.Lib.ItoaNum
import Derived.Test.YtpeomfjbcdahnaaGreatDoorTc
import Derived.Test.YtpeomfjbcdahnaaGreatDoorFg
import Derived.Test.YtpeomfjbcdahnaaGreatDoorTd
import Derived.Test.YtpeomfjbcdahnaaGreatDoorFi
set_option linter.unusedSimpArgs false
set_option maxRecDepth 1000000
set_option maxHeartbeats 4000000
set_option linter.unusedVariables false
namespace Fw.Nu
open Go.Lib
def dd(b:UInt8):Bool:=decide (48<=b.toNat/\b.toNat<=57)
def j8(b:UInt8):Bool:=decide (97<=b.toNat/\b.toNat<=122)
def C9:List UInt8->Bool|[]=>false|d::u=>decide (u.length<=8)&& !(Nat.beq d.toNat 48)&&(d::u).all dd
def val(acc:Nat)(l:List UInt8):Nat:=l.foldl (fun a b=>a*10+(b.toNat - 48)) acc
theorem rK(acc:Nat):val acc []=acc:=List.foldl_nil
theorem mg(acc:Nat)(b:UInt8)(l:List UInt8):val acc (b::l)=val (acc*10+(b.toNat - 48)) l:=abp ..
theorem F8(l:List UInt8)(b:UInt8)(acc:Nat):val acc (l++[b])=val acc l*10+(b.toNat - 48):=by unfold val;rw[List.foldl_append];rw[abp,List.foldl_nil]
theorem F9:∀(l:List UInt8)(acc:Nat),l.all dd=true->val acc l<(acc+1)*10^l.length
 |[],acc,_=>by rw[rK,aar,Nat.pow_zero];omega
 |b::l,acc,h=>by simp only[aaM,aas,dd,aaF]at h;have:=F9 l (acc*10+(b.toNat - 48)) h.2;rw[mg,aaq,Nat.pow_succ];refine aaY this ?_;rw[Nat.mul_comm (10^l.length) 10,←Nat.mul_assoc];exact aa1 _ (by omega)
theorem wS:∀(l:List UInt8)(acc:Nat),0<acc->0<val acc l
 |[],acc,h=>by rw[rK];exact h
 |b::l,acc,h=>by rw[mg];exact wS l _ (by omega)
theorem vj:∀(l:List UInt8)(acc:Nat),l.all dd=true->(acc+1)*10^l.length<=1000000000000000000->parseUint10 acc l=.ok (val acc l)
 |[],acc,_,_=>by rw[rK];rfl
 |b::l,acc,h,hl=>by
  simp only[aaM,aas,dd,aaF]at h;simp only[aaq,Nat.pow_succ]at hl;have h1:0<10^l.length:=Nat.pow_pos (by omega);have h3:(acc+1)*10*10^l.length<=1000000000000000000:=by rw[Nat.mul_assoc,Nat.mul_comm 10];exact hl
  have h2:(acc+1)*10<=(acc+1)*10*10^l.length:=abo _ h1;have h4:(acc+1)*10<=1000000000000000000:=abt h2 h3;rw[mg,parseUint10];rw[aaD h.1,aaH (by omega),aaH (by omega)];refine vj l _ h.2 (abt (aa1 _ ?_ ) h3);omega
theorem As:∀(u:Nat),(decDigits u).all dd=true:=by
 intro u;induction u using Nat.strongRecOn with
  |_ u ih=>
   rw[decDigits];split
   ·rename_i h;simp only[aaM,List.all_nil,aaW,dd,aaF];rw[acA,acf (by omega)];omega
   ·rename_i h;simp only[List.all_append,ih (u / 10) (by omega),aaM,List.all_nil,aaW,aaV,dd,aaF];rw[acA,acf (by omega)];omega
theorem F':∀(u:Nat),0<u->∃d r,decDigits u=d::r/\d.toNat≠48:=by
 intro u;induction u using Nat.strongRecOn with
  |_ u ih=>
   intro hu;rw[decDigits];split
   ·rename_i h;refine⟨_,_,rfl,?_⟩;rw[acA,acf (by omega)];omega
   ·rename_i h;obtain⟨d,r,h1,h2⟩:=ih (u / 10) (by omega) (by omega);exact⟨d,r++[UInt8.ofNat (48+u%10)],by rw[h1];rfl,h2⟩
theorem vk{b:UInt8}(h:dd b=true):UInt8.ofNat (48+(b.toNat - 48))=b:=by simp only[dd,aaF]at h;rw[show 48+(b.toNat - 48)=b.toNat by omega,UInt8.ofNat_toNat]
theorem IQ:∀(n:Nat)(l:List UInt8),l.length=n->l.all dd=true->(∀d r,l=d::r->d.toNat≠48)->l≠[]->decDigits (val 0 l)=l:=by
 intro n;induction n using Nat.strongRecOn with
  |_ n ih=>
   intro l hn hd h0 fp;obtain⟨l',b,rfl⟩:∃l' b,l=l'++[b]:=⟨l.dropLast,l.getLast fp,(List.dropLast_concat_getLast fp).symm⟩;simp only[List.all_append,aaM,List.all_nil,aaW,aas]at hd;have hb:=hd.2;have A6:=hb;simp only[dd,aaF]at A6;rw[F8];cases l' with
    |nil=>rw[rK,Nat.zero_mul,aaR];rw[decDigits,dif_pos (by omega),vk hb];rfl
    |cons d r=>
     have Ug:d.toNat≠48:=h0 d (r++[b]) rfl;have hdd:=hd.1;simp only[aaM,aas,dd,aaF]at hdd;have hp:0<val 0 (d::r):=by rw[mg];exact wS r _ (by omega)
     have:=ih (d::r).length (by simp at hn⊢;omega) (d::r) rfl hd.1 (fun d' r' e=>by cases e;exact Ug) (by simp);rw[decDigits,dif_neg (by omega),show(val 0 (d::r)*10+(b.toNat - 48)) / 10=val 0 (d::r) by omega,show(val 0 (d::r)*10+(b.toNat - 48))%10=b.toNat - 48 by omega,this,vk hb]
theorem Ko{t:List UInt8}(h:C9 t=true):∃v:Nat,0<v/\v<1000000000/\atoiAll t=.ok (v:Int)/\t.length<=9/\itoa (v:Int)=t:=by
 cases t with
  |nil=>simp[C9]at h
  |cons d u=>
   simp only[C9,aas,aaF,abW]at h;obtain⟨⟨h1,h2⟩,h3⟩:=h;have h48:d.toNat≠48:=fun e=>by rw[e]at h2;cases h2
   have hd:=h3;simp only[aaM,aas,dd,aaF]at hd;have hlen:(d::u).length<=9:=by simp;omega
   have aal:10^(d::u).length<=1000000000:=by have:10^(d::u).length<=10^9:=Nat.pow_le_pow_right (by omega) hlen;simpa using this
   have cA:=F9 (d::u) 0 h3;simp only[aaR,Nat.one_mul]at cA;refine⟨val 0 (d::u),?_,by omega,?_,hlen,?_ ⟩
   ·rw[mg];exact wS u _ (by omega)
   ·unfold atoiAll;simp only;rw[aaH (by omega)];unfold parseMag;rw[aaH (by simp),vj _ 0 h3 (by omega)];simp only;rw[aaH (by omega),aaH (by omega),aaH (by omega)]
   ·unfold itoa;rw[aaH (by omega),acD];exact IQ _ (d::u) rfl h3 (fun d' r' e=>by cases e;exact h48) (by simp)
theorem Tc{t:List UInt8}{v:Int}(h0:0<v)(hl:t.length<=9)(h:itoa v=t):C9 t=true:=by
 unfold itoa at h;rw[aaH (by omega)]at h;obtain⟨d,r,e1,e2⟩:=F' v.toNat (by omega);have hd:=As v.toNat;rw[e1]at hd h;subst h;have:Nat.beq d.toNat 48=false:=by
  cases hb:Nat.beq d.toNat 48 with
   |false=>rfl
   |true=>exact absurd (aav hb) e2
 simp only[C9,aas,aaF,this,hd];simp at hl⊢;omega
end Fw.Nu
/-
  Names and small numbers, of the program and of the reference, for any string.
-/
namespace Fw.Tz.Na
open Go Go.Proofs Fw.X Fw.Tz Fw.Nu Fw.Tz.Sd
variable {W:World}
variable {t:List UInt8}{c:UInt8}
def dT(n:Int):Bool:=decide (-1000000<=n/\n<=1000000)
def wT:Nat->List UInt8->Bool|_,[]=>true|i,b::r=>(j8 b||(!Nat.beq i 0&&dd b))&&wT (i+1) r
def fW:List UInt8->Bool|[]=>false|c::t=>bif Nat.beq c.toNat 95 then C9 t else decide (t.length<=29)&&wT 0 (c::t)
theorem F_(h:(c.toNat:Int)=95):fW (c::t)=C9 t:=by
 have:Nat.beq c.toNat 95=true:=by rw[show c.toNat=95 by omega];rfl
 rw[fW,this];rfl
theorem Ga(h:(c.toNat:Int)≠95):fW (c::t)=(decide (t.length<=29)&&wT 0 (c::t)):=by
 have:Nat.beq c.toNat 95=false:=by cases hb:Nat.beq c.toNat 95 with|false=>rfl|true=>exact absurd (by have:=aav hb;omega) h
 rw[fW,this];rfl
theorem Gb(hW:W0 W)(n:Int):PC P (gl W) 272 [.d (.int .i64 n)] (.d (.bool (dT n))):=by
 refine CG.start SD SE rfl ?_;refine s1 hW 4 3 [] 1 [(2,bF),(5,bo (!aI n (-1000000)))] ?_;refine j4 n (-1000000) (fun q5 p5=>?_ ) (fun q5 p5=>?_ );rw[q5];refine s1 hW 2 0 [] 2 [] ?_;refine CG.rt (bF) ?_;rotate_left;rw[q5];refine s1 hW 2 0 [] 0 [(2,bo (!aI 1000000 n))] ?_;refine CG.rt (bo (!aI 1000000 n)) ?_;rotate_left
 ·simp only[V.d.injEq,D.bool.injEq,dT];symm;rw[abf];omega
 ·have h:aI 1000000 n=decide ((1000000:Int)<n):=dP _ _;simp only[V.d.injEq,D.bool.injEq,dT,h];rw[aa_];simp;omega
theorem Gc(h:(c.toNat:Int)=95):Lib.hasPrefix (c::t) [95]=true:=by have:c=95:=ab6.1 (by simpa using(by omega:c.toNat=95));subst this;simp[Lib.hasPrefix]
theorem C'{s:List UInt8}(h:Lib.hasPrefix s [95]=false):fW s=(!Fw.ah s []&& !aI 30 (.ofNat s.length)&&wT 0 s):=by
 cases s with
  |nil=>rfl
  |cons c t=>
   have hc:(c.toNat:Int)≠95:=fun e=>by rw[Gc e]at h;cases h
   rw[Ga hc];have e1:Fw.ah (c::t) []=false:=rfl;have e2:(!aI 30 (.ofNat (c::t).length))=decide (t.length<=29):=by rw[dP,aa_];simp;omega
   rw[e1,e2];rfl
theorem BH(h:∀v,Lib.atoiAll t≠ .ok v):C9 t=false:=by
 cases hb:C9 t with
  |false=>rfl
  |true=>obtain⟨v,_,_,h2,_⟩:=Ko hb;exact absurd h2 (h v)
theorem q_:∀(x:List UInt8),Fw.ah x x=true|[]=>rfl|a::x=>by simp only[Fw.ah,aaS,aaw];exact q_ x
theorem IS{v:Int}(hv:Lib.atoiAll t=.ok v):C9 t=(decide (0<v)&&decide (t.length<=9)&&Fw.ah (Lib.itoa v) t):=by
 cases hb:C9 t with
  |true=>
   obtain⟨u,h0,h1,h2,h3,h4⟩:=Ko hb;rw[hv]at h2;injection h2 with h2
   subst h2;rw[aaQ (by omega),aaQ h3,h4,q_];rfl
  |false=>
   symm;by_cases h0:0<v
   ·by_cases hl:t.length<=9
    ·rw[aaQ h0,aaQ hl];cases he:Fw.ah (Lib.itoa v) t with
      |false=>rfl
      |true=>rw[Tc h0 hl (cN he)]at hb;cases hb
    ·rw[aaL hl,ab'];rfl
   ·rw[aaL h0];rfl
theorem Au{v:Int}(h:Lib.atoiAll t=.ok v): -9223372036854775808<=v/\v<=9223372036854775807:=by
 unfold Lib.atoiAll at h;cases t with
  |nil=>cases h
  |cons c r=>
   simp only at h;split at h
   ·cases h
   ·cases h
   ·split at h
    ·cases h
    ·split at h
     ·cases h
     ·injection h with h
      subst h;split<;>omega
theorem tn(hW:W0 W)(s:List UInt8)(hs:s.length<=281474976710656):PC P (gl W) 271 [.d (.str s)] (.d (.bool (fW s))):=by
 refine CG.start SA SB rfl ?_;cases hp:Lib.hasPrefix s [95]with
  |true=>
   cases s with
    |nil=>cases hp
    |cons c t=>
     have hc:(c.toNat:Int)=95:=by
      have:(95:UInt8)=c:=by simpa[Lib.hasPrefix]using hp
      subst this;rfl
     rw[F_ hc];have hA:=FE hW t (by simp only[aaq]at hs;omega);have hd:List.drop 1 (List.take (c::t).length (c::t))=t:=by rw[abm];rfl
     refine s1 hW 7 0 [] 1 [(2,bF),(8,bo (Lib.hasPrefix (c::t) [95]))] ?_;refine CG.az hp k_ ?_;refine s1 hW 1 1 [] 3 [(10,so (c::t))] ?_;refine CG.JS 1 (c::t).length (s:=(c::t)) rfl k_ k_ k_ k_ (by(try simp only[zz]at*)<;>omega) rfl ?_;rotate_left;rw[hd];unfold BE at hA;rcases hv:Lib.atoiAll t with v|_|_
     ·have hr:=Au hv;rw[IS hv];rw[hv]at hA;dsimp only at hA;refine CG.pg (hA) rfl k_ ?_;refine s1 hW 3 0 [] 3 [(3,io v),(4,.fA)] ?_;refine CG.fP bj k_ k_ ?_;refine AO.rd 7 [(15,.fA),(16,bT),(17,bT),(18,io v),(19,bo (decide (0<v))),(20,bo (decide (0<v))),(21,bo (decide (0<v)))] k_ ?_;refine PP (0<v) (fun gH IT=>?_ ) (fun gH IT=>?_ );rw[gH];refine AO.rd 5 [(22,so (c::t)),(23,no (c::t).length),(24,bo (decide (Int.ofNat (c::t).length<=10))),(25,bo (decide (Int.ofNat (c::t).length<=10))),(26,bo (decide (Int.ofNat (c::t).length<=10)))] k_ ?_;refine PP (Int.ofNat (c::t).length<=10) (fun iz xi=>?_ ) (fun iz xi=>?_ )<;>simp only[zz]at xi;rw[iz];refine AO.rd 1 [(27,io v)] k_ ?_;refine AO.lC ((nZ hW v) (by first|assumption|exact(by(try simp only[zz]at*)<;>omega)) (by first|assumption|exact(by(try simp only[zz]at*)<;>omega))) rfl k_ k_ ?_;refine AO.rd 1 [(29,so (c::t))] k_ ?_;refine AO.JS 1 (c::t).length (s:=(c::t)) rfl k_ k_ k_ k_ (by(try simp only[zz]at*)<;>omega) ?_;refine AO.rd 3 [(2,bo (ah (Lib.itoa v) (List.drop 1 (List.take (c::t).length (c::t))))),(31,bo (ah (Lib.itoa v) (List.drop 1 (List.take (c::t).length (c::t))))),(32,bo (ah (Lib.itoa v) (List.drop 1 (List.take (c::t).length (c::t)))))] k_ ?_;refine AO.done [0,2] rfl rfl k_ ?_;refine s1 hW 1 0 [] 3 [] ?_;refine CG.rt (bo (ah (Lib.itoa v) (List.drop 1 (List.take (c::t).length (c::t))))) ?_;rotate_left;rw[iz];refine AO.rd 7 [(27,tE),(28,tE),(29,tE),(30,tE),(31,tE),(32,bF)] k_ ?_;refine AO.done [0,2] rfl rfl k_ ?_;refine s1 hW 1 0 [] 3 [] ?_;refine CG.rt (bF) ?_;rotate_left;rw[gH];refine AO.rd 12 [(22,tE),(23,tE),(24,tE),(25,bF),(26,bF),(27,tE),(28,tE),(29,tE),(30,tE),(31,tE),(32,bF)] k_ ?_;refine AO.done [0,2] rfl rfl k_ ?_;exact iM hW 1 0 [] 3 [] (bF);all_goals (simp only[aaq]at*)
      all_goals first
       |(rw[hd,aaQ (p:=t.length<=9) (by omega)];first|rfl|(rw[aaQ (p:=0<v) (by omega)];rfl))
       |(rw[aaL (p:=t.length<=9) (by omega),ab'];rfl)
       |(rw[aaL (p:=0<v) (by omega)];rfl)
     ·rw[hv]at hA;dsimp only at hA;rw[BH (fun v h=>by rw[hv]at h;cases h)];refine CG.pg (hA) rfl k_ ?_;refine s2 hW 5 0 [] 3 [] (nn 19 ([])) ?_;refine CG.rt (bF) ?_;with_reducible rfl
     ·rw[hv]at hA;dsimp only at hA;rw[BH (fun v h=>by rw[hv]at h;cases h)];refine CG.pg (hA) rfl k_ ?_;refine s2 hW 5 0 [] 3 [] (nn 19 ([])) ?_;refine CG.rt (bF) ?_;with_reducible rfl
  |false=>
   rw[C' hp];refine s1 hW 7 0 [] 1 [(2,bF),(8,bo (Lib.hasPrefix s [95]))] ?_;refine CG.ar hp k_ ?_;refine s1 hW 7 0 [] 3 [(34,lo (fun b=>[D.int IntKind.u8 (Int.ofNat (UInt8.toNat b))]) s),(35,no (List.length (List.map (fun b=>[D.int IntKind.u8 (Int.ofNat (UInt8.toNat b))]) s))),(36,i0)] ?_;rotate_left;refine CG.bh s (fun i u=>[(0,so s),(2,bF),(34,lo (fun b=>[D.int IntKind.u8 (Int.ofNat (UInt8.toNat b))]) s),(35,no (List.length (List.map (fun b=>[D.int IntKind.u8 (Int.ofNat (UInt8.toNat b))]) s))),(36,.d (.int .i64 (.ofNat i)))]) (fun i u=>[]) (fun i u r=>(wT 0 s=wT i r)) () ?_ (ay.refl _ _) ?_ ?_
   ·rfl
   ·intro i u hi hd aH;rw[aH];refine iJ hW 4 0 [] 23 [(37,bo (aI (Int.ofNat i) (Int.ofNat (List.length (List.map (fun b=>[D.int IntKind.u8 (Int.ofNat (UInt8.toNat b))]) s)))))] (fh i (List.length (List.map (fun b=>[D.int IntKind.u8 (Int.ofNat (UInt8.toNat b))]) s))) ?_;refine CG.aV (by decide) ?_;refine s1 hW 3 3 [] 3 [(62,bo (!ah s []))] ?_;refine sp (ah s []) (fun fk=>?_ ) (fun fk=>?_ );rw[fk];exact iM hW 2 0 [] 2 [] (bF);rw[fk];refine s1 hW 2 0 [] 0 [(2,bo (!aI 30 (Int.ofNat s.length)))] ?_;refine CG.rt (bo (!aI 30 (Int.ofNat s.length))) ?_;rotate_left;simp[wT]
   ·intro i u x r hd hx cA aH;rw[show wT i (x::r)=((j8 x||(!Nat.beq i 0&&dd x))&&wT (i+1) r)from rfl]at aH;refine hX hW 4 0 [] 31 [(37,bo (aI (Int.ofNat i) (Int.ofNat (List.length (List.map (fun b=>[D.int IntKind.u8 (Int.ofNat (UInt8.toNat b))]) s)))))] (fg i (List.length (List.map (fun b=>[D.int IntKind.u8 (Int.ofNat (UInt8.toNat b))]) s))) ?_;refine s1 hW 5 1 [] 31 [(38,no i)] ?_;refine CG.ix (aG (aa:=(fun b=>[D.int IntKind.u8 (Int.ofNat (UInt8.toNat b))])) hx) rfl k_ ?_;refine s1 hW 3 3 [] 31 [(5,no i),(6,.d (.int .u8 (.ofNat (UInt8.toNat x)))),(43,bo (aI (Int.ofNat (UInt8.toNat x)) 97))] ?_;refine bz (UInt8.toNat x) 97 (fun gG BI=>?_ ) (fun gG BI=>?_ );have iz:(aI (Int.ofNat (UInt8.toNat x)) 97)=true:=fi;rw[iz];refine s1 hW 0 7 [] 123 [(47,bT),(50,bo (aN (Int.ofNat i) 0))] ?_;refine d_ i 0 (fun mY Yv=>?_ ) (fun mY Yv=>?_ );have jd:(aN (Int.ofNat i) 0)=true:=ll;rw[jd];refine s1 hW 6 0 [true] 59 [] ?_;refine CG.rr (bF) ?_;rotate_left;have qz:(aN (Int.ofNat i) 0)=false:=rA;rw[qz];refine s1 hW 0 4 [] 127 [(54,bo (aI (Int.ofNat (UInt8.toNat x)) 48))] ?_;refine bz (UInt8.toNat x) 48 (fun qB Av=>?_ ) (fun qB Av=>?_ );have ug:(aI (Int.ofNat (UInt8.toNat x)) 48)=true:=fi;rw[ug];refine s1 hW 6 0 [true] 59 [] ?_;refine CG.rr (bF) ?_;rotate_left;have ME:(aI (Int.ofNat (UInt8.toNat x)) 48)=false:=eV;rw[ME];refine s1 hW 2 0 [] 59 [(58,bo (aI 57 (Int.ofNat (UInt8.toNat x))))] ?_;refine bz 57 (UInt8.toNat x) (fun pA Gd=>?_ ) (fun pA Gd=>?_ );refine CG.az (show(aI 57 (Int.ofNat (UInt8.toNat x)))=true from fi) k_ ?_;refine s1 hW 3 0 [] 31 [] ?_;refine CG.rr (bF) ?_;rotate_left;refine CG.ar (show(aI 57 (Int.ofNat (UInt8.toNat x)))=false from eV) k_ ?_;refine hZ hW 3 2 [] [(0,so s),(2,bF),(34,lo (fun b=>[D.int IntKind.u8 (Int.ofNat (UInt8.toNat b))]) s),(35,no (List.length (List.map (fun b=>[D.int IntKind.u8 (Int.ofNat (UInt8.toNat b))]) s))),(36,io (aT IntKind.i64 (bC (Int.ofNat i) 1)))] ([]) ?_;rw[ba (by omega)];rotate_left;have IU:(aI (Int.ofNat (UInt8.toNat x)) 97)=false:=eV;rw[IU];refine s1 hW 0 4 [] 127 [(47,bo (aI 122 (Int.ofNat (UInt8.toNat x))))] ?_;refine bz 122 (UInt8.toNat x) (fun Ap Kp=>?_ ) (fun Ap Kp=>?_ );have Qx:(aI 122 (Int.ofNat (UInt8.toNat x)))=true:=fi;rw[Qx];refine s1 hW 0 3 [] 251 [(50,bo (aN (Int.ofNat i) 0))] ?_;refine d_ i 0 (fun IF Qy=>?_ ) (fun IF Qy=>?_ );have Mk:(aN (Int.ofNat i) 0)=true:=ll;rw[Mk];refine s1 hW 6 0 [true] 59 [] ?_;refine CG.rr (bF) ?_;rotate_left;have IJ:(aN (Int.ofNat i) 0)=false:=rA;rw[IJ];refine s1 hW 0 4 [] 127 [(54,bo (aI (Int.ofNat (UInt8.toNat x)) 48))] ?_;have wP:(aI (Int.ofNat (UInt8.toNat x)) 48)=false:=eV;rw[wP];refine hX hW 2 0 [] 59 [(58,bo (aI 57 (Int.ofNat (UInt8.toNat x))))] (show(aI 57 (Int.ofNat (UInt8.toNat x)))=true from fi) ?_;refine s1 hW 3 0 [] 31 [] ?_;refine CG.rr (bF) ?_;rotate_left;have Ml:(aI 122 (Int.ofNat (UInt8.toNat x)))=false:=eV;rw[Ml];refine hZ hW 6 2 [false] [(0,so s),(2,bF),(34,lo (fun b=>[D.int IntKind.u8 (Int.ofNat (UInt8.toNat b))]) s),(35,no (List.length (List.map (fun b=>[D.int IntKind.u8 (Int.ofNat (UInt8.toNat b))]) s))),(36,io (aT IntKind.i64 (bC (Int.ofNat i) 1)))] ([]) ?_;rw[ba (by omega)];rotate_left;all_goals first
     |exact⟨(),by rw[aH,show j8 x=true from by simp only[j8,aaF];omega];rfl,ay.refl _ _⟩
     |exact⟨(),by rw[aH,show j8 x=false from by simp only[j8,abf];omega,show Nat.beq i 0=false from dv (by omega),show dd x=true from by simp only[dd,aaF];omega];rfl,ay.refl _ _⟩
     |(rw[aH,show j8 x=false from by simp only[j8,abf];omega,show Nat.beq i 0=true from by rw[show i=0 by omega];rfl];simp;done)
     |(rw[aH,show j8 x=false from by simp only[j8,abf];omega,show dd x=false from by simp only[dd,abf];omega];simp;done)
theorem IV(hW:W0 W)(s:List UInt8)(hs:s.length<1099511627776):PC P (gl W) 271 [.d (.str s)] (.d (.bool (fW s))):=tn hW s (by omega)
end Fw.Tz.Na
/-
  Digits cut off at both ends.
-/
namespace Fw.Nu
def g_(s:List UInt8):List UInt8:=(s.reverse.dropWhile dd).reverse
def lr(s:List UInt8):List UInt8:=s.dropWhile dd
theorem qC{p:UInt8->Bool}:∀(l:List UInt8),l.dropWhile p=[]↔l.all p=true
 |[]=>by simp
 |a::l=>by
  rw[abr];cases h:p a with
   |true=>simp only[abJ,aaM,h,aaV];exact qC l
   |false=>simp[h]
theorem tp{p:UInt8->Bool}(a:UInt8)(ha:p a=false):∀(l:List UInt8),(l++[a]).dropWhile p≠[]
 |[]=>by simp[ha]
 |b::l=>by
  rw[abH,abr];cases p b with
   |true=>simp only[abJ];exact tp a ha l
   |false=>simp
theorem tq{p:UInt8->Bool}:∀(l:List UInt8)(a:UInt8)(r:List UInt8),l.dropWhile p=a::r->p a=false
 |[],_,_,h=>by simp at h
 |b::l,a,r,h=>by
  rw[abr]at h;cases hb:p b with
   |true=>rw[hb]at h;exact tq l a r (by simpa using h)
   |false=>rw[hb]at h;simp at h;rw[←h.1];exact hb
theorem Ge(s:List UInt8):lr (g_ s)=[]↔s.all dd=true:=by
 unfold lr g_;cases h:s.reverse.dropWhile dd with
  |nil=>have:=(qC s.reverse).1 h;simp only[List.reverse_nil,List.dropWhile_nil,true_iff];simpa using this
  |cons a r=>
   have ha:=tq _ _ _ h;rw[List.reverse_cons];constructor
   ·intro h2;exact absurd h2 (tp a ha _)
   ·intro h2;have h3:s.reverse.all dd=true:=by simpa using h2
    rw[(qC _).2 h3]at h;cases h
theorem tr(l:List UInt8)(a:UInt8):g_ (l++[a])=if dd a=true then g_ l else l++[a]:=by
 unfold g_;rw[List.reverse_append];simp only[List.reverse_cons,List.reverse_nil,aco,List.singleton_append,abr];split
 ·rfl
 ·simp
def ra:List UInt8->Bool|[]=>false|c::t=>decide (t.length<=29)&&decide (65<=c.toNat/\c.toNat<=90)&&t.all dd
end Fw.Nu
/-
  Names of element types, of the program and of the reference; digits cut off.
-/
namespace Fw.Tz.El
open Go Go.Proofs Fw.X Fw.Tz Fw.Nu Fw.Tz.Sd Fw.Tz.Na
variable {W:World}
theorem Aw(x:List UInt8):x=[]\/∃t c,x=t++[c]:=by
 rcases List.eq_nil_or_concat x with h|⟨t,c,h⟩
 ·exact .inl h
 ·exact .inr ⟨t,c,by rw[h,List.concat_eq_append]⟩
def IW(n:Nat):Bool:=Nat.ble 48 n&&Nat.ble n 57
def tu:bW:=.cells ((List.range 256).map fun n=>.d (.bool (IW n)))
def hD:ao:=[some tu]
theorem Yx(W:World):((List.range 256).map fun n=>jn W q0 .e 40 349 [.ptr 0 256 0,.d (.int .u8 (.ofNat n))] hD)=((List.range 256).map fun n=>some (.d (.bool (IW n)),hD)):=k_
theorem IX(b:UInt8):IW b.toNat=dd b:=by unfold IW dd;rw[aa_];simp[abG]
theorem Gf(hW:W0 W)(b:UInt8):WF P (gl W) 349 [.ptr 0 256 0,.d (.int .u8 b.toNat)] hD (iI (.d (.bool (dd b))) hD):=by have h:=aca (fun l=>l[b.toNat]? ) (Yx W);have hb:b.toNat<256:=UInt8.toNat_lt b;simp only[aa9,List.getElem?_range hb,aaI,aat]at h;rw[IX]at h;exact(bZ hW jo 40).fn _ _ _ _ _ rfl h
theorem Gg(hW:W0 W)(s:List UInt8)(hs:s.length<1099511627776):WF P (gl W) 326 [.d (.str s),.ptr 0 256 0] hD (iI (.d (.str (lr s))) hD):=by
 refine CG.bX SY SZ rfl ?_;refine s1 hW 5 0 [] 3 [(4,sE)] ?_;rotate_left;refine CG.sP (α:=List UInt8) (fun x=>[(0,.d (.str x)),(1,.ptr 0 256 0),(4,.d (.str []))]) (fun _=>[some tu]) (fun x=>lr s=lr x/\x.length<1099511627776) List.length s ⟨rfl,hs⟩ (ay.refl _ _) ?_;rintro x ⟨hx,K3⟩;cases x with
  |nil=>refine s1 hW 5 0 [false] 7 [] ?_;refine CG.aV (by decide) ?_;refine s1 hW 5 0 [] 4 [] ?_;refine CG.cM (sE) ?_;rotate_left;exact⟨by rw[hx];rfl,rfl⟩
  |cons c t=>
   refine s1 hW 10 3 [true] 7 [(8,.ptr 0 256 0),(10,.d (.int .u8 (.ofNat (UInt8.toNat c))))] ?_;refine CG.wf (Gf hW c) rfl rfl k_ rfl ?_;refine s1 hW 2 0 [] 7 [(12,bo (!dd c))] ?_;refine sp (dd c) (fun q9=>?_ ) (fun q9=>?_ );refine CG.ar (b:=(!dd c)) (by rw[q9];rfl) k_ ?_;refine s1 hW 2 1 [] 7 [(13,so (c::t))] ?_;refine CG.sU ?_;refine CG.JS 1 (c::t).length (s:=(c::t)) rfl k_ k_ k_ k_ (by(try simp only[zz]at*)<;>omega) rfl ?_;refine hZ hW 0 1 [] [(0,so (List.drop 1 (List.take (c::t).length (c::t)))),(1,.ptr 0 256 0),(4,sE)] ([some tu]) ?_;rotate_left;refine CG.az (b:=(!dd c)) (by rw[q9];rfl) k_ ?_;refine CG.aV (by decide) ?_;refine s1 hW 5 0 [] 0 [(4,so (c::t))] ?_;refine CG.cM (so (c::t)) ?_;rotate_left
   ·rw[show List.drop 1 (List.take (c::t).length (c::t))=t from by rw[abm];rfl];exact⟨t,⟨by rw[hx,lr,abr,show dd c=true by assumption];rfl,by simp only[aaq]at K3;omega⟩,by simp,ay.refl _ _⟩
   ·exact⟨by rw[hx,lr,abr,show dd c=false by assumption];rfl,rfl⟩
theorem Gh(hW:W0 W)(s:List UInt8)(hs:s.length<1099511627776):WF P (gl W) 336 [.d (.str s),.ptr 0 256 0] hD (iI (.d (.str (g_ s))) hD):=by
 refine CG.bX S0 S1 rfl ?_;refine s1 hW 5 0 [] 3 [(4,sE)] ?_;rotate_left;refine CG.sP (α:=List UInt8) (fun x=>[(0,.d (.str x)),(1,.ptr 0 256 0),(4,.d (.str []))]) (fun _=>[some tu]) (fun x=>g_ s=g_ x/\x.length<1099511627776) List.length s ⟨rfl,hs⟩ (ay.refl _ _) ?_;rintro x ⟨hx,K3⟩;rcases Aw x with rfl|⟨t,c,rfl⟩
 ·refine s1 hW 5 0 [false] 7 [] ?_;refine CG.aV (by decide) ?_;refine s1 hW 5 0 [] 4 [] ?_;refine CG.cM (sE) ?_;rotate_left;exact⟨by rw[hx];rfl,rfl⟩
 ·have hl:(t++[c]).length=t.length+1:=by simp
  have hc:(t++[c])[t.length]? =some c:=by simp
  refine hX hW 4 0 [] 7 [(7,bo (aI 0 (Int.ofNat (t++[c]).length)))] (show(aI 0 (Int.ofNat (t++[c]).length))=true from fi) ?_;refine s1 hW 5 5 [] 7 [(8,.ptr 0 256 0),(9,so (t++[c])),(12,io (aT IntKind.i64 (Int.ofNat (t++[c]).length - 1)))] ?_;rotate_left;rw[hl,yp (by omega)];refine CG.V0 hc rfl k_ ?_;refine CG.wf (Gf hW c) rfl rfl k_ rfl ?_;refine s1 hW 2 0 [] 7 [(15,bo (!dd c))] ?_;refine sp (dd c) (fun fk=>?_ ) (fun fk=>?_ );refine CG.ar (b:=(!dd c)) (by rw[fk];rfl) k_ ?_;refine s1 hW 2 4 [] 7 [(16,so (t++[c])),(19,io (aT IntKind.i64 (Int.ofNat (t++[c]).length - 1)))] ?_;refine CG.sU ?_;rotate_left;refine CG.az (b:=(!dd c)) (by rw[fk];rfl) k_ ?_;refine CG.aV (by decide) ?_;refine s1 hW 5 0 [] 0 [(4,so (t++[c]))] ?_;refine CG.cM (so (t++[c])) ?_;rotate_left
  ·rw[hl,yp (by omega)];refine CG.JS 0 t.length (s:=(t++[c])) rfl k_ k_ k_ k_ (by(try simp only[zz]at*)<;>omega) rfl ?_;refine hZ hW 0 1 [] [(0,so (List.drop 0 (List.take t.length (t++[c])))),(1,.ptr 0 256 0),(4,sE)] ([some tu]) ?_;rotate_left;rw[show List.drop 0 (List.take t.length (t++[c]))=t by simp];exact⟨t,⟨by rw[hx,tr,show dd c=true by assumption];rfl,by omega⟩,by omega,ay.refl _ _⟩
  ·exact⟨by rw[hx,tr,show dd c=false by assumption];rfl,rfl⟩
theorem vl{p:UInt8->Bool}:∀(l:List UInt8),(l.dropWhile p).length<=l.length
 |[]=>aaE _
 |a::l=>by
  rw[abr];split
  ·exact abt (vl l) (Nat.le_succ _)
  ·exact aaE _
theorem C_(s:List UInt8):(g_ s).length<=s.length:=by unfold g_;rw[List.length_reverse];exact abt (vl _) (by rw[List.length_reverse];exact aaE _)
theorem yP(l:List UInt8):Fw.ah l []=decide (l=[]):=by cases l<;>rfl
theorem IY(hW:W0 W)(s:List UInt8)(hs:s.length<1099511627776):PC P (gl W) 306 [.d (.str s),.d (.str [48,49,50,51,52,53,54,55,56,57])] (.d (.str (lr (g_ s)))):=by
 have hl:=C_ s;have hr:(g_ s).length<1099511627776:=by omega
 refine CG.start SJ SK rfl ?_;cases s with
  |nil=>exact iM hW 11 0 [true] 3 [(4,sE)] (sE)
  |cons c t=>refine s4 hW 26 1 [false,false,true] 3 [(4,sE),(5,.ptr 0 256 0),(35,so (c::t))] [(0,.cells [bF,bF,bF,bF,bF,bF,bF,bF,bF,bF,bF,bF,bF,bF,bF,bF,bF,bF,bF,bF,bF,bF,bF,bF,bF,bF,bF,bF,bF,bF,bF,bF,bF,bF,bF,bF,bF,bF,bF,bF,bF,bF,bF,bF,bF,bF,bF,bF,bT,bT,bT,bT,bT,bT,bT,bT,bT,bT,bF,bF,bF,bF,bF,bF,bF,bF,bF,bF,bF,bF,bF,bF,bF,bF,bF,bF,bF,bF,bF,bF,bF,bF,bF,bF,bF,bF,bF,bF,bF,bF,bF,bF,bF,bF,bF,bF,bF,bF,bF,bF,bF,bF,bF,bF,bF,bF,bF,bF,bF,bF,bF,bF,bF,bF,bF,bF,bF,bF,bF,bF,bF,bF,bF,bF,bF,bF,bF,bF,bF,bF,bF,bF,bF,bF,bF,bF,bF,bF,bF,bF,bF,bF,bF,bF,bF,bF,bF,bF,bF,bF,bF,bF,bF,bF,bF,bF,bF,bF,bF,bF,bF,bF,bF,bF,bF,bF,bF,bF,bF,bF,bF,bF,bF,bF,bF,bF,bF,bF,bF,bF,bF,bF,bF,bF,bF,bF,bF,bF,bF,bF,bF,bF,bF,bF,bF,bF,bF,bF,bF,bF,bF,bF,bF,bF,bF,bF,bF,bF,bF,bF,bF,bF,bF,bF,bF,bF,bF,bF,bF,bF,bF,bF,bF,bF,bF,bF,bF,bF,bF,bF,bF,bF,bF,bF,bF,bF,bF,bF,bF,bF,bF,bF,bF,bF,bF,bF,bF,bF,bF,bF,bF,bF,bF,bF,bF,bF])] ?_;refine CG.wf (Gh hW (c::t) hs) rfl rfl k_ rfl ?_;refine CG.wf (Gg hW (g_ (c::t)) hr) rfl rfl k_ rfl ?_;exact iM hW 2 0 [] 3 [(4,so (lr (g_ (c::t))))] (so (lr (g_ (c::t))))
theorem Ax(hW:W0 W)(s:List UInt8)(hs:s.length<1099511627776):PC P (gl W) 260 [.d (.str s)] (.d (.bool (ra s))):=by
 refine CG.start Sk Sl rfl ?_;cases s with
  |nil=>exact iM hW 11 0 [true] 1 [(2,bF)] (bF)
  |cons c t=>
   have ht:t.length<1099511627776:=by simp only[aaq]at hs;omega
   refine s1 hW 5 9 [] 1 [(2,bF),(11,bo (aI 30 (Int.ofNat (c::t).length)))] ?_;refine bz 30 (c::t).length (fun q8 p8=>?_ ) (fun q8 p8=>?_ )<;>simp only[zz]at p8;have q9:(aI 30 (Int.ofNat (c::t).length))=true:=fi;rw[q9];refine s1 hW 6 0 [true] 3 [] ?_;refine CG.rt (bF) ?_;rotate_left;have gO:(aI 30 (Int.ofNat (c::t).length))=false:=eV;rw[gO];refine s1 hW 0 5 [] 3 [(16,bo (aI (Int.ofNat (UInt8.toNat c)) 65))] ?_;refine bz (UInt8.toNat c) 65 (fun gj Gi=>?_ ) (fun gj Gi=>?_ );have iy:(aI (Int.ofNat (UInt8.toNat c)) 65)=true:=fi;rw[iy];refine s1 hW 6 0 [true] 3 [] ?_;refine CG.rt (bF) ?_;rotate_left;have gH:(aI (Int.ofNat (UInt8.toNat c)) 65)=false:=eV;rw[gH];refine s1 hW 2 0 [] 3 [(20,bo (aI 90 (Int.ofNat (UInt8.toNat c))))] ?_;refine bz 90 (UInt8.toNat c) (fun gG BI=>?_ ) (fun gG BI=>?_ );refine CG.az (show(aI 90 (Int.ofNat (UInt8.toNat c)))=true from fi) k_ ?_;refine s1 hW 3 0 [] 3 [] ?_;refine CG.rt (bF) ?_;rotate_left;refine CG.ar (show(aI 90 (Int.ofNat (UInt8.toNat c)))=false from eV) k_ ?_;refine s1 hW 3 1 [] 2 [(21,so (c::t))] ?_;refine CG.JS 1 (c::t).length (s:=(c::t)) rfl k_ k_ k_ k_ (by(try simp only[zz]at*)<;>omega) rfl ?_;rotate_left
   ·rw[ra,aaL (by simp only[aaq]at*;omega)];rfl
   ·rw[ra,show decide (65<=c.toNat/\c.toNat<=90)=false from aaL (by omega),ab'];rfl
   ·rw[ra,show decide (65<=c.toNat/\c.toNat<=90)=false from aaL (by omega),ab'];rfl
   ·rw[show List.drop 1 (List.take (c::t).length (c::t))=t from by rw[abm];rfl];refine CG.pg (IY hW _ ht) rfl k_ ?_;refine s1 hW 2 0 [] 0 [(2,bo (ah (lr (g_ t)) []))] ?_;refine CG.rt (bo (ah (lr (g_ t)) [])) ?_;rotate_left;rw[ra,aaQ (by simp only[aaq]at*;omega),aaQ (by omega),yP,aaV,aaV,V.d.injEq,D.bool.injEq,aa_,aaF];exact Ge t
end Fw.Tz.El
/-
  Expressions, shapes and types that are valid; what the program and the reference say of any.
-/
namespace Fw.Tz.Va
open Go Go.Proofs Fw.X Fw.Tz Fw.Nu Fw.Tz.Sd Fw.Tz.Na
variable {W:World}
structure Cf where
 var:List UInt8
 c:Int
def Cf.aa(x:Cf):List D:=[.str x.var,.int .i64 x.c]
structure aq where
 c:Int
 ts:List Cf
def aq.aa(x:aq):List D:=[.int .i64 x.c,.list (x.ts.map Cf.aa)]
structure Ty where
 elem:List UInt8
 row:List UInt8
 aF:List aq
def Ty.aa(x:Ty):List D:=[.str x.elem,.str x.row,.list (x.aF.map aq.aa)]
@[simp,reducible] def aq.ce(x:aq):List V:=[Fw.io x.c,Fw.lo Cf.aa x.ts]
@[simp,reducible] def Ty.ce(x:Ty):List V:=[Fw.so x.elem,Fw.so x.row,Fw.lo aq.aa x.aF]
def yQ:Option (List UInt8)->List UInt8->Bool|none,_=>true|some q,v=>Fw.bytesLess q v
def gP:Option (List UInt8)->List Cf->Bool|_,[]=>true|p,t::r=>fW t.var&& !(t.c==0)&&dT t.c&&yQ p t.var&&gP (some t.var) r
def dJ(c:Int)(ts:List Cf):Bool:=dT c&&decide (ts.length<=12)&&gP none ts
def aq.ok(x:aq):Bool:=dJ x.c x.ts
theorem Da(hW:W0 W)(c:Int)(ts:List Cf)(hl:ts.length<1099511627776)(cX:∀t∈ts,t.var.length<=281474976710656):PC P (gl W) 210 [.agg [.d (.int .i64 c),.d (.list (ts.map Cf.aa))]] (.d (.bool (dJ c ts))):=by
 refine CG.start Se Sf rfl ?_;refine s4 hW 8 0 [] 0 [(1,.ptr 0 2 0),(2,bF),(6,lo Cf.aa ts),(7,no (ts.map Cf.aa).length),(8,i0)] [(0,.cells [io c,lo Cf.aa ts])] ?_;rotate_left
 ·skip;refine CG.bh ts (fun i a=>[(1,.ptr 0 2 0),(2,bF),(6,lo Cf.aa ts),(7,no (ts.map Cf.aa).length),(8,.d (.int .i64 (.ofNat i)))]) (fun i a=>[some (.cells [io c,lo Cf.aa ts])]) (fun i a r=>(gP none ts=gP a r/\(i=0->a=none)/\∀k,i=k+1->∃y,ts[k]? =some y/\a=some y.var)) none ?_ (ay.refl _ _) ?_ ?_
  ·exact⟨rfl,fun _=>rfl,fun k hk=>by omega⟩
  ·intro i a hi hd aH;obtain⟨hv,-,-⟩:=aH;refine iJ hW 4 0 [] 23 [(9,bo (aI (Int.ofNat i) (Int.ofNat (ts.map Cf.aa).length)))] (fh i (ts.map Cf.aa).length) ?_;refine CG.aV (by decide) ?_;refine bc hW 3 2 [] 3 [(46,io c)] (Gb hW c) ?_;refine s1 hW 0 1 [] 3 [(48,bo (dT c))] ?_;refine sp (dT c) (fun gj=>?_ ) (fun gj=>?_ );rw[gj];refine s1 hW 2 0 [] 0 [(2,bo (!aI 12 (Int.ofNat (ts.map Cf.aa).length)))] ?_;refine CG.rt (bo (!aI 12 (Int.ofNat (ts.map Cf.aa).length))) ?_;rotate_left;rw[gj];refine s1 hW 2 0 [] 2 [] ?_;refine CG.rt (bF) ?_;rotate_left
   ·rw[dJ,hv,show dT c=true by assumption,dP,aaC,V.d.injEq,D.bool.injEq,aa_];simp[gP];omega
   ·rw[dJ,show dT c=false by assumption];rfl
  ·intro i a x r hd hx cA aH;obtain⟨hv,h0,h1⟩:=aH;rw[gP]at hv;cases i with
    |zero=>cases h0 rfl;refine hX hW 4 0 [] 31 [(9,bo (aI 0 (Int.ofNat (ts.map Cf.aa).length)))] (show(aI 0 (Int.ofNat (ts.map Cf.aa).length))=true from fi) ?_;refine s1 hW 5 1 [] 31 [(10,i0)] ?_;refine CG.ix (aG (aa:=Cf.aa) hx) rfl k_ ?_;refine s4 hW 3 0 [] 31 [(3,i0),(4,.ptr 1 2 0)] [(1,.cells [so x.var,io x.c])] ?_;refine CG.fP bj k_ k_ ?_;refine AO.rd 2 [(13,.ptr 1 2 0),(14,so x.var)] k_ ?_;refine AO.lC (tn hW x.var (cX x (aau hx))) rfl k_ k_ ?_;refine AO.rd 2 [(16,bo (!fW x.var)),(17,bo (!fW x.var))] k_ ?_;refine sp (fW x.var) (fun gG=>?_ ) (fun gG=>?_ );rw[gG];refine AO.rd 5 [(18,.ptr 1 2 1),(19,io x.c),(20,bo (Cf.c x==0)),(21,bo (Cf.c x==0)),(22,bo (Cf.c x==0))] k_ ?_;refine PO x.c 0 (fun iv UD=>?_ ) (fun iv UD=>?_ );rw[iv];refine AO.rd 21 [(23,tE),(24,tE),(25,tE),(26,tE),(27,bT),(28,bT),(29,tE),(30,tE),(31,tE),(32,tE),(33,tE),(34,tE),(35,tE),(36,tE),(37,tE),(38,tE),(39,tE),(40,tE),(41,tE),(42,tE),(43,bT)] k_ ?_;refine AO.done [1,2,6,7,8,43] rfl rfl k_ ?_;refine s1 hW 5 0 [true] 31 [] ?_;refine CG.rr (bF) ?_;rotate_left;rw[iv];refine AO.rd 2 [(23,.ptr 1 2 1),(24,io x.c)] k_ ?_;refine AO.lC (Gb hW x.c) rfl k_ k_ ?_;refine AO.rd 3 [(26,bo (!dT x.c)),(27,bo (!dT x.c)),(28,bo (!dT x.c))] k_ ?_;refine sp (dT x.c) (fun mY=>?_ ) (fun mY=>?_ );rw[mY];refine AO.rd 15 [(29,i0),(30,bF),(31,bF),(32,tE),(33,tE),(34,tE),(35,tE),(36,tE),(37,tE),(38,tE),(39,tE),(40,tE),(41,tE),(42,bF),(43,bF)] k_ ?_;refine AO.done [1,2,6,7,8,43] rfl rfl k_ ?_;refine hZ hW 5 2 [false] [(1,.ptr 0 2 0),(2,bF),(6,lo Cf.aa ts),(7,no (ts.map Cf.aa).length),(8,io 1)] ([some (.cells [io c,lo Cf.aa ts]),some (.cells [so x.var,io x.c])]) ?_;rotate_left;rw[mY];refine AO.rd 15 [(29,tE),(30,tE),(31,tE),(32,tE),(33,tE),(34,tE),(35,tE),(36,tE),(37,tE),(38,tE),(39,tE),(40,tE),(41,tE),(42,tE),(43,bT)] k_ ?_;refine AO.done [1,2,6,7,8,43] rfl rfl k_ ?_;refine s1 hW 5 0 [true] 31 [] ?_;refine CG.rr (bF) ?_;rotate_left;rw[gG];refine AO.rd 26 [(18,tE),(19,tE),(20,tE),(21,bT),(22,bT),(23,tE),(24,tE),(25,tE),(26,tE),(27,bT),(28,bT),(29,tE),(30,tE),(31,tE),(32,tE),(33,tE),(34,tE),(35,tE),(36,tE),(37,tE),(38,tE),(39,tE),(40,tE),(41,tE),(42,tE),(43,bT)] k_ ?_;refine AO.done [1,2,6,7,8,43] rfl rfl k_ ?_;refine s1 hW 5 0 [true] 31 [] ?_;refine CG.rr (bF) ?_;rotate_left;all_goals first|(simp only[dJ,hv,yQ];simp[*];done)|(refine⟨some x.var,⟨by rw[hv];simp[yQ, *],fun h=>by omega,fun k hk=>⟨x,by rw[show k=0 by omega];exact hx,rfl⟩⟩,ay.trim 1 [1,2,6,7,8] rfl rfl rfl rfl rfl⟩;done)
    |succ k=>obtain⟨y,hy,rfl⟩:=h1 k rfl;refine hX hW 4 0 [] 31 [(9,bo (aI (Int.ofNat (k+1)) (Int.ofNat (ts.map Cf.aa).length)))] (fg (k+1) (ts.map Cf.aa).length) ?_;refine s1 hW 5 1 [] 31 [(10,no (k+1))] ?_;refine CG.ix (aG (aa:=Cf.aa) hx) rfl k_ ?_;refine s4 hW 3 0 [] 31 [(3,no (k+1)),(4,.ptr 1 2 0)] [(1,.cells [so x.var,io x.c])] ?_;refine CG.fP bj k_ k_ ?_;refine AO.rd 2 [(13,.ptr 1 2 0),(14,so x.var)] k_ ?_;refine AO.lC (tn hW x.var (cX x (aau hx))) rfl k_ k_ ?_;refine AO.rd 2 [(16,bo (!fW x.var)),(17,bo (!fW x.var))] k_ ?_;refine sp (fW x.var) (fun mY=>?_ ) (fun mY=>?_ );rw[mY];refine AO.rd 5 [(18,.ptr 1 2 1),(19,io x.c),(20,bo (Cf.c x==0)),(21,bo (Cf.c x==0)),(22,bo (Cf.c x==0))] k_ ?_;refine PO x.c 0 (fun qz C8=>?_ ) (fun qz C8=>?_ );rw[qz];refine AO.rd 21 [(23,tE),(24,tE),(25,tE),(26,tE),(27,bT),(28,bT),(29,tE),(30,tE),(31,tE),(32,tE),(33,tE),(34,tE),(35,tE),(36,tE),(37,tE),(38,tE),(39,tE),(40,tE),(41,tE),(42,tE),(43,bT)] k_ ?_;refine AO.done [1,2,6,7,8,43] rfl rfl k_ ?_;refine s1 hW 5 0 [true] 31 [] ?_;refine CG.rr (bF) ?_;rotate_left;rw[qz];refine AO.rd 2 [(23,.ptr 1 2 1),(24,io x.c)] k_ ?_;refine AO.lC (Gb hW x.c) rfl k_ k_ ?_;refine AO.rd 3 [(26,bo (!dT x.c)),(27,bo (!dT x.c)),(28,bo (!dT x.c))] k_ ?_;refine sp (dT x.c) (fun qA=>?_ ) (fun qA=>?_ );rw[qA];refine AO.rd 3 [(29,no (k+1)),(30,bo (decide (0<Int.ofNat (k+1)))),(31,bo (decide (0<Int.ofNat (k+1))))] k_ ?_;have qB:(decide (0<Int.ofNat (k+1)))=true:=aaQ (by(try simp only[zz]at*)<;>omega);rw[qB];refine AO.rd 4 [(32,.ptr 0 2 1),(33,lo Cf.aa ts),(34,no (k+1)),(35,io (IntKind.wrap IntKind.i64 (Int.ofNat (k+1) - 1)))] k_ ?_;rw[C1 (by omega)];refine AO.idx (aG (aa:=Cf.aa) hy) rfl k_ k_ k_ rfl ?_;refine AO.rd 7 [(37,.aL [.str y.var]),(38,so y.var),(39,.ptr 1 2 0),(40,so x.var),(41,bo (!bytesLess y.var x.var)),(42,bo (!bytesLess y.var x.var)),(43,bo (!bytesLess y.var x.var))] k_ ?_;refine AO.done [1,2,6,7,8,43] rfl rfl k_ ?_;refine s1 hW 1 0 [] 63 [] ?_;refine sp (bytesLess y.var x.var) (fun ug=>?_ ) (fun ug=>?_ );refine CG.ar (b:=(!bytesLess y.var x.var)) (by rw[ug];rfl) k_ ?_;refine hZ hW 3 2 [] [(1,.ptr 0 2 0),(2,bF),(6,lo Cf.aa ts),(7,no (ts.map Cf.aa).length),(8,io (aT IntKind.i64 (bC (Int.ofNat (k+1)) 1)))] ([some (.cells [io c,lo Cf.aa ts]),some (.cells [so x.var,io x.c])]) ?_;rw[ba (by omega)];rotate_left;refine CG.az (b:=(!bytesLess y.var x.var)) (by rw[ug];rfl) k_ ?_;refine s1 hW 3 0 [] 31 [] ?_;refine CG.rr (bF) ?_;rotate_left;rw[qA];refine AO.rd 15 [(29,tE),(30,tE),(31,tE),(32,tE),(33,tE),(34,tE),(35,tE),(36,tE),(37,tE),(38,tE),(39,tE),(40,tE),(41,tE),(42,tE),(43,bT)] k_ ?_;refine AO.done [1,2,6,7,8,43] rfl rfl k_ ?_;refine s1 hW 5 0 [true] 31 [] ?_;refine CG.rr (bF) ?_;rotate_left;rw[mY];refine AO.rd 26 [(18,tE),(19,tE),(20,tE),(21,bT),(22,bT),(23,tE),(24,tE),(25,tE),(26,tE),(27,bT),(28,bT),(29,tE),(30,tE),(31,tE),(32,tE),(33,tE),(34,tE),(35,tE),(36,tE),(37,tE),(38,tE),(39,tE),(40,tE),(41,tE),(42,tE),(43,bT)] k_ ?_;refine AO.done [1,2,6,7,8,43] rfl rfl k_ ?_;refine s1 hW 5 0 [true] 31 [] ?_;refine CG.rr (bF) ?_;rotate_left;all_goals first|(simp only[dJ,hv,yQ];simp[*];done)|(refine⟨some x.var,⟨by rw[hv];simp[yQ, *],fun h=>by omega,fun k2 hk=>⟨x,by rw[show k2=k+1 by omega];exact hx,rfl⟩⟩,ay.trim 1 [1,2,6,7,8] rfl rfl rfl rfl rfl⟩;done)
theorem tv(hW:W0 W)(c:Int)(ts:List Cf)(hl:ts.length<1099511627776)(cX:∀t∈ts,t.var.length<1099511627776):PC P (gl W) 210 [.agg [.d (.int .i64 c),.d (.list (ts.map Cf.aa))]] (.d (.bool (dJ c ts))):=Da hW c ts hl (fun t ht=>by have:=cX t ht;omega)
end Fw.Tz.Va
/-
  Shapes and types that are valid; what the program and the reference say of any.
-/
namespace Fw.Tz.Vb
open Go Go.Proofs Fw.X Fw.Tz Fw.Nu Fw.Tz.Sd Fw.Tz.Na Fw.Tz.El Fw.Tz.Va
variable {W:World}
def ei:Option Nat->V|some i=>.d (.int .i64 (.ofNat i))|none=>.d (.int .i64 (-1))
def aq.sm(x:aq):Prop:=x.ts.length<1099511627776/\∀t∈x.ts,t.var.length<1099511627776
def bad(x:aq):Bool:= !dJ x.c x.ts
def j1(s:List UInt8):Bool:=Fw.ah s []||fW s
def pD(row:List UInt8)(aF:List aq):Bool:=j1 row&&decide (aF.length<=6)&&aF.all aq.ok
def mZ:List UInt8:=[105,110,116]
def j9:List UInt8:=[98,111,111,108]
def Kq(e:List UInt8):Bool:=Fw.ah e mZ||Fw.ah e j9||ra e
def IZ(t:Ty):Bool:=Kq t.elem&&pD t.row t.aF
theorem wU(l:List aq):l.any bad= !l.all aq.ok:=by
 induction l with
  |nil=>rfl
  |cons x l ih=>rw[List.any_cons,aaM,ih,Bool.not_and];rfl
theorem MF(hW:W0 W)(x:aq)(hs:aq.sm x):PC P (gl W) 307 [.agg [.d (.int .i64 x.c),.d (.list (x.ts.map Cf.aa))]] (.d (.bool (bad x))):=by refine CG.start SL SM rfl ?_;refine s4 hW 4 1 [] 0 [(2,bF),(3,.agg x.ce)] [(0,.cells x.ce)] ?_;refine CG.pg (tv hW x.c x.ts (And.left hs) (And.right hs)) rfl k_ ?_;exact iM hW 2 0 [] 0 [(2,bo (!dJ x.c x.ts))] (bo (!dJ x.c x.ts))
theorem Db(hW:W0 W)(l:List aq)(hl:l.length<1099511627776)(hd:∀x∈l,aq.sm x):PC P (gl W) 262 [.d (.list (l.map aq.aa)),.func 307 [] []] (ei (l.findIdx? bad)):=by
 refine CG.start Ki Kj rfl ?_;refine s1 hW 8 0 [] 3 [(4,i0),(7,no (l.map aq.aa).length),(8,i0)] ?_;rotate_left;refine CG.bh l (fun i u=>[(0,lo aq.aa l),(1,.func 307 [] []),(4,i0),(7,no (l.map aq.aa).length),(8,.d (.int .i64 (.ofNat i)))]) (fun i u=>[]) (fun i u r=>(ei (l.findIdx? bad)=ei ((r.findIdx? bad).map (·+i)))) () ?_ (ay.refl _ _) ?_ ?_
 ·cases l.findIdx? bad<;>rfl
 ·intro i u hi hd aH;refine iJ hW 4 0 [] 23 [(9,bo (aI (Int.ofNat i) (Int.ofNat (l.map aq.aa).length)))] (fh i (l.map aq.aa).length) ?_;refine CG.aV (by decide) ?_;refine s1 hW 5 0 [] 0 [(4,io (-1))] ?_;refine CG.rt (io (-1)) ?_;rotate_left;rw[aH];rfl
 ·intro i u x r dz hx cA aH;have hs:=hd x (aau hx);refine hX hW 4 0 [] 31 [(9,bo (aI (Int.ofNat i) (Int.ofNat (l.map aq.aa).length)))] (fg i (l.map aq.aa).length) ?_;refine s1 hW 8 3 [] 31 [(5,no i),(11,.func 307 [] []),(12,lo aq.aa l),(13,no i)] ?_;refine CG.ix (aG (aa:=aq.aa) hx) rfl k_ ?_;refine s1 hW 0 1 [] 127 [(15,.agg x.ce)] ?_;refine CG.ry (first:=[]) (cap:=[]) (MF hW x hs) rfl k_ k_ k_ rfl ?_;refine s1 hW 2 0 [] 319 [] ?_;refine sp (bad x) (fun gG=>?_ ) (fun gG=>?_ );refine CG.az gG k_ ?_;refine s1 hW 3 0 [] 51 [(4,no i)] ?_;refine CG.rr (no i) ?_;rotate_left;refine CG.ar gG k_ ?_;refine hZ hW 3 2 [] [(0,lo aq.aa l),(1,.func 307 [] []),(4,i0),(7,no (l.map aq.aa).length),(8,io (aT IntKind.i64 (bC (Int.ofNat i) 1)))] ([]) ?_;rw[ba (by omega)];rotate_left
  ·rw[aH,aaN,show bad x=true by assumption];simp[ei]
  ·refine⟨(),?_,ay.refl _ _⟩;rw[aH,aaN,show bad x=false by assumption];cases r.findIdx? bad<;>simp[ei];omega
theorem vm(hW:W0 W)(l:List aq)(hl:l.length<1099511627776)(hd:∀x∈l,aq.sm x):PC P (gl W) 199 [.d (.list (l.map aq.aa)),.func 307 [] []] (.d (.bool (l.any bad))):=by
 refine CG.start J9 J' rfl ?_;refine bc hW 4 2 [] 0 [(4,bF),(5,lo aq.aa l),(6,.func 307 [] [])] (Db hW _ hl hd) ?_;rotate_left;have:l.any bad=(l.findIdx? bad).isSome:=by rw[abb]
 rw[this];cases l.findIdx? bad with
  |none=>exact iM hW 2 0 [] 1 [] (bF)
  |some i=>exact iM hW 2 0 [] 0 [(4,bT)] (bT)
theorem wV(hW:W0 W)(row:List UInt8)(aF:List aq)(hr:row.length<1099511627776)(hl:aF.length<1099511627776)(hd:∀x∈aF,aq.sm x):PC P (gl W) 261 [.agg [.d (.str row),.d (.list (aF.map aq.aa))]] (.d (.bool (pD row aF))):=by
 refine CG.start Sm Sn rfl ?_;refine s4 hW 4 4 [] 0 [(1,.ptr 0 2 0),(2,bF),(6,bo (ah row []))] [(0,.cells [so row,lo aq.aa aF])] ?_;refine sp (ah row []) (fun q8=>?_ ) (fun q8=>?_ );rw[q8];refine s1 hW 0 11 [] 3 [(17,bo (!aI 6 (Int.ofNat (aF.map aq.aa).length)))] ?_;refine bz 6 (aF.map aq.aa).length (fun gO zo=>?_ ) (fun gO zo=>?_ )<;>simp only[zz]at zo;have fk:(aI 6 (Int.ofNat (aF.map aq.aa).length))=true:=fi;rw[fk];refine s1 hW 2 0 [] 2 [] ?_;refine CG.rt (bF) ?_;rotate_left;have gj:(aI 6 (Int.ofNat (aF.map aq.aa).length))=false:=eV;rw[gj];refine bc hW 0 2 [] 6 [(19,lo aq.aa aF)] (vm hW _ hl hd) ?_;refine s1 hW 2 0 [] 0 [(2,bo (!List.any aF bad))] ?_;refine CG.rt (bo (!List.any aF bad)) ?_;rotate_left;rw[q8];refine bc hW 0 2 [] 7 [(8,so row)] (IV hW _ hr) ?_;refine s1 hW 0 2 [] 3 [(11,bo (fW row))] ?_;refine sp (fW row) (fun iy=>?_ ) (fun iy=>?_ );rw[iy];refine s1 hW 0 6 [] 3 [(17,bo (!aI 6 (Int.ofNat (aF.map aq.aa).length)))] ?_;refine bz 6 (aF.map aq.aa).length (fun gG BI=>?_ ) (fun gG BI=>?_ )<;>simp only[zz]at BI;have iz:(aI 6 (Int.ofNat (aF.map aq.aa).length))=true:=fi;rw[iz];refine s1 hW 2 0 [] 2 [] ?_;refine CG.rt (bF) ?_;rotate_left;have iv:(aI 6 (Int.ofNat (aF.map aq.aa).length))=false:=eV;rw[iv];refine bc hW 0 2 [] 6 [(19,lo aq.aa aF)] (vm hW _ hl hd) ?_;refine s1 hW 2 0 [] 0 [(2,bo (!List.any aF bad))] ?_;refine CG.rt (bo (!List.any aF bad)) ?_;rotate_left;rw[iy];refine s1 hW 2 0 [] 2 [] ?_;refine CG.rt (bF) ?_;rotate_left;all_goals first
  |(
   have h6:aF.length<=6:=by omega
   simp[pD,j1,wU, *];done)
  |(
   have h6:¬aF.length<=6:=by omega
   simp[pD,j1,wU, *];done)
  |(simp[pD,j1,wU, *];done)
theorem Kr(hW:W0 W)(e row:List UInt8)(aF:List aq)(he:e.length<1099511627776)(hr:row.length<1099511627776)(hl:aF.length<1099511627776)(hd:∀x∈aF,aq.sm x):PC P (gl W) 198 [.agg [.d (.str e),.d (.str row),.d (.list (aF.map aq.aa))]] (.d (.bool (IZ ⟨e,row,aF⟩))):=by refine CG.start R3 R4 rfl ?_;refine s4 hW 4 4 [] 0 [(1,.ptr 0 3 0),(2,bF),(6,bo (ah e [105,110,116]))] [(0,.cells [so e,so row,lo aq.aa aF])] ?_;refine sp (ah e [105,110,116]) (fun gO=>?_ ) (fun gO=>?_ );rw[gO];refine bc hW 0 12 [] 2 [(16,bT),(18,.agg [so row,lo aq.aa aF])] (wV hW _ _ hr hl hd) ?_;refine s1 hW 2 0 [] 0 [(2,bo (pD row aF))] ?_;refine CG.rt (bo (pD row aF)) ?_;rotate_left;rw[gO];refine s1 hW 0 5 [] 3 [(11,bo (ah e [98,111,111,108]))] ?_;refine sp (ah e [98,111,111,108]) (fun fk=>?_ ) (fun fk=>?_ );rw[fk];refine bc hW 0 7 [] 2 [(16,bT),(18,.agg [so row,lo aq.aa aF])] (wV hW _ _ hr hl hd) ?_;refine s1 hW 2 0 [] 0 [(2,bo (pD row aF))] ?_;refine CG.rt (bo (pD row aF)) ?_;rotate_left;rw[fk];refine bc hW 0 2 [] 7 [(13,so e)] (Ax hW _ he) ?_;refine s1 hW 0 2 [] 3 [(16,bo (ra e))] ?_;refine sp (ra e) (fun gj=>?_ ) (fun gj=>?_ );rw[gj];refine bc hW 0 2 [] 6 [(18,.agg [so row,lo aq.aa aF])] (wV hW _ _ hr hl hd) ?_;refine s1 hW 2 0 [] 0 [(2,bo (pD row aF))] ?_;refine CG.rt (bo (pD row aF)) ?_;rotate_left;rw[gj];refine s1 hW 2 0 [] 2 [] ?_;refine CG.rt (bF) ?_;rotate_left;all_goals simp[IZ,Kq,mZ,j9, *]
end Fw.Tz.Vb
/-
  Terms, parameters, definitions and modules as data.
-/
namespace Fw.Tz.Tm
open Go Go.Proofs Fw.X Fw.Tz Fw.Nu Fw.Tz.Va Fw.Tz.Vb
inductive Tm where|mk (kind line:Int) (name:List UInt8) (num:Int) (ae:List UInt8) (ad av:List Int) (ak:List aq) (al:List Int) (kids:List Tm)
def Tm.kind:Tm->Int| .mk x _ _ _ _ _ _ _ _ _=>x
def Tm.line:Tm->Int| .mk _ x _ _ _ _ _ _ _ _=>x
def Tm.name:Tm->List UInt8| .mk _ _ x _ _ _ _ _ _ _=>x
def Tm.num:Tm->Int| .mk _ _ _ x _ _ _ _ _ _=>x
def Tm.ae:Tm->List UInt8| .mk _ _ _ _ x _ _ _ _ _=>x
def Tm.ad:Tm->List Int| .mk _ _ _ _ _ x _ _ _ _=>x
def Tm.av:Tm->List Int| .mk _ _ _ _ _ _ x _ _ _=>x
def Tm.ak:Tm->List aq| .mk _ _ _ _ _ _ _ x _ _=>x
def Tm.al:Tm->List Int| .mk _ _ _ _ _ _ _ _ x _=>x
def Tm.kids:Tm->List Tm| .mk _ _ _ _ _ _ _ _ _ x=>x
def encI(n:Int):List D:=[.int .i64 n]
def encS(s:List UInt8):List D:=[.str s]
mutual
def Tm.aa:Tm->List D| .mk k l n u e d v s r ks=>[.int .i64 k,.int .i64 l,.str n,.int .i64 u,.str e,.list (d.map encI),.list (v.map encI),.list (s.map aq.aa),.list (r.map encI),.list (Tm.I0 ks)]
def Tm.I0:List Tm->List (List D)|[]=>[]|t::ts=>t.aa::Tm.I0 ts
end
theorem Tm.BJ:∀(l:List Tm),Tm.I0 l=l.map Tm.aa|[]=>rfl|t::ts=>by rw[Tm.I0,Tm.BJ ts];rfl
def Tm.cells(t:Tm):List D:=[.int .i64 t.kind,.int .i64 t.line,.str t.name,.int .i64 t.num,.str t.ae,.list (t.ad.map encI),.list (t.av.map encI),.list (t.ak.map aq.aa),.list (t.al.map encI),.list (t.kids.map Tm.aa)]
theorem Tm.wW(t:Tm):t.aa=t.cells:=by cases t with|mk k l n u e d v s r ks=>rw[Tm.aa,Tm.BJ];rfl
theorem Tm.dG{l:List Tm}{i:Nat}{x:Tm}(h:l[i]? =some x):(l.map Tm.aa)[i]? =some x.cells:=by rw[←Tm.wW];exact aG h
abbrev vT(t:Tm):V:=.agg (t.cells.map .d)
mutual
def Tm.pre:Tm->List Tm| .mk k l n u e d v s r ks=>.mk k l n u e d v s r ks::Tm.I1 ks
def Tm.I1:List Tm->List Tm|[]=>[]|t::ts=>t.pre++Tm.I1 ts
end
theorem Tm.BK:∀(l:List Tm),Tm.I1 l=l.flatMap Tm.pre|[]=>rfl|t::ts=>by rw[Tm.I1,Tm.BK ts];rfl
theorem Tm.jc(t:Tm):t.pre=t::t.kids.flatMap Tm.pre:=by cases t with|mk k l n u e d v s r ks=>rw[Tm.pre,Tm.BK];rfl
mutual
def Tm.dy:Tm->Nat->List (Tm×Nat)| .mk k l n u e d v s r ks,i=>(.mk k l n u e d v s r ks,i)::Tm.BL ks (i+1)
def Tm.BL:List Tm->Nat->List (Tm×Nat)|[],_=>[]|t::ts,i=>t.dy i++Tm.BL ts i
end
theorem Tm.yR:∀(l:List Tm)(i:Nat),Tm.BL l i=l.flatMap (fun t=>t.dy i)|[],_=>rfl|t::ts,i=>by rw[Tm.BL,Tm.yR ts];rfl
theorem Tm.BM(t:Tm)(i:Nat):t.dy i=(t,i)::t.kids.flatMap (fun k=>k.dy (i+1)):=by cases t with|mk k l n u e d v s r ks=>rw[Tm.dy,Tm.yR];rfl
theorem Tm.size_pos(t:Tm):0<t.pre.length:=by rw[Tm.jc];simp
theorem BN{α:Type}{f:α->List Tm}:∀{l:List α}{x:α},x∈l->(f x).length<=(l.flatMap f).length
 |y::l,x,h=>by
  rw[aaT,aap];rcases aaX.1 h with rfl|h
  ·omega
  ·have:=BN (f:=f) h;omega
theorem Tm.fV{t x:Tm}(h:x∈t.kids):x.pre.length<t.pre.length:=by rw[Tm.jc t];have:=BN (f:=Tm.pre) h;simp only[aaq];omega
theorem Tm.rJ(t:Tm):t∈t.pre:=by rw[Tm.jc];simp
theorem Tm.pB{t k x:Tm}(h:k∈t.kids)(hx:x∈k.pre):x∈t.pre:=by rw[Tm.jc];exact aaZ _ (List.mem_flatMap.2 ⟨k,h,hx⟩)
theorem Tm.Gj:∀(n:Nat)(t:Tm)(i:Nat),t.pre.length=n->(t.dy i).map Prod.fst=t.pre:=by
 intro n;induction n using Nat.strongRecOn with
  |_ n ih=>
   intro t i ht;rw[Tm.BM,Tm.jc,aaG,List.map_flatMap];congr 1;have key:∀l:List Tm,(∀k∈l,k∈t.kids)->l.flatMap (fun k=>(k.dy (i+1)).map Prod.fst)=l.flatMap Tm.pre:=by
    intro l;induction l with
     |nil=>intro _;rfl
     |cons k l ihl=>intro h;rw[aaT,aaT,ihl (fun x hx=>h x (aaZ _ hx)),ih _ (by rw[←ht];exact Tm.fV (h k (by simp))) k (i+1) rfl]
   exact key _ (fun _ h=>h)
theorem Tm.j_(t:Tm)(i:Nat):(t.dy i).map Prod.fst=t.pre:=Tm.Gj _ t i rfl
mutual
def Tm.depth:Tm->Nat| .mk _ _ _ _ _ _ _ _ _ ks=>Tm.gF ks+1
def Tm.gF:List Tm->Nat|[]=>0|t::ts=>max t.depth (Tm.gF ts)
end
theorem Tm.vi{n:Nat}:∀{l:List Tm},Tm.gF l<=n↔∀t∈l,t.depth<=n
 |[]=>by simp[Tm.gF]
 |t::ts=>by rw[Tm.gF,Nat.max_le,Tm.vi];simp
theorem Tm.yM(t:Tm):t.depth=Tm.gF t.kids+1:=by cases t with|mk k l n u e d v s r ks=>rw[Tm.depth];rfl
structure zp (t:Tm):Prop where
 name:t.name.length<1048577
 ae:t.ae.length<1048577
 ad:t.ad.length<1048577
 av:t.av.length<1048577
 ak:t.ak.length<1048577
 J0:∀l∈t.ak,aq.sm l
 al:t.al.length<1048577
 kids:t.kids.length<1048577
structure wN (t:Tm):Prop where
 node:∀x∈t.pre,zp x
 size:t.pre.length<1099511627776
theorem wN.FQ{t k:Tm}(h:wN t)(hk:k∈t.kids):wN k:=⟨fun x hx=>h.node x (Tm.pB hk hx),by have:=Tm.fV hk;have:=h.size;omega⟩
theorem wN.self{t:Tm}(h:wN t):zp t:=h.node t t.rJ
structure Pm where
 name:List UInt8
 given:Bool
 ty:Ty
def Pm.aa(x:Pm):List D:=[.str x.name,.bool x.given,.str x.ty.elem,.str x.ty.row,.list (x.ty.aF.map aq.aa)]
structure Df where
 name:List UInt8
 line:Int
 ps:List Pm
 given:Bool
 res:Ty
 body:Tm
def Df.aa(d:Df):List D:=.str d.name:: .int .i64 d.line:: .list (d.ps.map Pm.aa):: .bool d.given:: .str d.res.elem:: .str d.res.row:: .list (d.res.aF.map aq.aa)::d.body.cells
structure Md where
 name:List UInt8
 imports:List (List UInt8)
 ai:List (List UInt8)
 defs:List Df
def Md.aa(m:Md):List D:=[.str m.name,.list (m.imports.map encS),.list (m.ai.map encS),.list (m.defs.map Df.aa)]
abbrev vP(x:Pm):V:=.agg (x.aa.map .d)
abbrev ue(x:Df):V:=.agg (x.aa.map .d)
abbrev vM(x:Md):V:=.agg (x.aa.map .d)
end Fw.Tz.Tm
/-
  Equality of expressions, shapes and types as functions.
-/
namespace Fw.Tz.Eq
open Go Fw.Tz.Va Fw.Tz.Vb
def Aq(a b:Cf):Bool:=Fw.ah a.var b.var&&decide (a.c=b.c)
theorem FY(a b:Cf):Aq a b=true↔a=b:=by cases a;cases b;simp[Aq,Fw.cT]
end Fw.Tz.Eq
