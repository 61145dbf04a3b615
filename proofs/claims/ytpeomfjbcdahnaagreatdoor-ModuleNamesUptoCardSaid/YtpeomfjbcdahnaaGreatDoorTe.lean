/-
  Numerals: which strings of digits are the decimal digits of a positive number.
-/
import Derived.Lib.AtoiAll
import Derived.Lib.ItoaNum
import Derived.Test.YtpeomfjbcdahnaaGreatDoorTc
import Derived.Test.YtpeomfjbcdahnaaGreatDoorFg
import Derived.Test.YtpeomfjbcdahnaaGreatDoorTd
import Derived.Test.YtpeomfjbcdahnaaGreatDoorFi
set_option linter.unusedSimpArgs false
set_option maxRecDepth 1000000
set_option maxHeartbeats 4000000
set_option linter.unusedVariables false
namespace Fw.Nu
open Go.Lib
def cW(b:UInt8):Bool:=decide (48<=b.toNat/\b.toNat<=57)
def ki(b:UInt8):Bool:=decide (97<=b.toNat/\b.toNat<=122)
def De:List UInt8->Bool|[]=>false|d::u=>decide (u.length<=8)&& !(Nat.beq d.toNat 48)&&(d::u).all cW
def val(acc:Nat)(l:List UInt8):Nat:=l.foldl (fun a b=>a*10+(b.toNat - 48)) acc
theorem rY(acc:Nat):val acc []=acc:=List.foldl_nil
theorem mu(acc:Nat)(b:UInt8)(l:List UInt8):val acc (b::l)=val (acc*10+(b.toNat - 48)) l:=abw ..
theorem F_(l:List UInt8)(b:UInt8)(acc:Nat):val acc (l++[b])=val acc l*10+(b.toNat - 48):=by unfold val;rw[List.foldl_append];rw[abw,List.foldl_nil]
theorem Ga:∀(l:List UInt8)(acc:Nat),l.all cW=true->val acc l<(acc+1)*10^l.length
 |[],acc,_=>by rw[rY,aaq,Nat.pow_zero];omega
 |b::l,acc,h=>by simp only[aaL,aas,cW,aaD]at h;have:=Ga l (acc*10+(b.toNat - 48)) h.2;rw[mu,aap,Nat.pow_succ];refine aaX this ?_;rw[Nat.mul_comm (10^l.length) 10,←Nat.mul_assoc];exact aa0 _ (by omega)
theorem wU:∀(l:List UInt8)(acc:Nat),0<acc->0<val acc l
 |[],acc,h=>by rw[rY];exact h
 |b::l,acc,h=>by rw[mu];exact wU l _ (by omega)
theorem vt:∀(l:List UInt8)(acc:Nat),l.all cW=true->(acc+1)*10^l.length<=1000000000000000000->parseUint10 acc l=.ok (val acc l)
 |[],acc,_,_=>by rw[rY];rfl
 |b::l,acc,h,hl=>by
  simp only[aaL,aas,cW,aaD]at h;simp only[aap,Nat.pow_succ]at hl;have h1:0<10^l.length:=Nat.pow_pos (by omega);have h3:(acc+1)*10*10^l.length<=1000000000000000000:=by rw[Nat.mul_assoc,Nat.mul_comm 10];exact hl
  have h2:(acc+1)*10<=(acc+1)*10*10^l.length:=abv _ h1;have h4:(acc+1)*10<=1000000000000000000:=aby h2 h3;rw[mu,parseUint10];rw[aaF h.1,aaH (by omega),aaH (by omega)];refine vt l _ h.2 (aby (aa0 _ ?_ ) h3);omega
theorem AI:∀(u:Nat),(decDigits u).all cW=true:=by
 intro u;induction u using Nat.strongRecOn with
  |_ u ih=>
   rw[decDigits];split
   ·rename_i h;simp only[aaL,List.all_nil,aaW,cW,aaD];rw[acy,Nat.mod_eq_of_lt (by omega)];omega
   ·rename_i h;simp only[List.all_append,ih (u / 10) (by omega),aaL,List.all_nil,aaW,aaU,cW,aaD];rw[acy,Nat.mod_eq_of_lt (by omega)];omega
theorem Gb:∀(u:Nat),0<u->∃d r,decDigits u=d::r/\d.toNat≠48:=by
 intro u;induction u using Nat.strongRecOn with
  |_ u ih=>
   intro hu;rw[decDigits];split
   ·rename_i h;refine⟨_,_,rfl,?_⟩;rw[acy,Nat.mod_eq_of_lt (by omega)];omega
   ·rename_i h;obtain⟨d,r,h1,h2⟩:=ih (u / 10) (by omega) (by omega);exact⟨d,r++[UInt8.ofNat (48+u%10)],by rw[h1];rfl,h2⟩
theorem vu{b:UInt8}(h:cW b=true):UInt8.ofNat (48+(b.toNat - 48))=b:=by simp only[cW,aaD]at h;rw[show 48+(b.toNat - 48)=b.toNat by omega,UInt8.ofNat_toNat]
theorem IX:∀(n:Nat)(l:List UInt8),l.length=n->l.all cW=true->(∀d r,l=d::r->d.toNat≠48)->l≠[]->decDigits (val 0 l)=l:=by
 intro n;induction n using Nat.strongRecOn with
  |_ n ih=>
   intro l hn hd h0 hO;obtain⟨l',b,rfl⟩:∃l' b,l=l'++[b]:=⟨l.dropLast,l.getLast hO,(List.dropLast_concat_getLast hO).symm⟩;simp only[List.all_append,aaL,List.all_nil,aaW,aas]at hd;have hb:=hd.2;have Be:=hb;simp only[cW,aaD]at Be;rw[F_];cases l' with
    |nil=>rw[rY,Nat.zero_mul,aaK];rw[decDigits,dif_pos (by omega),vu hb];rfl
    |cons d r=>
     have T3:d.toNat≠48:=h0 d (r++[b]) rfl;have hdd:=hd.1;simp only[aaL,aas,cW,aaD]at hdd;have hp:0<val 0 (d::r):=by rw[mu];exact wU r _ (by omega)
     have:=ih (d::r).length (by simp at hn⊢;omega) (d::r) rfl hd.1 (fun d' r' e=>by cases e;exact T3) (by simp);rw[decDigits,dif_neg (by omega),show(val 0 (d::r)*10+(b.toNat - 48)) / 10=val 0 (d::r) by omega,show(val 0 (d::r)*10+(b.toNat - 48))%10=b.toNat - 48 by omega,this,vu hb]
theorem Kp{t:List UInt8}(h:De t=true):∃v:Nat,0<v/\v<1000000000/\atoiAll t=.ok (v:Int)/\t.length<=9/\itoa (v:Int)=t:=by
 cases t with
  |nil=>simp[De]at h
  |cons d u=>
   simp only[De,aas,aaD,abM]at h;obtain⟨⟨h1,h2⟩,h3⟩:=h;have h48:d.toNat≠48:=fun e=>by rw[e]at h2;cases h2
   have hd:=h3;simp only[aaL,aas,cW,aaD]at hd;have hlen:(d::u).length<=9:=by simp;omega
   have aam:10^(d::u).length<=1000000000:=by have:10^(d::u).length<=10^9:=Nat.pow_le_pow_right (by omega) hlen;simpa using this
   have cy:=Ga (d::u) 0 h3;simp only[aaK,Nat.one_mul]at cy;refine⟨val 0 (d::u),?_,by omega,?_,hlen,?_ ⟩
   ·rw[mu];exact wU u _ (by omega)
   ·unfold atoiAll;simp only;rw[aaH (by omega)];unfold parseMag;rw[aaH (by simp),vt _ 0 h3 (by omega)];simp only;rw[aaH (by omega),aaH (by omega),aaH (by omega)]
   ·unfold itoa;rw[aaH (by omega),acC];exact IX _ (d::u) rfl h3 (fun d' r' e=>by cases e;exact h48) (by simp)
theorem S9{t:List UInt8}{v:Int}(h0:0<v)(hl:t.length<=9)(h:itoa v=t):De t=true:=by
 unfold itoa at h;rw[aaH (by omega)]at h;obtain⟨d,r,e1,e2⟩:=Gb v.toNat (by omega);have hd:=AI v.toNat;rw[e1]at hd h;subst h;have:Nat.beq d.toNat 48=false:=by
  cases hb:Nat.beq d.toNat 48 with
   |false=>rfl
   |true=>exact absurd (aau hb) e2
 simp only[De,aas,aaD,this,hd];simp at hl⊢;omega
end Fw.Nu
/-
  Names and small numbers, of the program and of the reference, for any string.
-/
namespace Fw.Tz.Na
open Go Go.Proofs Fw.X Fw.Tz Fw.Nu Fw.Tz.Sd
variable {W:World}
variable {t:List UInt8}{c:UInt8}
def dL(n:Int):Bool:=decide (-1000000<=n/\n<=1000000)
def wV:Nat->List UInt8->Bool|_,[]=>true|i,b::r=>(ki b||(!Nat.beq i 0&&cW b))&&wV (i+1) r
def fS:List UInt8->Bool|[]=>false|c::t=>bif Nat.beq c.toNat 95 then De t else decide (t.length<=29)&&wV 0 (c::t)
theorem Gc(h:(c.toNat:Int)=95):fS (c::t)=De t:=by
 have:Nat.beq c.toNat 95=true:=by rw[show c.toNat=95 by omega];rfl
 rw[fS,this];rfl
theorem Gd(h:(c.toNat:Int)≠95):fS (c::t)=(decide (t.length<=29)&&wV 0 (c::t)):=by
 have:Nat.beq c.toNat 95=false:=by cases hb:Nat.beq c.toNat 95 with|false=>rfl|true=>exact absurd (by have:=aau hb;omega) h
 rw[fS,this];rfl
theorem Ge(hW:W0 W)(n:Int):PC P (gl W) 272 [.d (.int .i64 n)] (.d (.bool (dL n))):=by
 refine CG.start Sx Sy rfl ?_;refine s1 hW 4 3 [] 1 [(2,bF),(5,bo (!aI n (-1000000)))] ?_;refine kf n (-1000000) (fun q5 p5=>?_ ) (fun q5 p5=>?_ );rw[q5];refine s1 hW 2 0 [] 2 [] ?_;refine CG.rt (bF) ?_;rotate_left;rw[q5];refine s1 hW 2 0 [] 0 [(2,bo (!aI 1000000 n))] ?_;refine CG.rt (bo (!aI 1000000 n)) ?_;rotate_left
 ·simp only[V.d.injEq,D.bool.injEq,dL];symm;rw[abk];omega
 ·have h:aI 1000000 n=decide ((1000000:Int)<n):=dI _ _;simp only[V.d.injEq,D.bool.injEq,dL,h];rw[abe];simp;omega
theorem Gf(h:(c.toNat:Int)=95):Lib.hasPrefix (c::t) [95]=true:=by have:c=95:=ab8.1 (by simpa using(by omega:c.toNat=95));subst this;simp[Lib.hasPrefix]
theorem Dg{s:List UInt8}(h:Lib.hasPrefix s [95]=false):fS s=(!Fw.ah s []&& !aI 30 (.ofNat s.length)&&wV 0 s):=by
 cases s with
  |nil=>rfl
  |cons c t=>
   have hc:(c.toNat:Int)≠95:=fun e=>by rw[Gf e]at h;cases h
   rw[Gd hc];have e1:Fw.ah (c::t) []=false:=rfl;have e2:(!aI 30 (.ofNat (c::t).length))=decide (t.length<=29):=by rw[dI,abe];simp;omega
   rw[e1,e2];rfl
theorem BW(h:∀v,Lib.atoiAll t≠ .ok v):De t=false:=by
 cases hb:De t with
  |false=>rfl
  |true=>obtain⟨v,_,_,h2,_⟩:=Kp hb;exact absurd h2 (h v)
theorem rh:∀(x:List UInt8),Fw.ah x x=true|[]=>rfl|a::x=>by simp only[Fw.ah,aaS,aaw];exact rh x
theorem IY{v:Int}(hv:Lib.atoiAll t=.ok v):De t=(decide (0<v)&&decide (t.length<=9)&&Fw.ah (Lib.itoa v) t):=by
 cases hb:De t with
  |true=>
   obtain⟨u,h0,h1,h2,h3,h4⟩:=Kp hb;rw[hv]at h2;injection h2 with h2
   subst h2;rw[aaQ (by omega),aaQ h3,h4,rh];rfl
  |false=>
   symm;by_cases h0:0<v
   ·by_cases hl:t.length<=9
    ·rw[aaQ h0,aaQ hl];cases he:Fw.ah (Lib.itoa v) t with
      |false=>rfl
      |true=>rw[S9 h0 hl (cL he)]at hb;cases hb
    ·rw[aaN hl,aca];rfl
   ·rw[aaN h0];rfl
theorem AJ{v:Int}(h:Lib.atoiAll t=.ok v): -9223372036854775808<=v/\v<=9223372036854775807:=by
 unfold Lib.atoiAll at h;cases t with
  |nil=>cases h
  |cons c r=>
   simp only at h;split at h
   ·cases h
   ·cases h
   ·split at h
    ·cases h
    ·split at h
     ·cases h
     ·injection h with h
      subst h;split<;>omega
theorem tG(hW:W0 W)(s:List UInt8)(hs:s.length<=281474976710656):PC P (gl W) 271 [.d (.str s)] (.d (.bool (fS s))):=by
 refine CG.start Sv Sw rfl ?_;cases hp:Lib.hasPrefix s [95]with
  |true=>
   cases s with
    |nil=>cases hp
    |cons c t=>
     have hc:(c.toNat:Int)=95:=by
      have:(95:UInt8)=c:=by simpa[Lib.hasPrefix]using hp
      subst this;rfl
     rw[Gc hc];have hA:=FG hW t (by simp only[aap]at hs;omega);have hd:List.drop 1 (List.take (c::t).length (c::t))=t:=by rw[abA];rfl
     refine s1 hW 7 0 [] 1 [(2,bF),(8,bo (Lib.hasPrefix (c::t) [95]))] ?_;refine CG.ay hp k_ ?_;refine s1 hW 1 1 [] 3 [(10,so (c::t))] ?_;refine CG.JS 1 (c::t).length (s:=(c::t)) rfl k_ k_ k_ k_ (by(try simp only[zz]at*)<;>omega) rfl ?_;rotate_left;rw[hd];unfold BS at hA;rcases hv:Lib.atoiAll t with v|_|_
     ·have hr:=AJ hv;rw[IY hv];rw[hv]at hA;dsimp only at hA;refine CG.pg (hA) rfl k_ ?_;refine s1 hW 3 0 [] 3 [(3,io v),(4,.fy)] ?_;refine CG.iy bC k_ k_ ?_;refine AO.rd 7 [(15,.fy),(16,bT),(17,bT),(18,io v),(19,bo (decide (0<v))),(20,bo (decide (0<v))),(21,bo (decide (0<v)))] k_ ?_;refine PO (0<v) (fun gG IZ=>?_ ) (fun gG IZ=>?_ );rw[gG];refine AO.rd 5 [(22,so (c::t)),(23,no (c::t).length),(24,bo (decide (Int.ofNat (c::t).length<=10))),(25,bo (decide (Int.ofNat (c::t).length<=10))),(26,bo (decide (Int.ofNat (c::t).length<=10)))] k_ ?_;refine PO (Int.ofNat (c::t).length<=10) (fun iA xj=>?_ ) (fun iA xj=>?_ )<;>simp only[zz]at xj;rw[iA];refine AO.rd 1 [(27,io v)] k_ ?_;refine AO.od ((oq hW v) (by first|assumption|exact(by(try simp only[zz]at*)<;>omega)) (by first|assumption|exact(by(try simp only[zz]at*)<;>omega))) rfl k_ k_ ?_;refine AO.rd 1 [(29,so (c::t))] k_ ?_;refine AO.JS 1 (c::t).length (s:=(c::t)) rfl k_ k_ k_ k_ (by(try simp only[zz]at*)<;>omega) ?_;refine AO.rd 3 [(2,bo (ah (Lib.itoa v) (List.drop 1 (List.take (c::t).length (c::t))))),(31,bo (ah (Lib.itoa v) (List.drop 1 (List.take (c::t).length (c::t))))),(32,bo (ah (Lib.itoa v) (List.drop 1 (List.take (c::t).length (c::t)))))] k_ ?_;refine AO.done [0,2] rfl rfl k_ ?_;refine s1 hW 1 0 [] 3 [] ?_;refine CG.rt (bo (ah (Lib.itoa v) (List.drop 1 (List.take (c::t).length (c::t))))) ?_;rotate_left;rw[iA];refine AO.rd 7 [(27,tE),(28,tE),(29,tE),(30,tE),(31,tE),(32,bF)] k_ ?_;refine AO.done [0,2] rfl rfl k_ ?_;refine s1 hW 1 0 [] 3 [] ?_;refine CG.rt (bF) ?_;rotate_left;rw[gG];refine AO.rd 12 [(22,tE),(23,tE),(24,tE),(25,bF),(26,bF),(27,tE),(28,tE),(29,tE),(30,tE),(31,tE),(32,bF)] k_ ?_;refine AO.done [0,2] rfl rfl k_ ?_;exact gi hW 1 0 [] 3 [] (bF);all_goals (simp only[aap]at*)
      all_goals first
       |(rw[hd,aaQ (p:=t.length<=9) (by omega)];first|rfl|(rw[aaQ (p:=0<v) (by omega)];rfl))
       |(rw[aaN (p:=t.length<=9) (by omega),aca];rfl)
       |(rw[aaN (p:=0<v) (by omega)];rfl)
     ·rw[hv]at hA;dsimp only at hA;rw[BW (fun v h=>by rw[hv]at h;cases h)];refine CG.pg (hA) rfl k_ ?_;refine s2 hW 5 0 [] 3 [] (nn 19 ([])) ?_;refine CG.rt (bF) ?_;with_reducible rfl
     ·rw[hv]at hA;dsimp only at hA;rw[BW (fun v h=>by rw[hv]at h;cases h)];refine CG.pg (hA) rfl k_ ?_;refine s2 hW 5 0 [] 3 [] (nn 19 ([])) ?_;refine CG.rt (bF) ?_;with_reducible rfl
  |false=>
   rw[Dg hp];refine s1 hW 7 0 [] 1 [(2,bF),(8,bo (Lib.hasPrefix s [95]))] ?_;refine CG.ao hp k_ ?_;refine s1 hW 7 0 [] 3 [(34,lo (fun b=>[D.int IntKind.u8 (Int.ofNat (UInt8.toNat b))]) s),(35,no (List.length (List.map (fun b=>[D.int IntKind.u8 (Int.ofNat (UInt8.toNat b))]) s))),(36,i0)] ?_;rotate_left;refine CG.bh s (fun i u=>[(0,so s),(2,bF),(34,lo (fun b=>[D.int IntKind.u8 (Int.ofNat (UInt8.toNat b))]) s),(35,no (List.length (List.map (fun b=>[D.int IntKind.u8 (Int.ofNat (UInt8.toNat b))]) s))),(36,.d (.int .i64 (.ofNat i)))]) (fun i u=>[]) (fun i u r=>(wV 0 s=wV i r)) () ?_ (ax.refl _ _) ?_ ?_
   ·rfl
   ·intro i u hi hd aF;rw[aF];refine gF hW 4 0 [] 23 [(37,bo (aI (Int.ofNat i) (Int.ofNat (List.length (List.map (fun b=>[D.int IntKind.u8 (Int.ofNat (UInt8.toNat b))]) s)))))] (fp i (List.length (List.map (fun b=>[D.int IntKind.u8 (Int.ofNat (UInt8.toNat b))]) s))) ?_;refine CG.aX (by decide) ?_;refine s1 hW 3 3 [] 3 [(62,bo (!ah s []))] ?_;refine sp (ah s []) (fun fw=>?_ ) (fun fw=>?_ );rw[fw];exact gi hW 2 0 [] 2 [] (bF);rw[fw];refine s1 hW 2 0 [] 0 [(2,bo (!aI 30 (Int.ofNat s.length)))] ?_;refine CG.rt (bo (!aI 30 (Int.ofNat s.length))) ?_;rotate_left;simp[wV]
   ·intro i u x r hd hx cy aF;rw[show wV i (x::r)=((ki x||(!Nat.beq i 0&&cW x))&&wV (i+1) r)from rfl]at aF;refine fx hW 4 0 [] 31 [(37,bo (aI (Int.ofNat i) (Int.ofNat (List.length (List.map (fun b=>[D.int IntKind.u8 (Int.ofNat (UInt8.toNat b))]) s)))))] (eV i (List.length (List.map (fun b=>[D.int IntKind.u8 (Int.ofNat (UInt8.toNat b))]) s))) ?_;refine s1 hW 5 1 [] 31 [(38,no i)] ?_;refine CG.ix (aG (aa:=(fun b=>[D.int IntKind.u8 (Int.ofNat (UInt8.toNat b))])) hx) rfl k_ ?_;refine s1 hW 3 3 [] 31 [(5,no i),(6,.d (.int .u8 (.ofNat (UInt8.toNat x)))),(43,bo (aI (Int.ofNat (UInt8.toNat x)) 97))] ?_;refine bw (UInt8.toNat x) 97 (fun gD BX=>?_ ) (fun gD BX=>?_ );have iA:(aI (Int.ofNat (UInt8.toNat x)) 97)=true:=fe;rw[iA];refine s1 hW 0 7 [] 123 [(47,bT),(50,bo (aP (Int.ofNat i) 0))] ?_;refine dZ i 0 (fun ni XK=>?_ ) (fun ni XK=>?_ );have jk:(aP (Int.ofNat i) 0)=true:=mi;rw[jk];refine s1 hW 6 0 [true] 59 [] ?_;refine CG.rA (bF) ?_;rotate_left;have qF:(aP (Int.ofNat i) 0)=false:=rG;rw[qF];refine s1 hW 0 4 [] 127 [(54,bo (aI (Int.ofNat (UInt8.toNat x)) 48))] ?_;refine bw (UInt8.toNat x) 48 (fun qG AK=>?_ ) (fun qG AK=>?_ );have ur:(aI (Int.ofNat (UInt8.toNat x)) 48)=true:=fe;rw[ur];refine s1 hW 6 0 [true] 59 [] ?_;refine CG.rA (bF) ?_;rotate_left;have MD:(aI (Int.ofNat (UInt8.toNat x)) 48)=false:=eW;rw[MD];refine s1 hW 2 0 [] 59 [(58,bo (aI 57 (Int.ofNat (UInt8.toNat x))))] ?_;refine bw 57 (UInt8.toNat x) (fun rH ME=>?_ ) (fun rH ME=>?_ );refine CG.ay (show(aI 57 (Int.ofNat (UInt8.toNat x)))=true from fe) k_ ?_;refine s1 hW 3 0 [] 31 [] ?_;refine CG.rA (bF) ?_;rotate_left;refine CG.ao (show(aI 57 (Int.ofNat (UInt8.toNat x)))=false from eW) k_ ?_;refine fU hW 3 2 [] [(0,so s),(2,bF),(34,lo (fun b=>[D.int IntKind.u8 (Int.ofNat (UInt8.toNat b))]) s),(35,no (List.length (List.map (fun b=>[D.int IntKind.u8 (Int.ofNat (UInt8.toNat b))]) s))),(36,io (aW IntKind.i64 (bJ (Int.ofNat i) 1)))] ([]) ?_;rw[bf (by omega)];rotate_left;have I0:(aI (Int.ofNat (UInt8.toNat x)) 97)=false:=eW;rw[I0];refine s1 hW 0 4 [] 127 [(47,bo (aI 122 (Int.ofNat (UInt8.toNat x))))] ?_;refine bw 122 (UInt8.toNat x) (fun AG Kq=>?_ ) (fun AG Kq=>?_ );have Qv:(aI 122 (Int.ofNat (UInt8.toNat x)))=true:=fe;rw[Qv];refine s1 hW 0 3 [] 251 [(50,bo (aP (Int.ofNat i) 0))] ?_;refine dZ i 0 (fun IL Qw=>?_ ) (fun IL Qw=>?_ );have Mi:(aP (Int.ofNat i) 0)=true:=mi;rw[Mi];refine s1 hW 6 0 [true] 59 [] ?_;refine CG.rA (bF) ?_;rotate_left;have IP:(aP (Int.ofNat i) 0)=false:=rG;rw[IP];refine s1 hW 0 4 [] 127 [(54,bo (aI (Int.ofNat (UInt8.toNat x)) 48))] ?_;have wR:(aI (Int.ofNat (UInt8.toNat x)) 48)=false:=eW;rw[wR];refine fx hW 2 0 [] 59 [(58,bo (aI 57 (Int.ofNat (UInt8.toNat x))))] (show(aI 57 (Int.ofNat (UInt8.toNat x)))=true from fe) ?_;refine s1 hW 3 0 [] 31 [] ?_;refine CG.rA (bF) ?_;rotate_left;have Mj:(aI 122 (Int.ofNat (UInt8.toNat x)))=false:=eW;rw[Mj];refine fU hW 6 2 [false] [(0,so s),(2,bF),(34,lo (fun b=>[D.int IntKind.u8 (Int.ofNat (UInt8.toNat b))]) s),(35,no (List.length (List.map (fun b=>[D.int IntKind.u8 (Int.ofNat (UInt8.toNat b))]) s))),(36,io (aW IntKind.i64 (bJ (Int.ofNat i) 1)))] ([]) ?_;rw[bf (by omega)];rotate_left;all_goals first
     |exact⟨(),by rw[aF,show ki x=true from by simp only[ki,aaD];omega];rfl,ax.refl _ _⟩
     |exact⟨(),by rw[aF,show ki x=false from by simp only[ki,abk];omega,show Nat.beq i 0=false from dr (by omega),show cW x=true from by simp only[cW,aaD];omega];rfl,ax.refl _ _⟩
     |(rw[aF,show ki x=false from by simp only[ki,abk];omega,show Nat.beq i 0=true from by rw[show i=0 by omega];rfl];simp;done)
     |(rw[aF,show ki x=false from by simp only[ki,abk];omega,show cW x=false from by simp only[cW,abk];omega];simp;done)
theorem I1(hW:W0 W)(s:List UInt8)(hs:s.length<1099511627776):PC P (gl W) 271 [.d (.str s)] (.d (.bool (fS s))):=tG hW s (by omega)
end Fw.Tz.Na
/-
  Digits cut off at both ends.
-/
namespace Fw.Nu
def gX(s:List UInt8):List UInt8:=(s.reverse.dropWhile cW).reverse
def lC(s:List UInt8):List UInt8:=s.dropWhile cW
theorem qH{p:UInt8->Bool}:∀(l:List UInt8),l.dropWhile p=[]↔l.all p=true
 |[]=>by simp
 |a::l=>by
  rw[abx];cases h:p a with
   |true=>simp only[abK,aaL,h,aaU];exact qH l
   |false=>simp[h]
theorem tH{p:UInt8->Bool}(a:UInt8)(ha:p a=false):∀(l:List UInt8),(l++[a]).dropWhile p≠[]
 |[]=>by simp[ha]
 |b::l=>by
  rw[abI,abx];cases p b with
   |true=>simp only[abK];exact tH a ha l
   |false=>simp
theorem tI{p:UInt8->Bool}:∀(l:List UInt8)(a:UInt8)(r:List UInt8),l.dropWhile p=a::r->p a=false
 |[],_,_,h=>by simp at h
 |b::l,a,r,h=>by
  rw[abx]at h;cases hb:p b with
   |true=>rw[hb]at h;exact tI l a r (by simpa using h)
   |false=>rw[hb]at h;simp at h;rw[←h.1];exact hb
theorem Gg(s:List UInt8):lC (gX s)=[]↔s.all cW=true:=by
 unfold lC gX;cases h:s.reverse.dropWhile cW with
  |nil=>have:=(qH s.reverse).1 h;simp only[List.reverse_nil,List.dropWhile_nil,true_iff];simpa using this
  |cons a r=>
   have ha:=tI _ _ _ h;rw[List.reverse_cons];constructor
   ·intro h2;exact absurd h2 (tH a ha _)
   ·intro h2;have h3:s.reverse.all cW=true:=by simpa using h2
    rw[(qH _).2 h3]at h;cases h
theorem tJ(l:List UInt8)(a:UInt8):gX (l++[a])=if cW a=true then gX l else l++[a]:=by
 unfold gX;rw[List.reverse_append];simp only[List.reverse_cons,List.reverse_nil,List.nil_append,List.singleton_append,abx];split
 ·rfl
 ·simp
def ri:List UInt8->Bool|[]=>false|c::t=>decide (t.length<=29)&&decide (65<=c.toNat/\c.toNat<=90)&&t.all cW
end Fw.Nu
/-
  Names of element types, of the program and of the reference; digits cut off.
-/
namespace Fw.Tz.El
open Go Go.Proofs Fw.X Fw.Tz Fw.Nu Fw.Tz.Sd Fw.Tz.Na
variable {W:World}
theorem AL(x:List UInt8):x=[]\/∃t c,x=t++[c]:=by
 rcases List.eq_nil_or_concat x with h|⟨t,c,h⟩
 ·exact .inl h
 ·exact .inr ⟨t,c,by rw[h,List.concat_eq_append]⟩
def I2(n:Nat):Bool:=Nat.ble 48 n&&Nat.ble n 57
def tK:bR:=.cells ((List.range 256).map fun n=>.d (.bool (I2 n)))
def hD:an:=[some tK]
theorem XL(W:World):((List.range 256).map fun n=>jt W re .e 40 349 [.ptr 0 256 0,.d (.int .u8 (.ofNat n))] hD)=((List.range 256).map fun n=>some (.d (.bool (I2 n)),hD)):=k_
theorem I3(b:UInt8):I2 b.toNat=cW b:=by unfold I2 cW;rw[abe];simp[abG]
theorem Gh(hW:W0 W)(b:UInt8):WF P (gl W) 349 [.ptr 0 256 0,.d (.int .u8 b.toNat)] hD (iK (.d (.bool (cW b))) hD):=by have h:=ace (fun l=>l[b.toNat]? ) (XL W);have hb:b.toNat<256:=UInt8.toNat_lt b;simp only[aa4,List.getElem?_range hb,aaI,aar]at h;rw[I3]at h;exact(bX hW ju 40).fn _ _ _ _ _ rfl h
theorem Gi(hW:W0 W)(s:List UInt8)(hs:s.length<1099511627776):WF P (gl W) 326 [.d (.str s),.ptr 0 256 0] hD (iK (.d (.str (lC s))) hD):=by
 refine CG.b_ SS SU rfl ?_;refine s1 hW 5 0 [] 3 [(4,sE)] ?_;rotate_left;refine CG.tc (α:=List UInt8) (fun x=>[(0,.d (.str x)),(1,.ptr 0 256 0),(4,.d (.str []))]) (fun _=>[some tK]) (fun x=>lC s=lC x/\x.length<1099511627776) List.length s ⟨rfl,hs⟩ (ax.refl _ _) ?_;rintro x ⟨hx,KZ⟩;cases x with
  |nil=>refine s1 hW 5 0 [false] 7 [] ?_;refine CG.aX (by decide) ?_;refine s1 hW 5 0 [] 4 [] ?_;refine CG.cG (sE) ?_;rotate_left;exact⟨by rw[hx];rfl,rfl⟩
  |cons c t=>
   refine s1 hW 10 3 [true] 7 [(8,.ptr 0 256 0),(10,.d (.int .u8 (.ofNat (UInt8.toNat c))))] ?_;refine CG.wf (Gh hW c) rfl rfl k_ rfl ?_;refine s1 hW 2 0 [] 7 [(12,bo (!cW c))] ?_;refine sp (cW c) (fun q9=>?_ ) (fun q9=>?_ );refine CG.ao (b:=(!cW c)) (by rw[q9];rfl) k_ ?_;refine s1 hW 2 1 [] 7 [(13,so (c::t))] ?_;refine CG.ti ?_;refine CG.JS 1 (c::t).length (s:=(c::t)) rfl k_ k_ k_ k_ (by(try simp only[zz]at*)<;>omega) rfl ?_;refine fU hW 0 1 [] [(0,so (List.drop 1 (List.take (c::t).length (c::t)))),(1,.ptr 0 256 0),(4,sE)] ([some tK]) ?_;rotate_left;refine CG.ay (b:=(!cW c)) (by rw[q9];rfl) k_ ?_;refine CG.aX (by decide) ?_;refine s1 hW 5 0 [] 0 [(4,so (c::t))] ?_;refine CG.cG (so (c::t)) ?_;rotate_left
   ·rw[show List.drop 1 (List.take (c::t).length (c::t))=t from by rw[abA];rfl];exact⟨t,⟨by rw[hx,lC,abx,show cW c=true by assumption];rfl,by simp only[aap]at KZ;omega⟩,by simp,ax.refl _ _⟩
   ·exact⟨by rw[hx,lC,abx,show cW c=false by assumption];rfl,rfl⟩
theorem Gj(hW:W0 W)(s:List UInt8)(hs:s.length<1099511627776):WF P (gl W) 336 [.d (.str s),.ptr 0 256 0] hD (iK (.d (.str (gX s))) hD):=by
 refine CG.b_ SV SW rfl ?_;refine s1 hW 5 0 [] 3 [(4,sE)] ?_;rotate_left;refine CG.tc (α:=List UInt8) (fun x=>[(0,.d (.str x)),(1,.ptr 0 256 0),(4,.d (.str []))]) (fun _=>[some tK]) (fun x=>gX s=gX x/\x.length<1099511627776) List.length s ⟨rfl,hs⟩ (ax.refl _ _) ?_;rintro x ⟨hx,KZ⟩;rcases AL x with rfl|⟨t,c,rfl⟩
 ·refine s1 hW 5 0 [false] 7 [] ?_;refine CG.aX (by decide) ?_;refine s1 hW 5 0 [] 4 [] ?_;refine CG.cG (sE) ?_;rotate_left;exact⟨by rw[hx];rfl,rfl⟩
 ·have hl:(t++[c]).length=t.length+1:=by simp
  have hc:(t++[c])[t.length]? =some c:=by simp
  refine fx hW 4 0 [] 7 [(7,bo (aI 0 (Int.ofNat (t++[c]).length)))] (show(aI 0 (Int.ofNat (t++[c]).length))=true from fe) ?_;refine s1 hW 5 5 [] 7 [(8,.ptr 0 256 0),(9,so (t++[c])),(12,io (aW IntKind.i64 (Int.ofNat (t++[c]).length - 1)))] ?_;rotate_left;rw[hl,yy (by omega)];refine CG.VV hc rfl k_ ?_;refine CG.wf (Gh hW c) rfl rfl k_ rfl ?_;refine s1 hW 2 0 [] 7 [(15,bo (!cW c))] ?_;refine sp (cW c) (fun fw=>?_ ) (fun fw=>?_ );refine CG.ao (b:=(!cW c)) (by rw[fw];rfl) k_ ?_;refine s1 hW 2 4 [] 7 [(16,so (t++[c])),(19,io (aW IntKind.i64 (Int.ofNat (t++[c]).length - 1)))] ?_;refine CG.ti ?_;rotate_left;refine CG.ay (b:=(!cW c)) (by rw[fw];rfl) k_ ?_;refine CG.aX (by decide) ?_;refine s1 hW 5 0 [] 0 [(4,so (t++[c]))] ?_;refine CG.cG (so (t++[c])) ?_;rotate_left
  ·rw[hl,yy (by omega)];refine CG.JS 0 t.length (s:=(t++[c])) rfl k_ k_ k_ k_ (by(try simp only[zz]at*)<;>omega) rfl ?_;refine fU hW 0 1 [] [(0,so (List.drop 0 (List.take t.length (t++[c])))),(1,.ptr 0 256 0),(4,sE)] ([some tK]) ?_;rotate_left;rw[show List.drop 0 (List.take t.length (t++[c]))=t by simp];exact⟨t,⟨by rw[hx,tJ,show cW c=true by assumption];rfl,by omega⟩,by omega,ax.refl _ _⟩
  ·exact⟨by rw[hx,tJ,show cW c=false by assumption];rfl,rfl⟩
theorem vv{p:UInt8->Bool}:∀(l:List UInt8),(l.dropWhile p).length<=l.length
 |[]=>aaC _
 |a::l=>by
  rw[abx];split
  ·exact aby (vv l) (Nat.le_succ _)
  ·exact aaC _
theorem Dh(s:List UInt8):(gX s).length<=s.length:=by unfold gX;rw[List.length_reverse];exact aby (vv _) (by rw[List.length_reverse];exact aaC _)
theorem yV(l:List UInt8):Fw.ah l []=decide (l=[]):=by cases l<;>rfl
theorem I4(hW:W0 W)(s:List UInt8)(hs:s.length<1099511627776):PC P (gl W) 306 [.d (.str s),.d (.str [48,49,50,51,52,53,54,55,56,57])] (.d (.str (lC (gX s)))):=by
 have hl:=Dh s;have hr:(gX s).length<1099511627776:=by omega
 refine CG.start SE SF rfl ?_;cases s with
  |nil=>exact gi hW 11 0 [true] 3 [(4,sE)] (sE)
  |cons c t=>refine s4 hW 26 1 [false,false,true] 3 [(4,sE),(5,.ptr 0 256 0),(35,so (c::t))] [(0,.cells [bF,bF,bF,bF,bF,bF,bF,bF,bF,bF,bF,bF,bF,bF,bF,bF,bF,bF,bF,bF,bF,bF,bF,bF,bF,bF,bF,bF,bF,bF,bF,bF,bF,bF,bF,bF,bF,bF,bF,bF,bF,bF,bF,bF,bF,bF,bF,bF,bT,bT,bT,bT,bT,bT,bT,bT,bT,bT,bF,bF,bF,bF,bF,bF,bF,bF,bF,bF,bF,bF,bF,bF,bF,bF,bF,bF,bF,bF,bF,bF,bF,bF,bF,bF,bF,bF,bF,bF,bF,bF,bF,bF,bF,bF,bF,bF,bF,bF,bF,bF,bF,bF,bF,bF,bF,bF,bF,bF,bF,bF,bF,bF,bF,bF,bF,bF,bF,bF,bF,bF,bF,bF,bF,bF,bF,bF,bF,bF,bF,bF,bF,bF,bF,bF,bF,bF,bF,bF,bF,bF,bF,bF,bF,bF,bF,bF,bF,bF,bF,bF,bF,bF,bF,bF,bF,bF,bF,bF,bF,bF,bF,bF,bF,bF,bF,bF,bF,bF,bF,bF,bF,bF,bF,bF,bF,bF,bF,bF,bF,bF,bF,bF,bF,bF,bF,bF,bF,bF,bF,bF,bF,bF,bF,bF,bF,bF,bF,bF,bF,bF,bF,bF,bF,bF,bF,bF,bF,bF,bF,bF,bF,bF,bF,bF,bF,bF,bF,bF,bF,bF,bF,bF,bF,bF,bF,bF,bF,bF,bF,bF,bF,bF,bF,bF,bF,bF,bF,bF,bF,bF,bF,bF,bF,bF,bF,bF,bF,bF,bF,bF,bF,bF,bF,bF,bF,bF])] ?_;refine CG.wf (Gj hW (c::t) hs) rfl rfl k_ rfl ?_;refine CG.wf (Gi hW (gX (c::t)) hr) rfl rfl k_ rfl ?_;exact gi hW 2 0 [] 3 [(4,so (lC (gX (c::t))))] (so (lC (gX (c::t))))
theorem AM(hW:W0 W)(s:List UInt8)(hs:s.length<1099511627776):PC P (gl W) 260 [.d (.str s)] (.d (.bool (ri s))):=by
 refine CG.start Sf Sg rfl ?_;cases s with
  |nil=>exact gi hW 11 0 [true] 1 [(2,bF)] (bF)
  |cons c t=>
   have ht:t.length<1099511627776:=by simp only[aap]at hs;omega
   refine s1 hW 5 9 [] 1 [(2,bF),(11,bo (aI 30 (Int.ofNat (c::t).length)))] ?_;refine bw 30 (c::t).length (fun q8 p8=>?_ ) (fun q8 p8=>?_ )<;>simp only[zz]at p8;have q9:(aI 30 (Int.ofNat (c::t).length))=true:=fe;rw[q9];refine s1 hW 6 0 [true] 3 [] ?_;refine CG.rt (bF) ?_;rotate_left;have hU:(aI 30 (Int.ofNat (c::t).length))=false:=eW;rw[hU];refine s1 hW 0 5 [] 3 [(16,bo (aI (Int.ofNat (UInt8.toNat c)) 65))] ?_;refine bw (UInt8.toNat c) 65 (fun gO Gk=>?_ ) (fun gO Gk=>?_ );have iz:(aI (Int.ofNat (UInt8.toNat c)) 65)=true:=fe;rw[iz];refine s1 hW 6 0 [true] 3 [] ?_;refine CG.rt (bF) ?_;rotate_left;have gG:(aI (Int.ofNat (UInt8.toNat c)) 65)=false:=eW;rw[gG];refine s1 hW 2 0 [] 3 [(20,bo (aI 90 (Int.ofNat (UInt8.toNat c))))] ?_;refine bw 90 (UInt8.toNat c) (fun gD BX=>?_ ) (fun gD BX=>?_ );refine CG.ay (show(aI 90 (Int.ofNat (UInt8.toNat c)))=true from fe) k_ ?_;refine s1 hW 3 0 [] 3 [] ?_;refine CG.rt (bF) ?_;rotate_left;refine CG.ao (show(aI 90 (Int.ofNat (UInt8.toNat c)))=false from eW) k_ ?_;refine s1 hW 3 1 [] 2 [(21,so (c::t))] ?_;refine CG.JS 1 (c::t).length (s:=(c::t)) rfl k_ k_ k_ k_ (by(try simp only[zz]at*)<;>omega) rfl ?_;rotate_left
   ·rw[ri,aaN (by simp only[aap]at*;omega)];rfl
   ·rw[ri,show decide (65<=c.toNat/\c.toNat<=90)=false from aaN (by omega),aca];rfl
   ·rw[ri,show decide (65<=c.toNat/\c.toNat<=90)=false from aaN (by omega),aca];rfl
   ·rw[show List.drop 1 (List.take (c::t).length (c::t))=t from by rw[abA];rfl];refine CG.pg (I4 hW _ ht) rfl k_ ?_;refine s1 hW 2 0 [] 0 [(2,bo (ah (lC (gX t)) []))] ?_;refine CG.rt (bo (ah (lC (gX t)) [])) ?_;rotate_left;rw[ri,aaQ (by simp only[aap]at*;omega),aaQ (by omega),yV,aaU,aaU,V.d.injEq,D.bool.injEq,abe,aaD];exact Gg t
end Fw.Tz.El
/-
  Expressions, shapes and types that are valid; what the program and the reference say of any.
-/
namespace Fw.Tz.Va
open Go Go.Proofs Fw.X Fw.Tz Fw.Nu Fw.Tz.Sd Fw.Tz.Na
variable {W:World}
structure Cf where
 var:List UInt8
 c:Int
def Cf.aa(x:Cf):List D:=[.str x.var,.int .i64 x.c]
structure aq where
 c:Int
 ts:List Cf
def aq.aa(x:aq):List D:=[.int .i64 x.c,.list (x.ts.map Cf.aa)]
structure Ty where
 elem:List UInt8
 row:List UInt8
 az:List aq
def Ty.aa(x:Ty):List D:=[.str x.elem,.str x.row,.list (x.az.map aq.aa)]
@[simp,reducible] def aq.ce(x:aq):List V:=[Fw.io x.c,Fw.lo Cf.aa x.ts]
@[simp,reducible] def Ty.ce(x:Ty):List V:=[Fw.so x.elem,Fw.so x.row,Fw.lo aq.aa x.az]
def yW:Option (List UInt8)->List UInt8->Bool|none,_=>true|some q,v=>Fw.bytesLess q v
def gP:Option (List UInt8)->List Cf->Bool|_,[]=>true|p,t::r=>fS t.var&& !(t.c==0)&&dL t.c&&yW p t.var&&gP (some t.var) r
def dF(c:Int)(ts:List Cf):Bool:=dL c&&decide (ts.length<=12)&&gP none ts
def aq.ok(x:aq):Bool:=dF x.c x.ts
theorem Di(hW:W0 W)(c:Int)(ts:List Cf)(hl:ts.length<1099511627776)(cX:∀t∈ts,t.var.length<=281474976710656):PC P (gl W) 210 [.agg [.d (.int .i64 c),.d (.list (ts.map Cf.aa))]] (.d (.bool (dF c ts))):=by
 refine CG.start R' R_ rfl ?_;refine s4 hW 8 0 [] 0 [(1,.ptr 0 2 0),(2,bF),(6,lo Cf.aa ts),(7,no (ts.map Cf.aa).length),(8,i0)] [(0,.cells [io c,lo Cf.aa ts])] ?_;rotate_left
 ·skip;refine CG.bh ts (fun i a=>[(1,.ptr 0 2 0),(2,bF),(6,lo Cf.aa ts),(7,no (ts.map Cf.aa).length),(8,.d (.int .i64 (.ofNat i)))]) (fun i a=>[some (.cells [io c,lo Cf.aa ts])]) (fun i a r=>(gP none ts=gP a r/\(i=0->a=none)/\∀k,i=k+1->∃y,ts[k]? =some y/\a=some y.var)) none ?_ (ax.refl _ _) ?_ ?_
  ·exact⟨rfl,fun _=>rfl,fun k hk=>by omega⟩
  ·intro i a hi hd aF;obtain⟨hv,-,-⟩:=aF;refine gF hW 4 0 [] 23 [(9,bo (aI (Int.ofNat i) (Int.ofNat (ts.map Cf.aa).length)))] (fp i (ts.map Cf.aa).length) ?_;refine CG.aX (by decide) ?_;refine a_ hW 3 2 [] 3 [(46,io c)] (Ge hW c) ?_;refine s1 hW 0 1 [] 3 [(48,bo (dL c))] ?_;refine sp (dL c) (fun gO=>?_ ) (fun gO=>?_ );rw[gO];refine s1 hW 2 0 [] 0 [(2,bo (!aI 12 (Int.ofNat (ts.map Cf.aa).length)))] ?_;refine CG.rt (bo (!aI 12 (Int.ofNat (ts.map Cf.aa).length))) ?_;rotate_left;rw[gO];refine s1 hW 2 0 [] 2 [] ?_;refine CG.rt (bF) ?_;rotate_left
   ·rw[dF,hv,show dL c=true by assumption,dI,aaE,V.d.injEq,D.bool.injEq,abe];simp[gP];omega
   ·rw[dF,show dL c=false by assumption];rfl
  ·intro i a x r hd hx cy aF;obtain⟨hv,h0,h1⟩:=aF;rw[gP]at hv;cases i with
    |zero=>cases h0 rfl;refine fx hW 4 0 [] 31 [(9,bo (aI 0 (Int.ofNat (ts.map Cf.aa).length)))] (show(aI 0 (Int.ofNat (ts.map Cf.aa).length))=true from fe) ?_;refine s1 hW 5 1 [] 31 [(10,i0)] ?_;refine CG.ix (aG (aa:=Cf.aa) hx) rfl k_ ?_;refine s4 hW 3 0 [] 31 [(3,i0),(4,.ptr 1 2 0)] [(1,.cells [so x.var,io x.c])] ?_;refine CG.iy bC k_ k_ ?_;refine AO.rd 2 [(13,.ptr 1 2 0),(14,so x.var)] k_ ?_;refine AO.od (tG hW x.var (cX x (aat hx))) rfl k_ k_ ?_;refine AO.rd 2 [(16,bo (!fS x.var)),(17,bo (!fS x.var))] k_ ?_;refine sp (fS x.var) (fun gD=>?_ ) (fun gD=>?_ );rw[gD];refine AO.rd 5 [(18,.ptr 1 2 1),(19,io x.c),(20,bo (Cf.c x==0)),(21,bo (Cf.c x==0)),(22,bo (Cf.c x==0))] k_ ?_;refine PN x.c 0 (fun iq Uq=>?_ ) (fun iq Uq=>?_ );rw[iq];refine AO.rd 21 [(23,tE),(24,tE),(25,tE),(26,tE),(27,bT),(28,bT),(29,tE),(30,tE),(31,tE),(32,tE),(33,tE),(34,tE),(35,tE),(36,tE),(37,tE),(38,tE),(39,tE),(40,tE),(41,tE),(42,tE),(43,bT)] k_ ?_;refine AO.done [1,2,6,7,8,43] rfl rfl k_ ?_;refine s1 hW 5 0 [true] 31 [] ?_;refine CG.rA (bF) ?_;rotate_left;rw[iq];refine AO.rd 2 [(23,.ptr 1 2 1),(24,io x.c)] k_ ?_;refine AO.od (Ge hW x.c) rfl k_ k_ ?_;refine AO.rd 3 [(26,bo (!dL x.c)),(27,bo (!dL x.c)),(28,bo (!dL x.c))] k_ ?_;refine sp (dL x.c) (fun ni=>?_ ) (fun ni=>?_ );rw[ni];refine AO.rd 15 [(29,i0),(30,bF),(31,bF),(32,tE),(33,tE),(34,tE),(35,tE),(36,tE),(37,tE),(38,tE),(39,tE),(40,tE),(41,tE),(42,bF),(43,bF)] k_ ?_;refine AO.done [1,2,6,7,8,43] rfl rfl k_ ?_;refine fU hW 5 2 [false] [(1,.ptr 0 2 0),(2,bF),(6,lo Cf.aa ts),(7,no (ts.map Cf.aa).length),(8,io 1)] ([some (.cells [io c,lo Cf.aa ts]),some (.cells [so x.var,io x.c])]) ?_;rotate_left;rw[ni];refine AO.rd 15 [(29,tE),(30,tE),(31,tE),(32,tE),(33,tE),(34,tE),(35,tE),(36,tE),(37,tE),(38,tE),(39,tE),(40,tE),(41,tE),(42,tE),(43,bT)] k_ ?_;refine AO.done [1,2,6,7,8,43] rfl rfl k_ ?_;refine s1 hW 5 0 [true] 31 [] ?_;refine CG.rA (bF) ?_;rotate_left;rw[gD];refine AO.rd 26 [(18,tE),(19,tE),(20,tE),(21,bT),(22,bT),(23,tE),(24,tE),(25,tE),(26,tE),(27,bT),(28,bT),(29,tE),(30,tE),(31,tE),(32,tE),(33,tE),(34,tE),(35,tE),(36,tE),(37,tE),(38,tE),(39,tE),(40,tE),(41,tE),(42,tE),(43,bT)] k_ ?_;refine AO.done [1,2,6,7,8,43] rfl rfl k_ ?_;refine s1 hW 5 0 [true] 31 [] ?_;refine CG.rA (bF) ?_;rotate_left;all_goals first|(simp only[dF,hv,yW];simp[*];done)|(refine⟨some x.var,⟨by rw[hv];simp[yW, *],fun h=>by omega,fun k hk=>⟨x,by rw[show k=0 by omega];exact hx,rfl⟩⟩,ax.trim 1 [1,2,6,7,8] rfl rfl rfl rfl rfl⟩;done)
    |succ k=>obtain⟨y,hy,rfl⟩:=h1 k rfl;refine fx hW 4 0 [] 31 [(9,bo (aI (Int.ofNat (k+1)) (Int.ofNat (ts.map Cf.aa).length)))] (eV (k+1) (ts.map Cf.aa).length) ?_;refine s1 hW 5 1 [] 31 [(10,no (k+1))] ?_;refine CG.ix (aG (aa:=Cf.aa) hx) rfl k_ ?_;refine s4 hW 3 0 [] 31 [(3,no (k+1)),(4,.ptr 1 2 0)] [(1,.cells [so x.var,io x.c])] ?_;refine CG.iy bC k_ k_ ?_;refine AO.rd 2 [(13,.ptr 1 2 0),(14,so x.var)] k_ ?_;refine AO.od (tG hW x.var (cX x (aat hx))) rfl k_ k_ ?_;refine AO.rd 2 [(16,bo (!fS x.var)),(17,bo (!fS x.var))] k_ ?_;refine sp (fS x.var) (fun ni=>?_ ) (fun ni=>?_ );rw[ni];refine AO.rd 5 [(18,.ptr 1 2 1),(19,io x.c),(20,bo (Cf.c x==0)),(21,bo (Cf.c x==0)),(22,bo (Cf.c x==0))] k_ ?_;refine PN x.c 0 (fun qF Dd=>?_ ) (fun qF Dd=>?_ );rw[qF];refine AO.rd 21 [(23,tE),(24,tE),(25,tE),(26,tE),(27,bT),(28,bT),(29,tE),(30,tE),(31,tE),(32,tE),(33,tE),(34,tE),(35,tE),(36,tE),(37,tE),(38,tE),(39,tE),(40,tE),(41,tE),(42,tE),(43,bT)] k_ ?_;refine AO.done [1,2,6,7,8,43] rfl rfl k_ ?_;refine s1 hW 5 0 [true] 31 [] ?_;refine CG.rA (bF) ?_;rotate_left;rw[qF];refine AO.rd 2 [(23,.ptr 1 2 1),(24,io x.c)] k_ ?_;refine AO.od (Ge hW x.c) rfl k_ k_ ?_;refine AO.rd 3 [(26,bo (!dL x.c)),(27,bo (!dL x.c)),(28,bo (!dL x.c))] k_ ?_;refine sp (dL x.c) (fun wS=>?_ ) (fun wS=>?_ );rw[wS];refine AO.rd 3 [(29,no (k+1)),(30,bo (decide (0<Int.ofNat (k+1)))),(31,bo (decide (0<Int.ofNat (k+1))))] k_ ?_;have qG:(decide (0<Int.ofNat (k+1)))=true:=aaQ (by(try simp only[zz]at*)<;>omega);rw[qG];refine AO.rd 4 [(32,.ptr 0 2 1),(33,lo Cf.aa ts),(34,no (k+1)),(35,io (IntKind.wrap IntKind.i64 (Int.ofNat (k+1) - 1)))] k_ ?_;rw[C8 (by omega)];refine AO.idx (aG (aa:=Cf.aa) hy) rfl k_ k_ k_ rfl ?_;refine AO.rd 7 [(37,.aO [.str y.var]),(38,so y.var),(39,.ptr 1 2 0),(40,so x.var),(41,bo (!bytesLess y.var x.var)),(42,bo (!bytesLess y.var x.var)),(43,bo (!bytesLess y.var x.var))] k_ ?_;refine AO.done [1,2,6,7,8,43] rfl rfl k_ ?_;refine s1 hW 1 0 [] 63 [] ?_;refine sp (bytesLess y.var x.var) (fun ur=>?_ ) (fun ur=>?_ );refine CG.ao (b:=(!bytesLess y.var x.var)) (by rw[ur];rfl) k_ ?_;refine fU hW 3 2 [] [(1,.ptr 0 2 0),(2,bF),(6,lo Cf.aa ts),(7,no (ts.map Cf.aa).length),(8,io (aW IntKind.i64 (bJ (Int.ofNat (k+1)) 1)))] ([some (.cells [io c,lo Cf.aa ts]),some (.cells [so x.var,io x.c])]) ?_;rw[bf (by omega)];rotate_left;refine CG.ay (b:=(!bytesLess y.var x.var)) (by rw[ur];rfl) k_ ?_;refine s1 hW 3 0 [] 31 [] ?_;refine CG.rA (bF) ?_;rotate_left;rw[wS];refine AO.rd 15 [(29,tE),(30,tE),(31,tE),(32,tE),(33,tE),(34,tE),(35,tE),(36,tE),(37,tE),(38,tE),(39,tE),(40,tE),(41,tE),(42,tE),(43,bT)] k_ ?_;refine AO.done [1,2,6,7,8,43] rfl rfl k_ ?_;refine s1 hW 5 0 [true] 31 [] ?_;refine CG.rA (bF) ?_;rotate_left;rw[ni];refine AO.rd 26 [(18,tE),(19,tE),(20,tE),(21,bT),(22,bT),(23,tE),(24,tE),(25,tE),(26,tE),(27,bT),(28,bT),(29,tE),(30,tE),(31,tE),(32,tE),(33,tE),(34,tE),(35,tE),(36,tE),(37,tE),(38,tE),(39,tE),(40,tE),(41,tE),(42,tE),(43,bT)] k_ ?_;refine AO.done [1,2,6,7,8,43] rfl rfl k_ ?_;refine s1 hW 5 0 [true] 31 [] ?_;refine CG.rA (bF) ?_;rotate_left;all_goals first|(simp only[dF,hv,yW];simp[*];done)|(refine⟨some x.var,⟨by rw[hv];simp[yW, *],fun h=>by omega,fun k2 hk=>⟨x,by rw[show k2=k+1 by omega];exact hx,rfl⟩⟩,ax.trim 1 [1,2,6,7,8] rfl rfl rfl rfl rfl⟩;done)
theorem tL(hW:W0 W)(c:Int)(ts:List Cf)(hl:ts.length<1099511627776)(cX:∀t∈ts,t.var.length<1099511627776):PC P (gl W) 210 [.agg [.d (.int .i64 c),.d (.list (ts.map Cf.aa))]] (.d (.bool (dF c ts))):=Di hW c ts hl (fun t ht=>by have:=cX t ht;omega)
end Fw.Tz.Va
/-
  Shapes and types that are valid; what the program and the reference say of any.
-/
namespace Fw.Tz.Vb
open Go Go.Proofs Fw.X Fw.Tz Fw.Nu Fw.Tz.Sd Fw.Tz.Na Fw.Tz.El Fw.Tz.Va
variable {W:World}
def eF:Option Nat->V|some i=>.d (.int .i64 (.ofNat i))|none=>.d (.int .i64 (-1))
def aq.sm(x:aq):Prop:=x.ts.length<1099511627776/\∀t∈x.ts,t.var.length<1099511627776
def bad(x:aq):Bool:= !dF x.c x.ts
def lh(s:List UInt8):Bool:=Fw.ah s []||fS s
def pP(row:List UInt8)(az:List aq):Bool:=lh row&&decide (az.length<=6)&&az.all aq.ok
def nj:List UInt8:=[105,110,116]
def kj:List UInt8:=[98,111,111,108]
def Kr(e:List UInt8):Bool:=Fw.ah e nj||Fw.ah e kj||ri e
def I5(t:Ty):Bool:=Kr t.elem&&pP t.row t.az
theorem wW(l:List aq):l.any bad= !l.all aq.ok:=by
 induction l with
  |nil=>rfl
  |cons x l ih=>rw[List.any_cons,aaL,ih,Bool.not_and];rfl
theorem MF(hW:W0 W)(x:aq)(hs:aq.sm x):PC P (gl W) 307 [.agg [.d (.int .i64 x.c),.d (.list (x.ts.map Cf.aa))]] (.d (.bool (bad x))):=by refine CG.start SG SH rfl ?_;refine s4 hW 4 1 [] 0 [(2,bF),(3,.agg x.ce)] [(0,.cells x.ce)] ?_;refine CG.pg (tL hW x.c x.ts (And.left hs) (And.right hs)) rfl k_ ?_;exact gi hW 2 0 [] 0 [(2,bo (!dF x.c x.ts))] (bo (!dF x.c x.ts))
theorem Dj(hW:W0 W)(l:List aq)(hl:l.length<1099511627776)(hd:∀x∈l,aq.sm x):PC P (gl W) 262 [.d (.list (l.map aq.aa)),.func 307 [] []] (eF (l.findIdx? bad)):=by
 refine CG.start Kj Kk rfl ?_;refine s1 hW 8 0 [] 3 [(4,i0),(7,no (l.map aq.aa).length),(8,i0)] ?_;rotate_left;refine CG.bh l (fun i u=>[(0,lo aq.aa l),(1,.func 307 [] []),(4,i0),(7,no (l.map aq.aa).length),(8,.d (.int .i64 (.ofNat i)))]) (fun i u=>[]) (fun i u r=>(eF (l.findIdx? bad)=eF ((r.findIdx? bad).map (·+i)))) () ?_ (ax.refl _ _) ?_ ?_
 ·cases l.findIdx? bad<;>rfl
 ·intro i u hi hd aF;refine gF hW 4 0 [] 23 [(9,bo (aI (Int.ofNat i) (Int.ofNat (l.map aq.aa).length)))] (fp i (l.map aq.aa).length) ?_;refine CG.aX (by decide) ?_;refine s1 hW 5 0 [] 0 [(4,io (-1))] ?_;refine CG.rt (io (-1)) ?_;rotate_left;rw[aF];rfl
 ·intro i u x r cQ hx cy aF;have hs:=hd x (aat hx);refine fx hW 4 0 [] 31 [(9,bo (aI (Int.ofNat i) (Int.ofNat (l.map aq.aa).length)))] (eV i (l.map aq.aa).length) ?_;refine s1 hW 8 3 [] 31 [(5,no i),(11,.func 307 [] []),(12,lo aq.aa l),(13,no i)] ?_;refine CG.ix (aG (aa:=aq.aa) hx) rfl k_ ?_;refine s1 hW 0 1 [] 127 [(15,.agg x.ce)] ?_;refine CG.rE (first:=[]) (cap:=[]) (MF hW x hs) rfl k_ k_ k_ rfl ?_;refine s1 hW 2 0 [] 319 [] ?_;refine sp (bad x) (fun gD=>?_ ) (fun gD=>?_ );refine CG.ay gD k_ ?_;refine s1 hW 3 0 [] 51 [(4,no i)] ?_;refine CG.rA (no i) ?_;rotate_left;refine CG.ao gD k_ ?_;refine fU hW 3 2 [] [(0,lo aq.aa l),(1,.func 307 [] []),(4,i0),(7,no (l.map aq.aa).length),(8,io (aW IntKind.i64 (bJ (Int.ofNat i) 1)))] ([]) ?_;rw[bf (by omega)];rotate_left
  ·rw[aF,aaO,show bad x=true by assumption];simp[eF]
  ·refine⟨(),?_,ax.refl _ _⟩;rw[aF,aaO,show bad x=false by assumption];cases r.findIdx? bad<;>simp[eF];omega
theorem vw(hW:W0 W)(l:List aq)(hl:l.length<1099511627776)(hd:∀x∈l,aq.sm x):PC P (gl W) 199 [.d (.list (l.map aq.aa)),.func 307 [] []] (.d (.bool (l.any bad))):=by
 refine CG.start J' J_ rfl ?_;refine a_ hW 4 2 [] 0 [(4,bF),(5,lo aq.aa l),(6,.func 307 [] [])] (Dj hW _ hl hd) ?_;rotate_left;have:l.any bad=(l.findIdx? bad).isSome:=by rw[abg]
 rw[this];cases l.findIdx? bad with
  |none=>exact gi hW 2 0 [] 1 [] (bF)
  |some i=>exact gi hW 2 0 [] 0 [(4,bT)] (bT)
theorem wX(hW:W0 W)(row:List UInt8)(az:List aq)(hr:row.length<1099511627776)(hl:az.length<1099511627776)(hd:∀x∈az,aq.sm x):PC P (gl W) 261 [.agg [.d (.str row),.d (.list (az.map aq.aa))]] (.d (.bool (pP row az))):=by
 refine CG.start Sh Si rfl ?_;refine s4 hW 4 4 [] 0 [(1,.ptr 0 2 0),(2,bF),(6,bo (ah row []))] [(0,.cells [so row,lo aq.aa az])] ?_;refine sp (ah row []) (fun q8=>?_ ) (fun q8=>?_ );rw[q8];refine s1 hW 0 11 [] 3 [(17,bo (!aI 6 (Int.ofNat (az.map aq.aa).length)))] ?_;refine bw 6 (az.map aq.aa).length (fun hU zA=>?_ ) (fun hU zA=>?_ )<;>simp only[zz]at zA;have fw:(aI 6 (Int.ofNat (az.map aq.aa).length))=true:=fe;rw[fw];refine s1 hW 2 0 [] 2 [] ?_;refine CG.rt (bF) ?_;rotate_left;have gO:(aI 6 (Int.ofNat (az.map aq.aa).length))=false:=eW;rw[gO];refine a_ hW 0 2 [] 6 [(19,lo aq.aa az)] (vw hW _ hl hd) ?_;refine s1 hW 2 0 [] 0 [(2,bo (!List.any az bad))] ?_;refine CG.rt (bo (!List.any az bad)) ?_;rotate_left;rw[q8];refine a_ hW 0 2 [] 7 [(8,so row)] (I1 hW _ hr) ?_;refine s1 hW 0 2 [] 3 [(11,bo (fS row))] ?_;refine sp (fS row) (fun iz=>?_ ) (fun iz=>?_ );rw[iz];refine s1 hW 0 6 [] 3 [(17,bo (!aI 6 (Int.ofNat (az.map aq.aa).length)))] ?_;refine bw 6 (az.map aq.aa).length (fun gD BX=>?_ ) (fun gD BX=>?_ )<;>simp only[zz]at BX;have iA:(aI 6 (Int.ofNat (az.map aq.aa).length))=true:=fe;rw[iA];refine s1 hW 2 0 [] 2 [] ?_;refine CG.rt (bF) ?_;rotate_left;have iq:(aI 6 (Int.ofNat (az.map aq.aa).length))=false:=eW;rw[iq];refine a_ hW 0 2 [] 6 [(19,lo aq.aa az)] (vw hW _ hl hd) ?_;refine s1 hW 2 0 [] 0 [(2,bo (!List.any az bad))] ?_;refine CG.rt (bo (!List.any az bad)) ?_;rotate_left;rw[iz];refine s1 hW 2 0 [] 2 [] ?_;refine CG.rt (bF) ?_;rotate_left;all_goals first
  |(
   have h6:az.length<=6:=by omega
   simp[pP,lh,wW, *];done)
  |(
   have h6:¬az.length<=6:=by omega
   simp[pP,lh,wW, *];done)
  |(simp[pP,lh,wW, *];done)
theorem Ks(hW:W0 W)(e row:List UInt8)(az:List aq)(he:e.length<1099511627776)(hr:row.length<1099511627776)(hl:az.length<1099511627776)(hd:∀x∈az,aq.sm x):PC P (gl W) 198 [.agg [.d (.str e),.d (.str row),.d (.list (az.map aq.aa))]] (.d (.bool (I5 ⟨e,row,az⟩))):=by refine CG.start RY RZ rfl ?_;refine s4 hW 4 4 [] 0 [(1,.ptr 0 3 0),(2,bF),(6,bo (ah e [105,110,116]))] [(0,.cells [so e,so row,lo aq.aa az])] ?_;refine sp (ah e [105,110,116]) (fun hU=>?_ ) (fun hU=>?_ );rw[hU];refine a_ hW 0 12 [] 2 [(16,bT),(18,.agg [so row,lo aq.aa az])] (wX hW _ _ hr hl hd) ?_;refine s1 hW 2 0 [] 0 [(2,bo (pP row az))] ?_;refine CG.rt (bo (pP row az)) ?_;rotate_left;rw[hU];refine s1 hW 0 5 [] 3 [(11,bo (ah e [98,111,111,108]))] ?_;refine sp (ah e [98,111,111,108]) (fun fw=>?_ ) (fun fw=>?_ );rw[fw];refine a_ hW 0 7 [] 2 [(16,bT),(18,.agg [so row,lo aq.aa az])] (wX hW _ _ hr hl hd) ?_;refine s1 hW 2 0 [] 0 [(2,bo (pP row az))] ?_;refine CG.rt (bo (pP row az)) ?_;rotate_left;rw[fw];refine a_ hW 0 2 [] 7 [(13,so e)] (AM hW _ he) ?_;refine s1 hW 0 2 [] 3 [(16,bo (ri e))] ?_;refine sp (ri e) (fun gO=>?_ ) (fun gO=>?_ );rw[gO];refine a_ hW 0 2 [] 6 [(18,.agg [so row,lo aq.aa az])] (wX hW _ _ hr hl hd) ?_;refine s1 hW 2 0 [] 0 [(2,bo (pP row az))] ?_;refine CG.rt (bo (pP row az)) ?_;rotate_left;rw[gO];refine s1 hW 2 0 [] 2 [] ?_;refine CG.rt (bF) ?_;rotate_left;all_goals simp[I5,Kr,nj,kj, *]
end Fw.Tz.Vb
/-
  Terms, parameters, definitions and modules as data.
-/
namespace Fw.Tz.Tm
open Go Go.Proofs Fw.X Fw.Tz Fw.Nu Fw.Tz.Va Fw.Tz.Vb
inductive Tm where|mk (kind line:Int) (name:List UInt8) (num:Int) (ae:List UInt8) (ad av:List Int) (ai:List aq) (aj:List Int) (kids:List Tm)
def Tm.kind:Tm->Int| .mk x _ _ _ _ _ _ _ _ _=>x
def Tm.line:Tm->Int| .mk _ x _ _ _ _ _ _ _ _=>x
def Tm.name:Tm->List UInt8| .mk _ _ x _ _ _ _ _ _ _=>x
def Tm.num:Tm->Int| .mk _ _ _ x _ _ _ _ _ _=>x
def Tm.ae:Tm->List UInt8| .mk _ _ _ _ x _ _ _ _ _=>x
def Tm.ad:Tm->List Int| .mk _ _ _ _ _ x _ _ _ _=>x
def Tm.av:Tm->List Int| .mk _ _ _ _ _ _ x _ _ _=>x
def Tm.ai:Tm->List aq| .mk _ _ _ _ _ _ _ x _ _=>x
def Tm.aj:Tm->List Int| .mk _ _ _ _ _ _ _ _ x _=>x
def Tm.kids:Tm->List Tm| .mk _ _ _ _ _ _ _ _ _ x=>x
def encI(n:Int):List D:=[.int .i64 n]
def encS(s:List UInt8):List D:=[.str s]
mutual
def Tm.aa:Tm->List D| .mk k l n u e d v s r ks=>[.int .i64 k,.int .i64 l,.str n,.int .i64 u,.str e,.list (d.map encI),.list (v.map encI),.list (s.map aq.aa),.list (r.map encI),.list (Tm.I6 ks)]
def Tm.I6:List Tm->List (List D)|[]=>[]|t::ts=>t.aa::Tm.I6 ts
end
theorem Tm.BY:∀(l:List Tm),Tm.I6 l=l.map Tm.aa|[]=>rfl|t::ts=>by rw[Tm.I6,Tm.BY ts];rfl
def Tm.cells(t:Tm):List D:=[.int .i64 t.kind,.int .i64 t.line,.str t.name,.int .i64 t.num,.str t.ae,.list (t.ad.map encI),.list (t.av.map encI),.list (t.ai.map aq.aa),.list (t.aj.map encI),.list (t.kids.map Tm.aa)]
theorem Tm.wY(t:Tm):t.aa=t.cells:=by cases t with|mk k l n u e d v s r ks=>rw[Tm.aa,Tm.BY];rfl
theorem Tm.dD{l:List Tm}{i:Nat}{x:Tm}(h:l[i]? =some x):(l.map Tm.aa)[i]? =some x.cells:=by rw[←Tm.wY];exact aG h
abbrev vT(t:Tm):V:=.agg (t.cells.map .d)
mutual
def Tm.pre:Tm->List Tm| .mk k l n u e d v s r ks=>.mk k l n u e d v s r ks::Tm.I7 ks
def Tm.I7:List Tm->List Tm|[]=>[]|t::ts=>t.pre++Tm.I7 ts
end
theorem Tm.BZ:∀(l:List Tm),Tm.I7 l=l.flatMap Tm.pre|[]=>rfl|t::ts=>by rw[Tm.I7,Tm.BZ ts];rfl
theorem Tm.jj(t:Tm):t.pre=t::t.kids.flatMap Tm.pre:=by cases t with|mk k l n u e d v s r ks=>rw[Tm.pre,Tm.BZ];rfl
mutual
def Tm.dv:Tm->Nat->List (Tm×Nat)| .mk k l n u e d v s r ks,i=>(.mk k l n u e d v s r ks,i)::Tm.B0 ks (i+1)
def Tm.B0:List Tm->Nat->List (Tm×Nat)|[],_=>[]|t::ts,i=>t.dv i++Tm.B0 ts i
end
theorem Tm.yX:∀(l:List Tm)(i:Nat),Tm.B0 l i=l.flatMap (fun t=>t.dv i)|[],_=>rfl|t::ts,i=>by rw[Tm.B0,Tm.yX ts];rfl
theorem Tm.B1(t:Tm)(i:Nat):t.dv i=(t,i)::t.kids.flatMap (fun k=>k.dv (i+1)):=by cases t with|mk k l n u e d v s r ks=>rw[Tm.dv,Tm.yX];rfl
theorem Tm.size_pos(t:Tm):0<t.pre.length:=by rw[Tm.jj];simp
theorem B4{α:Type}{f:α->List Tm}:∀{l:List α}{x:α},x∈l->(f x).length<=(l.flatMap f).length
 |y::l,x,h=>by
  rw[aaV,aao];rcases aaT.1 h with rfl|h
  ·omega
  ·have:=B4 (f:=f) h;omega
theorem Tm.fR{t x:Tm}(h:x∈t.kids):x.pre.length<t.pre.length:=by rw[Tm.jj t];have:=B4 (f:=Tm.pre) h;simp only[aap];omega
theorem Tm.rX(t:Tm):t∈t.pre:=by rw[Tm.jj];simp
theorem Tm.pN{t k x:Tm}(h:k∈t.kids)(hx:x∈k.pre):x∈t.pre:=by rw[Tm.jj];exact aaY _ (List.mem_flatMap.2 ⟨k,h,hx⟩)
theorem Tm.Gl:∀(n:Nat)(t:Tm)(i:Nat),t.pre.length=n->(t.dv i).map Prod.fst=t.pre:=by
 intro n;induction n using Nat.strongRecOn with
  |_ n ih=>
   intro t i ht;rw[Tm.B1,Tm.jj,aaB,List.map_flatMap];congr 1;have key:∀l:List Tm,(∀k∈l,k∈t.kids)->l.flatMap (fun k=>(k.dv (i+1)).map Prod.fst)=l.flatMap Tm.pre:=by
    intro l;induction l with
     |nil=>intro _;rfl
     |cons k l ihl=>intro h;rw[aaV,aaV,ihl (fun x hx=>h x (aaY _ hx)),ih _ (by rw[←ht];exact Tm.fR (h k (by simp))) k (i+1) rfl]
   exact key _ (fun _ h=>h)
theorem Tm.km(t:Tm)(i:Nat):(t.dv i).map Prod.fst=t.pre:=Tm.Gl _ t i rfl
mutual
def Tm.depth:Tm->Nat| .mk _ _ _ _ _ _ _ _ _ ks=>Tm.gC ks+1
def Tm.gC:List Tm->Nat|[]=>0|t::ts=>max t.depth (Tm.gC ts)
end
theorem Tm.vr{n:Nat}:∀{l:List Tm},Tm.gC l<=n↔∀t∈l,t.depth<=n
 |[]=>by simp[Tm.gC]
 |t::ts=>by rw[Tm.gC,Nat.max_le,Tm.vr];simp
theorem Tm.yS(t:Tm):t.depth=Tm.gC t.kids+1:=by cases t with|mk k l n u e d v s r ks=>rw[Tm.depth];rfl
structure zB (t:Tm):Prop where
 name:t.name.length<1048577
 ae:t.ae.length<1048577
 ad:t.ad.length<1048577
 av:t.av.length<1048577
 ai:t.ai.length<1048577
 J1:∀l∈t.ai,aq.sm l
 aj:t.aj.length<1048577
 kids:t.kids.length<1048577
structure wP (t:Tm):Prop where
 node:∀x∈t.pre,zB x
 size:t.pre.length<1099511627776
theorem wP.FU{t k:Tm}(h:wP t)(hk:k∈t.kids):wP k:=⟨fun x hx=>h.node x (Tm.pN hk hx),by have:=Tm.fR hk;have:=h.size;omega⟩
theorem wP.self{t:Tm}(h:wP t):zB t:=h.node t t.rX
structure Pm where
 name:List UInt8
 given:Bool
 ty:Ty
def Pm.aa(x:Pm):List D:=[.str x.name,.bool x.given,.str x.ty.elem,.str x.ty.row,.list (x.ty.az.map aq.aa)]
structure Df where
 name:List UInt8
 line:Int
 ps:List Pm
 given:Bool
 res:Ty
 body:Tm
def Df.aa(d:Df):List D:=.str d.name:: .int .i64 d.line:: .list (d.ps.map Pm.aa):: .bool d.given:: .str d.res.elem:: .str d.res.row:: .list (d.res.az.map aq.aa)::d.body.cells
structure Md where
 name:List UInt8
 imports:List (List UInt8)
 aA:List (List UInt8)
 defs:List Df
def Md.aa(m:Md):List D:=[.str m.name,.list (m.imports.map encS),.list (m.aA.map encS),.list (m.defs.map Df.aa)]
abbrev vP(x:Pm):V:=.agg (x.aa.map .d)
abbrev Dc(x:Df):V:=.agg (x.aa.map .d)
abbrev vM(x:Md):V:=.agg (x.aa.map .d)
end Fw.Tz.Tm
/-
  Equality of expressions, shapes and types as functions.
-/
namespace Fw.Tz.Eq
open Go Fw.Tz.Va Fw.Tz.Vb
def AH(a b:Cf):Bool:=Fw.ah a.var b.var&&decide (a.c=b.c)
theorem F1(a b:Cf):AH a b=true↔a=b:=by cases a;cases b;simp[AH,Fw.cr]
end Fw.Tz.Eq
