/-
  Sums of terms: a map's content and a sorted list.
-/
import Derived.Test.YtgfgckimecpmlaaGreatDoorTb
import Derived.Test.YtgfgckimecpmlaaGreatDoorFh
import Derived.Lib.AtoiAll
import Derived.Lib.ItoaNum
import Derived.Test.YtgfgckimecpmlaaGreatDoorTc
import Derived.Test.YtgfgckimecpmlaaGreatDoorFg
import Derived.Test.YtgfgckimecpmlaaGreatDoorTd
set_option linter.unusedSimpArgs false
set_option linter.unusedVariables false
set_option maxRecDepth 1000000
set_option maxHeartbeats 4000000
namespace Fw.Tz.Su
open Go Go.Proofs Fw.X Fw.Tz
variable {l:Es}
def eY:Es->List UInt8->Int->Es|[],k,c=>if c=0 then[]else[(k,c)]|e::r,k,c=>if e.1=k then(if e.2+c=0 then r else(k,e.2+c)::r)else if k<e.1 then(if c=0 then e::r else(k,c)::e::r)else e::eY r k c
def pU(l:Es):Prop:=l.Pairwise fun a b=>a.1<b.1
def Nz(l:Es):Prop:=∀e∈l,e.2≠0
def Nd(l:Es):Prop:=(l.map (·.1)).Nodup
theorem A6(x:List UInt8):cq [] x=0:=rfl
theorem cQ(e:List UInt8×Int)(l:Es)(x:List UInt8):cq (e::l) x=if e.1=x then e.2 else cq l x:=by
 by_cases h:e.1=x
 ·simp[cq,h]
 ·have h2:(e.1==x)=false:=by simp[h]
  simp[cq,h,List.find?_cons,h2]
theorem A7{x:List UInt8}(h:∀e∈l,e.1≠x):cq l x=0:=by
 induction l with
  |nil=>rfl
  |cons e l ih=>rw[cQ,aaF (h e (by simp)),ih fun a ha=>h a (by simp[ha])]
theorem FR(l:Es)(k:List UInt8)(c:Int):∀x∈eY l k c,x.1=k\/x∈l:=by
 induction l with
  |nil=>intro x hx;simp only[eY]at hx;split at hx<;>simp_all
  |cons e l ih=>
   intro x hx;simp only[eY]at hx;split at hx
   ·split at hx
    ·exact Or.inr (by simp[hx])
    ·rcases aa7.1 hx with h|h
     ·exact Or.inl (by rw[h])
     ·exact Or.inr (by simp[h])
   ·split at hx
    ·split at hx
     ·exact Or.inr hx
     ·rcases aa7.1 hx with h|h
      ·exact Or.inl (by rw[h])
      ·exact Or.inr h
    ·rcases aa7.1 hx with h|h
     ·exact Or.inr (by simp[h])
     ·rcases ih x h with h|h
      ·exact Or.inl h
      ·exact Or.inr (by simp[h])
theorem rp(h:pU l)(k:List UInt8)(c:Int):pU (eY l k c):=by
 induction l with
  |nil=>simp only[eY];split<;>simp[pU]
  |cons e l ih=>
   have h0:=h;simp only[pU,abJ]at h;simp only[eY];split
   ·rename_i h1;split
    ·exact h.2
    ·exact abJ.2 ⟨fun b hb=>by have:=h.1 b hb;rw[h1]at this;exact this,h.2⟩
   ·rename_i h1;split
    ·rename_i h2;split
     ·exact h0
     ·refine abJ.2 ⟨fun b hb=>?_,h0⟩;rcases aa7.1 hb with h3|h3
      ·rw[h3];exact h2
      ·exact acR h2 (h.1 b h3)
    ·rename_i h2;refine abJ.2 ⟨fun b hb=>?_,ih h.2⟩;rcases FR l k c b hb with h3|h3
     ·rw[h3];exact Decidable.byContradiction fun h4=>h1 (List.le_antisymm (List.not_lt.1 h2) (List.not_lt.1 h4))
     ·exact h.1 b h3
theorem um(h:Nz l)(k:List UInt8)(c:Int):Nz (eY l k c):=by
 induction l with
  |nil=>intro x hx;simp only[eY]at hx;split at hx<;>simp_all
  |cons e l ih=>
   have h1:Nz l:=fun x hx=>h x (by simp[hx])
   have h2:=h e (by simp);intro x hx;simp only[eY]at hx;split at hx
   ·split at hx
    ·exact h1 x hx
    ·rcases aa7.1 hx with h|h
     ·rw[h];assumption
     ·exact h1 x h
   ·split at hx
    ·split at hx
     ·exact h x hx
     ·rcases aa7.1 hx with h3|h3
      ·rw[h3];assumption
      ·exact h x h3
    ·rcases aa7.1 hx with h3|h3
     ·rw[h3];exact h2
     ·exact ih h1 x h3
theorem xM(h:pU l)(k:List UInt8)(c:Int)(x:List UInt8):cq (eY l k c) x=cq l x+if k=x then c else 0:=by
 induction l with
  |nil=>
   simp only[eY];split
   ·rename_i h1;rw[A6,h1];split<;>rfl
   ·simp only[cQ,A6];split<;>omega
  |cons e l ih=>
   simp only[pU,abJ]at h;have b8:∀{y:List UInt8},y<e.1\/y=e.1->∀b∈l,b.1≠y:=fun hy b hb he=>by
    have h5:=h.1 b hb;rw[he]at h5;rcases hy with hy|hy
    ·exact abH _ (acR hy h5)
    ·rw[hy]at h5;exact abH _ h5
   simp only[eY];split
   ·rename_i h1;by_cases hx:k=x
    ·have h0:cq l x=0:=A7 (b8 (Or.inr (by rw[←hx,h1])));rw[aaK hx,cQ,aaK (h1.trans hx)];split
     ·rw[h0];omega
     ·rw[cQ,aaK hx]
    ·rw[aaF hx,cQ,aaF (fun h4=>hx (h1.symm.trans h4))];split
     ·omega
     ·rw[cQ,aaF hx];omega
   ·rename_i h1;split
    ·rename_i h2;split
     ·rename_i h3;rw[h3];split<;>omega
     ·rw[cQ];by_cases hx:k=x
      ·rw[aaK hx,aaK hx,cQ,aaF (fun h4=>h1 (h4.trans hx.symm)),A7 (b8 (Or.inl (hx▸h2)))];omega
      ·rw[aaF hx,aaF hx];omega
    ·rw[cQ,cQ,ih h.2];by_cases hx:e.1=x
     ·rw[aaK hx,aaK hx,aaF (fun h4=>h1 (hx.trans h4.symm))];omega
     ·rw[aaF hx,aaF hx]
theorem l_(h:pU l):Nd l:=by refine List.Pairwise.map _ (fun a b Is=>?_ ) h;intro he;rw[he]at Is;exact abH _ Is
theorem A8(h:Nd l):∀e∈l,cq l e.1=e.2:=by
 induction l with
  |nil=>intro e he;cases he
  |cons a l ih=>
   simp only[Nd,aaV,acB]at h;intro e he;rw[cQ];rcases aa7.1 he with h1|h1
   ·rw[h1,aaK rfl]
   ·rw[aaF (fun h2:a.1=e.1=>h.1 (by rw[h2];exact acg h1)),ih h.2 e h1]
theorem Eo{x:List UInt8}(h:cq l x≠0):∃e∈l,e.1=x/\e.2=cq l x:=by
 induction l with
  |nil=>exact absurd rfl h
  |cons a l ih=>
   rw[cQ]at h⊢;by_cases h1:a.1=x
   ·rw[aaK h1];exact⟨a,by simp,h1,rfl⟩
   ·rw[aaF h1]at h⊢;obtain⟨e,k1,k2,k3⟩:=ih h;exact⟨e,by simp[k1],k2,k3⟩
theorem A9(h:Nd l)(x:List UInt8):x∈fM l↔cq l x≠0:=by
 simp only[fM,aa_,abi,aaL];constructor
 ·rintro⟨e,⟨h1,h2⟩,rfl⟩;rw[A8 h e h1];exact h2
 ·intro h1;obtain⟨e,k1,k2,k3⟩:=Eo h1;exact⟨e,⟨k1,by rw[k3];exact h1⟩,k2⟩
theorem Lh(h:Nz l):fM l=l.map (·.1):=by rw[fM,acv.2 fun e he=>by simpa using h e he]
theorem Ep(h:Nd l):(fM l).Nodup:=List.Nodup.sublist (List.Sublist.map _ List.filter_sublist) h
theorem It{es ts:Es}(h1:Nd es)(h2:pU ts)(h3:Nz ts)(h4:∀x,cq es x=cq ts x):A5 es=ts:=by
 have hp:(fM es).Perm (ts.map (·.1)):=by
  rw[←Lh h3];refine(List.perm_ext_iff_of_nodup (Ep h1) (Ep (l_ h2))).2 fun x=>?_
  rw[A9 h1,A9 (l_ h2),h4]
 have hs:Mx (fM es)=ts.map (·.1):=by
  have tot:∀(x y:List UInt8),(decide (x<=y)||decide (y<=x))=true:=fun x y=>by rcases List.le_total x y with h|h<;>simp[h]
  have trn:∀(x y z:List UInt8),decide (x<=y)=true->decide (y<=z)=true->decide (x<=z)=true:=fun x y z h1 h2=>by simp only[aaL]at*;exact List.le_trans h1 h2
  refine List.Perm.eq_of_pairwise (le:=fun x y=>decide (x<=y)=true) (fun x y _ _ k1 k2=>?_ ) (List.pairwise_mergeSort trn tot _) ?_ ((List.mergeSort_perm _ _).trans hp)
  ·simp only[aaL]at k1 k2;exact List.le_antisymm k1 k2
  ·refine List.Pairwise.map _ (fun a b Is=>?_ ) h2;simp only[aaL];exact List.le_of_lt Is
 rw[A5,hs,adl];refine(acS fun e he=>?_ ).trans (List.map_id _);simp only[Function.comp,id,h4];rw[A8 (l_ h2) e he]
def nE(ops:Es)(ts:Es):Es:=ops.foldl (fun l o=>eY l o.1 o.2) ts
def tW(k:List UInt8)(c:Int):Bool->Es->Es|true,[]=>[]|false,[]=>[(k,c)]|true,e::r=>(if e.1=k then(e.1,e.2+c)else e)::tW k c true r|false,e::r=>if k<e.1 then(k,c)::e::tW k c true r else if e.1=k then(e.1,e.2+c)::tW k c true r else e::tW k c false r
def MF(l:Es):Es:=l.filter fun e=>decide (e.2≠0)
theorem xN{k:List UInt8}{c:Int}(h:∀e∈l,e.1≠k):tW k c true l=l:=by
 induction l with
  |nil=>rfl
  |cons e l ih=>rw[tW,aaF (h e (by simp)),ih fun a ha=>h a (by simp[ha])]
theorem Iu(h:Nz l):MF l=l:=acv.2 fun e he=>by simpa using h e he
theorem rq(e:List UInt8×Int)(l:Es):MF (e::l)=if e.2=0 then MF l else e::MF l:=by by_cases h:e.2=0<;>simp[MF,h]
theorem FSz{k:List UInt8}{c:Int}(h:pU l)(hz:Nz l):MF (tW k c false l)=eY l k c:=by
 induction l with
  |nil=>rw[tW,rq,eY];rfl
  |cons e l ih=>
   have JY:Nz l:=fun x hx=>hz x (by simp[hx])
   have M1:=hz e (by simp);simp only[pU,abJ]at h;have b8:∀{y:List UInt8},y<e.1\/y=e.1->∀b∈l,b.1≠y:=fun hy b hb he=>by
    have h5:=h.1 b hb;rw[he]at h5;rcases hy with hy|hy
    ·exact abH _ (acR hy h5)
    ·rw[hy]at h5;exact abH _ h5
   rw[tW,eY];by_cases h1:e.1=k
   ·rw[aaF (by rw[h1];exact abH _),aaK h1,aaK h1,xN (b8 (Or.inr h1.symm)),rq,Iu JY,h1]
   ·rw[aaF h1,aaF h1];by_cases h2:k<e.1
    ·rw[aaK h2,aaK h2,xN (b8 (Or.inl h2)),rq,Iu hz]
    ·rw[aaF h2,aaF h2,rq,aaF M1,ih h.2 JY]
end Fw.Tz.Su
/-
  Maps of numbers at open keys: looked up and written.
-/
/-
  Numerals: which strings of digits are the decimal digits of a positive number.
-/
namespace Fw.Nu
open Go.Lib
def bZ(b:UInt8):Bool:=decide (48<=b.toNat/\b.toNat<=57)
def ma(b:UInt8):Bool:=decide (97<=b.toNat/\b.toNat<=122)
def A':List UInt8->Bool|[]=>false|d::u=>decide (u.length<=8)&& !(Nat.beq d.toNat 48)&&(d::u).all bZ
def val(acc:Nat)(l:List UInt8):Nat:=l.foldl (fun a b=>a*10+(b.toNat - 48)) acc
theorem uo(acc:Nat):val acc []=acc:=List.foldl_nil
theorem nF(acc:Nat)(b:UInt8)(l:List UInt8):val acc (b::l)=val (acc*10+(b.toNat - 48)) l:=abw ..
theorem Iv(l:List UInt8)(b:UInt8)(acc:Nat):val acc (l++[b])=val acc l*10+(b.toNat - 48):=by unfold val;rw[List.foldl_append];rw[abw,List.foldl_nil]
theorem Iw:∀(l:List UInt8)(acc:Nat),l.all bZ=true->val acc l<(acc+1)*10^l.length
 |[],acc,_=>by rw[uo,aa',Nat.pow_zero];omega
 |b::l,acc,h=>by simp only[aaX,aaD,bZ,aaL]at h;have:=Iw l (acc*10+(b.toNat - 48)) h.2;rw[nF,aaR,adn];refine abr this ?_;rw[Nat.mul_comm (10^l.length) 10,←Nat.mul_assoc];exact abc _ (by omega)
theorem yU:∀(l:List UInt8)(acc:Nat),0<acc->0<val acc l
 |[],acc,h=>by rw[uo];exact h
 |b::l,acc,h=>by rw[nF];exact yU l _ (by omega)
theorem xO:∀(l:List UInt8)(acc:Nat),l.all bZ=true->(acc+1)*10^l.length<=1000000000000000000->parseUint10 acc l=.ok (val acc l)
 |[],acc,_,_=>by rw[uo];rfl
 |b::l,acc,h,hl=>by
  simp only[aaX,aaD,bZ,aaL]at h;simp only[aaR,adn]at hl;have h1:0<10^l.length:=Nat.pow_pos (by omega);have h3:(acc+1)*10*10^l.length<=1000000000000000000:=by rw[Nat.mul_assoc,Nat.mul_comm 10];exact hl
  have h2:(acc+1)*10<=(acc+1)*10*10^l.length:=acd _ h1;have h4:(acc+1)*10<=1000000000000000000:=abl h2 h3;rw[nF,parseUint10];rw[aaK h.1,aaF (by omega),aaF (by omega)];refine xO l _ h.2 (abl (abc _ ?_ ) h3);omega
theorem C7:∀(u:Nat),(decDigits u).all bZ=true:=by
 intro u;induction u using Nat.strongRecOn with
  |_ u ih=>
   rw[decDigits];split
   ·rename_i h;simp only[aaX,acY,acn,bZ,aaL];rw[adb,Nat.mod_eq_of_lt (by omega)];omega
   ·rename_i h;simp only[ac6,ih (u / 10) (by omega),aaX,acY,acn,abd,bZ,aaL];rw[adb,Nat.mod_eq_of_lt (by omega)];omega
theorem Ix:∀(u:Nat),0<u->∃d r,decDigits u=d::r/\d.toNat≠48:=by
 intro u;induction u using Nat.strongRecOn with
  |_ u ih=>
   intro hu;rw[decDigits];split
   ·rename_i h;refine⟨_,_,rfl,?_⟩;rw[adb,Nat.mod_eq_of_lt (by omega)];omega
   ·rename_i h;obtain⟨d,r,h1,h2⟩:=ih (u / 10) (by omega) (by omega);exact⟨d,r++[UInt8.ofNat (48+u%10)],by rw[h1];rfl,h2⟩
theorem xP{b:UInt8}(h:bZ b=true):UInt8.ofNat (48+(b.toNat - 48))=b:=by simp only[bZ,aaL]at h;rw[show 48+(b.toNat - 48)=b.toNat by omega,UInt8.ofNat_toNat]
theorem Li:∀(n:Nat)(l:List UInt8),l.length=n->l.all bZ=true->(∀d r,l=d::r->d.toNat≠48)->l≠[]->decDigits (val 0 l)=l:=by
 intro n;induction n using Nat.strongRecOn with
  |_ n ih=>
   intro l hn hd h0 fq;obtain⟨l',b,rfl⟩:∃l' b,l=l'++[b]:=⟨l.dropLast,l.getLast fq,(List.dropLast_concat_getLast fq).symm⟩;simp only[ac6,aaX,acY,acn,aaD]at hd;have hb:=hd.2;have J7:=hb;simp only[bZ,aaL]at J7;rw[Iv];cases l' with
    |nil=>rw[uo,adm,aaY];rw[decDigits,dif_pos (by omega),xP hb];rfl
    |cons d r=>
     have Wk:d.toNat≠48:=h0 d (r++[b]) rfl;have hdd:=hd.1;simp only[aaX,aaD,bZ,aaL]at hdd;have hp:0<val 0 (d::r):=by rw[nF];exact yU r _ (by omega)
     have:=ih (d::r).length (by simp at hn⊢;omega) (d::r) rfl hd.1 (fun d' r' e=>by cases e;exact Wk) (by simp);rw[decDigits,dif_neg (by omega),show(val 0 (d::r)*10+(b.toNat - 48)) / 10=val 0 (d::r) by omega,show(val 0 (d::r)*10+(b.toNat - 48))%10=b.toNat - 48 by omega,this,xP hb]
theorem MG{t:List UInt8}(h:A' t=true):∃v:Nat,0<v/\v<1000000000/\atoiAll t=.ok (v:Int)/\t.length<=9/\itoa (v:Int)=t:=by
 cases t with
  |nil=>simp[A']at h
  |cons d u=>
   simp only[A',aaD,aaL,aa5]at h;obtain⟨⟨h1,h2⟩,h3⟩:=h;have Y6:d.toNat≠48:=fun e=>by rw[e]at h2;cases h2
   have hd:=h3;simp only[aaX,aaD,bZ,aaL]at hd;have hlen:(d::u).length<=9:=by simp;omega
   have aav:10^(d::u).length<=1000000000:=by have:10^(d::u).length<=10^9:=Nat.pow_le_pow_right (by omega) hlen;simpa using this
   have b8:=Iw (d::u) 0 h3;simp only[aaY,Nat.one_mul]at b8;refine⟨val 0 (d::u),?_,by omega,?_,hlen,?_ ⟩
   ·rw[nF];exact yU u _ (by omega)
   ·unfold atoiAll;simp only;rw[aaF (by omega)];unfold parseMag;rw[aaF (by simp),xO _ 0 h3 (by omega)];simp only;rw[aaF (by omega),aaF (by omega),aaF (by omega)]
   ·unfold itoa;rw[aaF (by omega),Int.toNat_natCast];exact Li _ (d::u) rfl h3 (fun d' r' e=>by cases e;exact Y6) (by simp)
theorem T'{t:List UInt8}{v:Int}(h0:0<v)(hl:t.length<=9)(h:itoa v=t):A' t=true:=by
 unfold itoa at h;rw[aaF (by omega)]at h;obtain⟨d,r,e1,e2⟩:=Ix v.toNat (by omega);have hd:=C7 v.toNat;rw[e1]at hd h;subst h;have:Nat.beq d.toNat 48=false:=by
  cases hb:Nat.beq d.toNat 48 with
   |false=>rfl
   |true=>exact absurd (aaM hb) e2
 simp only[A',aaD,aaL,this,hd];simp at hl⊢;omega
end Fw.Nu
/-
  Digits cut off at both ends.
-/
namespace Fw.Nu
def h_(s:List UInt8):List UInt8:=(s.reverse.dropWhile bZ).reverse
def mE(s:List UInt8):List UInt8:=s.dropWhile bZ
theorem sD{p:UInt8->Bool}:∀(l:List UInt8),l.dropWhile p=[]↔l.all p=true
 |[]=>by simp
 |a::l=>by
  rw[ab2];cases h:p a with
   |true=>simp only[abL,aaX,h,abd];exact sD l
   |false=>simp[h]
theorem vD{p:UInt8->Bool}(a:UInt8)(ha:p a=false):∀(l:List UInt8),(l++[a]).dropWhile p≠[]
 |[]=>by simp[ha]
 |b::l=>by
  rw[abD,ab2];cases p b with
   |true=>simp only[abL];exact vD a ha l
   |false=>simp
theorem vE{p:UInt8->Bool}:∀(l:List UInt8)(a:UInt8)(r:List UInt8),l.dropWhile p=a::r->p a=false
 |[],_,_,h=>by simp at h
 |b::l,a,r,h=>by
  rw[ab2]at h;cases hb:p b with
   |true=>rw[hb]at h;exact vE l a r (by simpa using h)
   |false=>rw[hb]at h;simp at h;rw[←h.1];exact hb
theorem Iy(s:List UInt8):mE (h_ s)=[]↔s.all bZ=true:=by
 unfold mE h_;cases h:s.reverse.dropWhile bZ with
  |nil=>have:=(sD s.reverse).1 h;simp only[List.reverse_nil,List.dropWhile_nil,true_iff];simpa using this
  |cons a r=>
   have ha:=vE _ _ _ h;rw[List.reverse_cons];constructor
   ·intro h2;exact absurd h2 (vD a ha _)
   ·intro h2;have h3:s.reverse.all bZ=true:=by simpa using h2
    rw[(sD _).2 h3]at h;cases h
theorem vF(l:List UInt8)(a:UInt8):h_ (l++[a])=if bZ a=true then h_ l else l++[a]:=by
 unfold h_;rw[List.reverse_append];simp only[List.reverse_cons,List.reverse_nil,abx,List.singleton_append,ab2];split
 ·rfl
 ·simp
def cH:List UInt8->Bool|[]=>false|c::t=>decide (t.length<=29)&&decide (65<=c.toNat/\c.toNat<=90)&&t.all bZ
end Fw.Nu
/-
  Names and small numbers, of the program and of the reference, for any string.
-/
namespace Fw.Tz.Na
open Go Go.Proofs Fw.X Fw.Tz Fw.Nu Fw.Tz.Sd
variable {W:World}
variable {t:List UInt8}{c:UInt8}
theorem drop_at{α:Type}{l:List α}{i:Nat}{x:α}(h:l[i]? =some x):l.drop i=x::l.drop (i+1):=by obtain⟨b8,he⟩:=aaO.1 h;rw[ab8 b8,he]
def bL(n:Int):Bool:=decide (-1000000<=n/\n<=1000000)
def sF:Nat->List UInt8->Bool|_,[]=>true|i,b::r=>(ma b||(!Nat.beq i 0&&bZ b))&&sF (i+1) r
def bP:List UInt8->Bool|[]=>false|c::t=>bif Nat.beq c.toNat 95 then A' t else decide (t.length<=29)&&sF 0 (c::t)
theorem vG(h:(c.toNat:Int)=95):bP (c::t)=A' t:=by
 have:Nat.beq c.toNat 95=true:=by rw[show c.toNat=95 by omega];rfl
 rw[bP,this];rfl
theorem A_(h:(c.toNat:Int)≠95):bP (c::t)=(decide (t.length<=29)&&sF 0 (c::t)):=by
 have:Nat.beq c.toNat 95=false:=by cases hb:Nat.beq c.toNat 95 with|false=>rfl|true=>exact absurd (by have:=aaM hb;omega) h
 rw[bP,this];rfl
theorem mc(hW:W0 W)(n:Int):PC P (gl W) 153 [.d (.int .i64 n)] (.d (.bool (bL n))):=by
 refine CG.start SR SS rfl ?_;refine s1 hW 4 3 [] 1 [(2,bF),(5,bo (!ax n (-1000000)))] ?_;refine fk n (-1000000) (fun q5 p5=>?_ ) (fun q5 p5=>?_ );rw[q5];refine s1 hW 2 0 [] 2 [] ?_;refine CG.rt (bF) ?_;rotate_left;rw[q5];refine s1 hW 2 0 [] 0 [(2,bo (!ax 1000000 n))] ?_;refine CG.rt (bo (!ax 1000000 n)) ?_;rotate_left
 ·simp only[V.d.injEq,D.bool.injEq,bL];symm;rw[aa6];omega
 ·have h:ax 1000000 n=decide ((1000000:Int)<n):=fF _ _;simp only[V.d.injEq,D.bool.injEq,bL,h];rw[abh];simp;omega
theorem iO(hW:W0 W)(n:Int):PC P (gl W) 142 [.d (.int .i64 n)] (.d (.bool (bL n))):=by
 refine CG.start SP SQ rfl ?_;refine s1 hW 4 3 [] 1 [(2,bF),(5,bo (!ax n (-1000000)))] ?_;refine fk n (-1000000) (fun q5 p5=>?_ ) (fun q5 p5=>?_ );rw[q5];refine s1 hW 2 0 [] 2 [] ?_;refine CG.rt (bF) ?_;rotate_left;rw[q5];refine s1 hW 2 0 [] 0 [(2,bo (!ax 1000000 n))] ?_;refine CG.rt (bo (!ax 1000000 n)) ?_;rotate_left
 ·simp only[V.d.injEq,D.bool.injEq,bL];symm;rw[aa6];omega
 ·have h:ax 1000000 n=decide ((1000000:Int)<n):=fF _ _;simp only[V.d.injEq,D.bool.injEq,bL,h];rw[abh];simp;omega
theorem Ba(h:9<t.length):A' t=false:=by
 cases t with
  |nil=>rfl
  |cons d u=>simp only[aaR]at h;rw[A',aaS (by omega)];rfl
theorem Iz(h:(c.toNat:Int)=95):Lib.hasPrefix (c::t) [95]=true:=by have:c=95:=acy.1 (by simpa using(by omega:c.toNat=95));subst this;simp[Lib.hasPrefix]
theorem FU{s:List UInt8}(h:Lib.hasPrefix s [95]=false):bP s=(!Fw.ai s []&& !ax 30 (.ofNat s.length)&&sF 0 s):=by
 cases s with
  |nil=>rfl
  |cons c t=>
   have hc:(c.toNat:Int)≠95:=fun e=>by rw[Iz e]at h;cases h
   rw[A_ hc];have e1:Fw.ai (c::t) []=false:=rfl;have e2:(!ax 30 (.ofNat (c::t).length))=decide (t.length<=29):=by rw[fF,abh];simp;omega
   rw[e1,e2];rfl
theorem Er(h:∀v,Lib.atoiAll t≠ .ok v):A' t=false:=by
 cases hb:A' t with
  |false=>rfl
  |true=>obtain⟨v,_,_,h2,_⟩:=MG hb;exact absurd h2 (h v)
theorem tH:∀(x:List UInt8),Fw.ai x x=true|[]=>rfl|a::x=>by simp only[Fw.ai,aa4,aaJ];exact tH x
theorem Lj{v:Int}(hv:Lib.atoiAll t=.ok v):A' t=(decide (0<v)&&decide (t.length<=9)&&Fw.ai (Lib.itoa v) t):=by
 cases hb:A' t with
  |true=>
   obtain⟨u,h0,h1,h2,h3,h4⟩:=MG hb;rw[hv]at h2;injection h2 with h2
   subst h2;rw[aa0 (by omega),aa0 h3,h4,tH];rfl
  |false=>
   symm;by_cases h0:0<v
   ·by_cases hl:t.length<=9
    ·rw[aa0 h0,aa0 hl];cases he:Fw.ai (Lib.itoa v) t with
      |false=>rfl
      |true=>rw[T' h0 hl (ep he)]at hb;cases hb
    ·rw[aaS hl,abY];rfl
   ·rw[aaS h0];rfl
theorem C8{v:Int}(h:Lib.atoiAll t=.ok v): -9223372036854775808<=v/\v<=9223372036854775807:=by
 unfold Lib.atoiAll at h;cases t with
  |nil=>cases h
  |cons c r=>
   simp only at h;split at h
   ·cases h
   ·cases h
   ·split at h
    ·cases h
    ·split at h
     ·cases h
     ·injection h with h
      subst h;split<;>omega
theorem rr(hW:W0 W)(b:UInt8):PC P (gl W) 177 [.d (.int .u8 b.toNat)] (.d (.bool (bZ b))):=by refine CG.start S4 S5 rfl ?_;refine s1 hW 4 3 [] 1 [(2,bF),(5,bo (!ax (Int.ofNat (UInt8.toNat b)) 48))] ?_;refine cD (UInt8.toNat b) 48 (fun q5 p5=>?_ ) (fun q5 p5=>?_ );have q6:(ax (Int.ofNat (UInt8.toNat b)) 48)=true:=kX;rw[q6];refine s1 hW 2 0 [] 2 [] ?_;refine CG.rt (bF) ?_;rotate_left;have q7:(ax (Int.ofNat (UInt8.toNat b)) 48)=false:=kO;rw[q7];refine s1 hW 2 0 [] 0 [(2,bo (!ax 57 (Int.ofNat (UInt8.toNat b))))] ?_;refine CG.rt (bo (!ax 57 (Int.ofNat (UInt8.toNat b)))) ?_;rotate_left;all_goals simp only[V.d.injEq,D.bool.injEq,bZ];first|(symm;rw[aa6];omega)|(rw[fF,abh];simp;omega)
theorem wY(hW:W0 W)(b:UInt8):PC P (gl W) 178 [.d (.int .u8 b.toNat)] (.d (.bool (ma b))):=by refine CG.start S6 S7 rfl ?_;refine s1 hW 4 3 [] 1 [(2,bF),(5,bo (!ax (Int.ofNat (UInt8.toNat b)) 97))] ?_;refine cD (UInt8.toNat b) 97 (fun q5 p5=>?_ ) (fun q5 p5=>?_ );have q6:(ax (Int.ofNat (UInt8.toNat b)) 97)=true:=kX;rw[q6];refine s1 hW 2 0 [] 2 [] ?_;refine CG.rt (bF) ?_;rotate_left;have q7:(ax (Int.ofNat (UInt8.toNat b)) 97)=false:=kO;rw[q7];refine s1 hW 2 0 [] 0 [(2,bo (!ax 122 (Int.ofNat (UInt8.toNat b))))] ?_;refine CG.rt (bo (!ax 122 (Int.ofNat (UInt8.toNat b)))) ?_;rotate_left;all_goals simp only[V.d.injEq,D.bool.injEq,ma];first|(symm;rw[aa6];omega)|(rw[fF,abh];simp;omega)
theorem dK(hW:W0 W)(s:List UInt8):PC P (gl W) 120 [.d (.str s)] (.d (.bool (bP s))):=by
 refine CG.start R5 R6 rfl ?_;cases s with
  |nil=>exact du hW 11 0 [true] 1 [(2,bF)] (bF)
  |cons c t=>
   by_cases hc:(c.toNat:Int)=95
   ·rw[vG hc];cases t with
     |nil=>refine cP hW 14 0 [false] 1 [(2,bF),(15,bo (aQ (Int.ofNat (UInt8.toNat c)) 95))] (show(aQ (Int.ofNat (UInt8.toNat c)) 95)=true from wG) ?_;exact du hW 8 0 [true] 3 [] (bF)
     |cons d u=>
      refine s1 hW 7 0 [] 1 [(2,bF),(12,bo (ax 30 (Int.ofNat (c::d::u).length)))] ?_;refine cD 30 (c::d::u).length (fun q7 p7=>?_ ) (fun q7 p7=>?_ )<;>simp only[zz]at p7;refine CG.aM (show(ax 30 (Int.ofNat (c::d::u).length))=true from kX) k_ ?_;refine s1 hW 3 0 [] 3 [] ?_;refine CG.rt (bF) ?_;rotate_left;refine CG.aN (show(ax 30 (Int.ofNat (c::d::u).length))=false from kO) k_ ?_;refine cP hW 6 0 [] 3 [(15,bo (aQ (Int.ofNat (UInt8.toNat c)) 95))] (show(aQ (Int.ofNat (UInt8.toNat c)) 95)=true from wG) ?_;refine s1 hW 2 9 [] 3 [(24,bo (ax 10 (Int.ofNat (c::d::u).length)))] ?_;refine cD 10 (c::d::u).length (fun q9 p9=>?_ ) (fun q9 p9=>?_ )<;>simp only[zz]at p9;have tX:(ax 10 (Int.ofNat (c::d::u).length))=true:=kX;rw[tX];refine s1 hW 6 0 [true] 3 [] ?_;refine CG.rt (bF) ?_;rotate_left;have nG:(ax 10 (Int.ofNat (c::d::u).length))=false:=kO;rw[nG];refine s1 hW 2 0 [] 3 [(28,bo (aQ (Int.ofNat (UInt8.toNat d)) 48))] ?_;refine pq (UInt8.toNat d) 48 (fun pV Lk=>?_ ) (fun pV Lk=>?_ );refine CG.aM (show(aQ (Int.ofNat (UInt8.toNat d)) 48)=true from wG) k_ ?_;refine s1 hW 3 0 [] 3 [] ?_;refine CG.rt (bF) ?_;rotate_left;refine CG.aN (show(aQ (Int.ofNat (UInt8.toNat d)) 48)=false from qi) k_ ?_;refine s1 hW 7 0 [] 3 [(3,io 1)] ?_;rotate_left
      ·rw[Ba (by simp only[aaR];omega)]
      ·rw[Ba (by simp only[aaR];omega)]
      ·rw[A',show Nat.beq d.toNat 48=true by rw[show d.toNat=48 by omega];rfl,abF,abY,abX]
      ·have Y6:Nat.beq d.toNat 48=false:=cB (by omega);rw[A',Y6,aa0 (by omega),ab7,abf,abd];refine CG.bp (d::u) (fun i u2=>[(0,so (c::d::u)),(2,bF),(3,.d (.int .i64 (.ofNat (i+1))))]) (fun i u2=>[]) (fun i u2 r=>((d::u).all bZ=r.all bZ)) () ?_ (an.refl _ _) ?_ ?_
       ·rfl
       ·intro i u2 hi hd aI;simp only[aaR]at hi;refine dk hW 4 0 [] 7 [(32,bo (ax (Int.ofNat (i+1)) (Int.ofNat (c::d::u).length)))] (jx (i+1) (c::d::u).length) ?_;refine CG.aS (by decide) ?_;refine s1 hW 5 0 [] 1 [(2,bT)] ?_;refine CG.rt (bT) ?_;rotate_left;rw[aI];rfl
       ·intro i u2 x r hd hx b8 aI;have je:(c::d::u)[i+1]? =some x:=by simpa using hx
        rw[show(x::r).all bZ=(bZ x&&r.all bZ)from aaX ..]at aI;simp only[aaR]at b8;refine cP hW 4 0 [] 7 [(32,bo (ax (Int.ofNat (i+1)) (Int.ofNat (c::d::u).length)))] (gi (i+1) (c::d::u).length) ?_;refine s1 hW 5 2 [] 7 [(35,so (c::d::u)),(36,no (i+1))] ?_;refine CG.Mq je rfl k_ ?_;refine CG.pg (rr hW x) rfl k_ ?_;refine s1 hW 2 0 [] 7 [(39,bo (!bZ x))] ?_;refine sp (bZ x) (fun rJ=>?_ ) (fun rJ=>?_ );refine CG.aN (b:=(!bZ x)) (by rw[rJ];rfl) k_ ?_;refine cG hW 3 3 [] [(0,so (c::d::u)),(2,bF),(3,io (aq IntKind.i64 (aJ (Int.ofNat (i+1)) 1)))] ([]) ?_;rw[aP (by omega)];rotate_left;refine CG.aM (b:=(!bZ x)) (by rw[rJ];rfl) k_ ?_;refine s1 hW 3 0 [] 7 [] ?_;refine CG.fX (bF) ?_;rotate_left
        ·exact⟨(),by rw[aI,show bZ x=true by assumption];rfl,an.refl _ _⟩
        ·rw[aI,show bZ x=false by assumption];rfl
   ·rw[A_ hc];refine s1 hW 7 0 [] 1 [(2,bF),(12,bo (ax 30 (Int.ofNat (c::t).length)))] ?_;refine cD 30 (c::t).length (fun q6 p6=>?_ ) (fun q6 p6=>?_ )<;>simp only[zz]at p6;refine CG.aM (show(ax 30 (Int.ofNat (c::t).length))=true from kX) k_ ?_;refine s1 hW 3 0 [] 3 [] ?_;refine CG.rt (bF) ?_;rotate_left;refine CG.aN (show(ax 30 (Int.ofNat (c::t).length))=false from kO) k_ ?_;refine dk hW 6 0 [] 3 [(15,bo (aQ (Int.ofNat (UInt8.toNat c)) 95))] (show(aQ (Int.ofNat (UInt8.toNat c)) 95)=false from qi) ?_;refine s1 hW 7 0 [] 3 [(4,i0)] ?_;rotate_left
    ·rw[aaS (by omega)];rfl
    ·rw[aa0 (by omega),abd];refine CG.bp (c::t) (fun i u=>[(0,so (c::t)),(2,bF),(4,.d (.int .i64 (.ofNat i)))]) (fun i u=>[]) (fun i u r=>(sF 0 (c::t)=sF i r)) () ?_ (an.refl _ _) ?_ ?_
     ·rfl
     ·intro i u hi hd aI;refine dk hW 4 0 [] 7 [(43,bo (ax (Int.ofNat i) (Int.ofNat (c::t).length)))] (jx i (c::t).length) ?_;refine CG.aS (by decide) ?_;refine s1 hW 5 0 [] 0 [(2,bT)] ?_;refine CG.rt (bT) ?_;rotate_left;rw[aI];rfl
     ·intro i u x r hd hx b8 aI;rw[show sF i (x::r)=((ma x||(!Nat.beq i 0&&bZ x))&&sF (i+1) r)from rfl]at aI;simp only[aaR]at b8;refine cP hW 4 0 [] 7 [(43,bo (ax (Int.ofNat i) (Int.ofNat (c::t).length)))] (gi i (c::t).length) ?_;refine s1 hW 5 2 [] 7 [(46,so (c::t)),(47,no i)] ?_;refine CG.Mq hx rfl k_ ?_;refine CG.pg (wY hW x) rfl k_ ?_;refine s1 hW 0 2 [] 7 [(51,bo (!ma x))] ?_;refine sp (ma x) (fun iZ=>?_ ) (fun iZ=>?_ );rw[iZ];refine cG hW 6 3 [false] [(0,so (c::t)),(2,bF),(4,io (aq IntKind.i64 (aJ (Int.ofNat i) 1)))] ([]) ?_;rw[aP (by omega)];rotate_left;rw[iZ];refine s1 hW 0 3 [] 15 [(54,bo (aQ (Int.ofNat i) 0))] ?_;refine pq i 0 (fun jL Et=>?_ ) (fun jL Et=>?_ );have nH:(aQ (Int.ofNat i) 0)=true:=wG;rw[nH];refine s1 hW 6 0 [true] 7 [] ?_;refine CG.fX (bF) ?_;rotate_left;have jM:(aQ (Int.ofNat i) 0)=false:=qi;rw[jM];refine s1 hW 0 2 [] 31 [(55,so (c::t)),(56,no i)] ?_;refine CG.Mq hx rfl k_ ?_;refine CG.pg (rr hW x) rfl k_ ?_;refine s1 hW 2 0 [] 7 [(61,bo (!bZ x))] ?_;refine sp (bZ x) (fun pW=>?_ ) (fun pW=>?_ );refine CG.aN (b:=(!bZ x)) (by rw[pW];rfl) k_ ?_;refine cG hW 3 3 [] [(0,so (c::t)),(2,bF),(4,io (aq IntKind.i64 (aJ (Int.ofNat i) 1)))] ([]) ?_;rw[aP (by omega)];rotate_left;refine CG.aM (b:=(!bZ x)) (by rw[pW];rfl) k_ ?_;refine s1 hW 3 0 [] 7 [] ?_;refine CG.fX (bF) ?_;rotate_left
      ·exact⟨(),by rw[aI,show ma x=true by assumption];rfl,an.refl _ _⟩
      ·rw[aI,show ma x=false by assumption,show Nat.beq i 0=true by rw[show i=0 by omega];rfl];rfl
      ·exact⟨(),by rw[aI,show ma x=false by assumption,show Nat.beq i 0=false from cB (by omega),show bZ x=true by assumption];rfl,an.refl _ _⟩
      ·rw[aI,show ma x=false by assumption,show bZ x=false by assumption,abY];rfl
theorem vH(hW:W0 W)(s:List UInt8)(hs:s.length<=281474976710656):PC P (gl W) 115 [.d (.str s)] (.d (.bool (bP s))):=by
 refine CG.start RZ R0 rfl ?_;cases hp:Lib.hasPrefix s [95]with
  |true=>
   cases s with
    |nil=>cases hp
    |cons c t=>
     have hc:(c.toNat:Int)=95:=by
      have:(95:UInt8)=c:=by simpa[Lib.hasPrefix]using hp
      subst this;rfl
     rw[vG hc];have hA:=Ii hW t (by simp only[aaR]at hs;omega);have hd:List.drop 1 (List.take (c::t).length (c::t))=t:=by rw[abu];rfl
     refine s1 hW 7 0 [] 1 [(2,bF),(8,bo (Lib.hasPrefix (c::t) [95]))] ?_;refine CG.aM hp k_ ?_;refine s1 hW 1 1 [] 3 [(10,so (c::t))] ?_;refine CG.PG 1 (c::t).length (s:=(c::t)) rfl k_ k_ k_ k_ (by(try simp only[zz]at*)<;>omega) rfl ?_;rotate_left;rw[hd];unfold Ek at hA;rcases hv:Lib.atoiAll t with v|_|_
     ·have hr:=C8 hv;rw[Lj hv];rw[hv]at hA;dsimp only at hA;refine CG.pg (hA) rfl k_ ?_;refine s1 hW 3 0 [] 3 [(3,io v),(4,.gm)] ?_;refine CG.eF aV k_ k_ ?_;refine AO.rd 7 [(15,.gm),(16,bT),(17,bT),(18,io v),(19,bo (decide (0<v))),(20,bo (decide (0<v))),(21,bo (decide (0<v)))] k_ ?_;refine Q8 (0<v) (fun vI Y7=>?_ ) (fun vI Y7=>?_ );rw[vI];refine AO.rd 5 [(22,so (c::t)),(23,no (c::t).length),(24,bo (decide (Int.ofNat (c::t).length<=10))),(25,bo (decide (Int.ofNat (c::t).length<=10))),(26,bo (decide (Int.ofNat (c::t).length<=10)))] k_ ?_;refine Q8 (Int.ofNat (c::t).length<=10) (fun iZ Eu=>?_ ) (fun iZ Eu=>?_ )<;>simp only[zz]at Eu;rw[iZ];refine AO.rd 1 [(27,io v)] k_ ?_;refine AO.mN ((C5 hW v) (by first|assumption|exact(by(try simp only[zz]at*)<;>omega)) (by first|assumption|exact(by(try simp only[zz]at*)<;>omega))) rfl k_ k_ ?_;refine AO.rd 1 [(29,so (c::t))] k_ ?_;refine AO.PG 1 (c::t).length (s:=(c::t)) rfl k_ k_ k_ k_ (by(try simp only[zz]at*)<;>omega) ?_;refine AO.rd 3 [(2,bo (ai (Lib.itoa v) (List.drop 1 (List.take (c::t).length (c::t))))),(31,bo (ai (Lib.itoa v) (List.drop 1 (List.take (c::t).length (c::t))))),(32,bo (ai (Lib.itoa v) (List.drop 1 (List.take (c::t).length (c::t)))))] k_ ?_;refine AO.done [0,2] rfl rfl k_ ?_;refine s1 hW 1 0 [] 3 [] ?_;refine CG.rt (bo (ai (Lib.itoa v) (List.drop 1 (List.take (c::t).length (c::t))))) ?_;rotate_left;rw[iZ];refine AO.rd 7 [(27,tE),(28,tE),(29,tE),(30,tE),(31,tE),(32,bF)] k_ ?_;refine AO.done [0,2] rfl rfl k_ ?_;refine s1 hW 1 0 [] 3 [] ?_;refine CG.rt (bF) ?_;rotate_left;rw[vI];refine AO.rd 12 [(22,tE),(23,tE),(24,tE),(25,bF),(26,bF),(27,tE),(28,tE),(29,tE),(30,tE),(31,tE),(32,bF)] k_ ?_;refine AO.done [0,2] rfl rfl k_ ?_;exact du hW 1 0 [] 3 [] (bF);all_goals (simp only[aaR]at*)
      all_goals first
       |(rw[hd,aa0 (p:=t.length<=9) (by omega)];first|rfl|(rw[aa0 (p:=0<v) (by omega)];rfl))
       |(rw[aaS (p:=t.length<=9) (by omega),abY];rfl)
       |(rw[aaS (p:=0<v) (by omega)];rfl)
     ·rw[hv]at hA;dsimp only at hA;rw[Er (fun v h=>by rw[hv]at h;cases h)];refine CG.pg (hA) rfl k_ ?_;refine s2 hW 5 0 [] 3 [] (nn 19 ([])) ?_;refine CG.rt (bF) ?_;with_reducible rfl
     ·rw[hv]at hA;dsimp only at hA;rw[Er (fun v h=>by rw[hv]at h;cases h)];refine CG.pg (hA) rfl k_ ?_;refine s2 hW 5 0 [] 3 [] (nn 19 ([])) ?_;refine CG.rt (bF) ?_;with_reducible rfl
  |false=>
   rw[FU hp];refine s1 hW 7 0 [] 1 [(2,bF),(8,bo (Lib.hasPrefix s [95]))] ?_;refine CG.aN hp k_ ?_;refine s1 hW 7 0 [] 3 [(34,lo (fun b=>[D.int IntKind.u8 (Int.ofNat (UInt8.toNat b))]) s),(35,no (List.length (List.map (fun b=>[D.int IntKind.u8 (Int.ofNat (UInt8.toNat b))]) s))),(36,i0)] ?_;rotate_left;refine CG.bp s (fun i u=>[(0,so s),(2,bF),(34,lo (fun b=>[D.int IntKind.u8 (Int.ofNat (UInt8.toNat b))]) s),(35,no (List.length (List.map (fun b=>[D.int IntKind.u8 (Int.ofNat (UInt8.toNat b))]) s))),(36,.d (.int .i64 (.ofNat i)))]) (fun i u=>[]) (fun i u r=>(sF 0 s=sF i r)) () ?_ (an.refl _ _) ?_ ?_
   ·rfl
   ·intro i u hi hd aI;rw[aI];refine dk hW 4 0 [] 23 [(37,bo (ax (Int.ofNat i) (Int.ofNat (List.length (List.map (fun b=>[D.int IntKind.u8 (Int.ofNat (UInt8.toNat b))]) s)))))] (jx i (List.length (List.map (fun b=>[D.int IntKind.u8 (Int.ofNat (UInt8.toNat b))]) s))) ?_;refine CG.aS (by decide) ?_;refine s1 hW 3 3 [] 3 [(62,bo (!ai s []))] ?_;refine sp (ai s []) (fun nG=>?_ ) (fun nG=>?_ );rw[nG];exact du hW 2 0 [] 2 [] (bF);rw[nG];refine s1 hW 2 0 [] 0 [(2,bo (!ax 30 (Int.ofNat s.length)))] ?_;refine CG.rt (bo (!ax 30 (Int.ofNat s.length))) ?_;rotate_left;simp[sF]
   ·intro i u x r hd hx b8 aI;rw[show sF i (x::r)=((ma x||(!Nat.beq i 0&&bZ x))&&sF (i+1) r)from rfl]at aI;refine cP hW 4 0 [] 31 [(37,bo (ax (Int.ofNat i) (Int.ofNat (List.length (List.map (fun b=>[D.int IntKind.u8 (Int.ofNat (UInt8.toNat b))]) s)))))] (gi i (List.length (List.map (fun b=>[D.int IntKind.u8 (Int.ofNat (UInt8.toNat b))]) s))) ?_;refine s1 hW 5 1 [] 31 [(38,no i)] ?_;refine CG.ix (al (aa:=(fun b=>[D.int IntKind.u8 (Int.ofNat (UInt8.toNat b))])) hx) rfl k_ ?_;refine s1 hW 3 3 [] 31 [(5,no i),(6,.d (.int .u8 (.ofNat (UInt8.toNat x)))),(43,bo (ax (Int.ofNat (UInt8.toNat x)) 97))] ?_;refine cD (UInt8.toNat x) 97 (fun fV tI=>?_ ) (fun fV tI=>?_ );have iZ:(ax (Int.ofNat (UInt8.toNat x)) 97)=true:=kX;rw[iZ];refine s1 hW 0 7 [] 123 [(47,bT),(50,bo (aQ (Int.ofNat i) 0))] ?_;refine pq i 0 (fun jL Et=>?_ ) (fun jL Et=>?_ );have nH:(aQ (Int.ofNat i) 0)=true:=wG;rw[nH];refine s1 hW 6 0 [true] 59 [] ?_;refine CG.fX (bF) ?_;rotate_left;have jM:(aQ (Int.ofNat i) 0)=false:=qi;rw[jM];refine s1 hW 0 4 [] 127 [(54,bo (ax (Int.ofNat (UInt8.toNat x)) 48))] ?_;refine cD (UInt8.toNat x) 48 (fun wZ Ll=>?_ ) (fun wZ Ll=>?_ );have tJ:(ax (Int.ofNat (UInt8.toNat x)) 48)=true:=kX;rw[tJ];refine s1 hW 6 0 [true] 59 [] ?_;refine CG.fX (bF) ?_;rotate_left;have rJ:(ax (Int.ofNat (UInt8.toNat x)) 48)=false:=kO;rw[rJ];refine s1 hW 2 0 [] 59 [(58,bo (ax 57 (Int.ofNat (UInt8.toNat x))))] ?_;refine cD 57 (UInt8.toNat x) (fun C9 p25=>?_ ) (fun C9 p25=>?_ );refine CG.aM (show(ax 57 (Int.ofNat (UInt8.toNat x)))=true from kX) k_ ?_;refine s1 hW 3 0 [] 31 [] ?_;refine CG.fX (bF) ?_;rotate_left;refine CG.aN (show(ax 57 (Int.ofNat (UInt8.toNat x)))=false from kO) k_ ?_;refine cG hW 3 2 [] [(0,so s),(2,bF),(34,lo (fun b=>[D.int IntKind.u8 (Int.ofNat (UInt8.toNat b))]) s),(35,no (List.length (List.map (fun b=>[D.int IntKind.u8 (Int.ofNat (UInt8.toNat b))]) s))),(36,io (aq IntKind.i64 (aJ (Int.ofNat i) 1)))] ([]) ?_;rw[aP (by omega)];rotate_left;have w5:(ax (Int.ofNat (UInt8.toNat x)) 97)=false:=kO;rw[w5];refine s1 hW 0 4 [] 127 [(47,bo (ax 122 (Int.ofNat (UInt8.toNat x))))] ?_;refine cD 122 (UInt8.toNat x) (fun me Y8=>?_ ) (fun me Y8=>?_ );have pX:(ax 122 (Int.ofNat (UInt8.toNat x)))=true:=kX;rw[pX];refine s1 hW 0 3 [] 251 [(50,bo (aQ (Int.ofNat i) 0))] ?_;refine pq i 0 (fun oQ PS=>?_ ) (fun oQ PS=>?_ );have ql:(aQ (Int.ofNat i) 0)=true:=wG;rw[ql];refine s1 hW 6 0 [true] 59 [] ?_;refine CG.fX (bF) ?_;rotate_left;have wJ:(aQ (Int.ofNat i) 0)=false:=qi;rw[wJ];refine s1 hW 0 4 [] 127 [(54,bo (ax (Int.ofNat (UInt8.toNat x)) 48))] ?_;have Ci:(ax (Int.ofNat (UInt8.toNat x)) 48)=false:=kO;rw[Ci];refine cP hW 2 0 [] 59 [(58,bo (ax 57 (Int.ofNat (UInt8.toNat x))))] (show(ax 57 (Int.ofNat (UInt8.toNat x)))=true from kX) ?_;refine s1 hW 3 0 [] 31 [] ?_;refine CG.fX (bF) ?_;rotate_left;have Lm:(ax 122 (Int.ofNat (UInt8.toNat x)))=false:=kO;rw[Lm];refine cG hW 6 2 [false] [(0,so s),(2,bF),(34,lo (fun b=>[D.int IntKind.u8 (Int.ofNat (UInt8.toNat b))]) s),(35,no (List.length (List.map (fun b=>[D.int IntKind.u8 (Int.ofNat (UInt8.toNat b))]) s))),(36,io (aq IntKind.i64 (aJ (Int.ofNat i) 1)))] ([]) ?_;rw[aP (by omega)];rotate_left;all_goals first
     |exact⟨(),by rw[aI,show ma x=true from by simp only[ma,aaL];omega];rfl,an.refl _ _⟩
     |exact⟨(),by rw[aI,show ma x=false from by simp only[ma,aa6];omega,show Nat.beq i 0=false from cB (by omega),show bZ x=true from by simp only[bZ,aaL];omega];rfl,an.refl _ _⟩
     |(rw[aI,show ma x=false from by simp only[ma,aa6];omega,show Nat.beq i 0=true from by rw[show i=0 by omega];rfl];simp;done)
     |(rw[aI,show ma x=false from by simp only[ma,aa6];omega,show bZ x=false from by simp only[bZ,aa6];omega];simp;done)
theorem Ln(hW:W0 W)(s:List UInt8)(hs:s.length<1099511627776):PC P (gl W) 115 [.d (.str s)] (.d (.bool (bP s))):=vH hW s (by omega)
end Fw.Tz.Na
/-
  Names of element types, of the program and of the reference; digits cut off.
-/
namespace Fw.Tz.El
open Go Go.Proofs Fw.X Fw.Tz Fw.Nu Fw.Tz.Sd Fw.Tz.Na
variable {W:World}
theorem C'(x:List UInt8):x=[]\/∃t c,x=t++[c]:=by
 rcases List.eq_nil_or_concat x with h|⟨t,c,h⟩
 ·exact .inl h
 ·exact .inr ⟨t,c,by rw[h,List.concat_eq_append]⟩
theorem dF(hW:W0 W)(s:List UInt8)(hs:s.length<1099511627776):PC P (gl W) 138 [.d (.str s)] (.d (.bool (cH s))):=by
 refine CG.start SN SO rfl ?_;cases s with
  |nil=>exact du hW 22 0 [false] 0 [(2,bF)] (bF)
  |cons c t=>
   simp only[aaR]at hs;refine s1 hW 8 0 [] 1 [(2,bF),(3,io 1)] ?_;rotate_left;refine CG.bp t (fun i u=>[(0,so (c::t)),(2,bF),(3,.d (.int .i64 (.ofNat (i+1))))]) (fun i u=>[]) (fun i u r=>(t.all bZ=r.all bZ)) () ?_ (an.refl _ _) ?_ ?_
   ·rfl
   ·intro i u hi hd aI;refine dk hW 4 0 [] 7 [(7,bo (ax (Int.ofNat (i+1)) (Int.ofNat (c::t).length)))] (jx (i+1) (c::t).length) ?_;refine CG.aS (by decide) ?_;refine s1 hW 3 9 [] 3 [(28,bo (!ax 30 (Int.ofNat (c::t).length)))] ?_;refine cD 30 (c::t).length (fun pV Lk=>?_ ) (fun pV Lk=>?_ )<;>simp only[zz]at Lk;have oU:(ax 30 (Int.ofNat (c::t).length))=true:=kX;rw[oU];refine s1 hW 2 0 [] 2 [] ?_;refine CG.rt (bF) ?_;rotate_left;have vI:(ax 30 (Int.ofNat (c::t).length))=false:=kO;rw[vI];refine s1 hW 0 5 [] 3 [(33,bo (!ax (Int.ofNat (UInt8.toNat c)) 65))] ?_;refine cD (UInt8.toNat c) 65 (fun iZ Eu=>?_ ) (fun iZ Eu=>?_ );have i_:(ax (Int.ofNat (UInt8.toNat c)) 65)=true:=kX;rw[i_];refine s1 hW 2 0 [] 2 [] ?_;refine CG.rt (bF) ?_;rotate_left;have jL:(ax (Int.ofNat (UInt8.toNat c)) 65)=false:=kO;rw[jL];refine s1 hW 2 0 [] 0 [(2,bo (!ax 90 (Int.ofNat (UInt8.toNat c))))] ?_;refine CG.rt (bo (!ax 90 (Int.ofNat (UInt8.toNat c)))) ?_;rotate_left;all_goals
     simp only[V.d.injEq,D.bool.injEq,cH,aI,acY,acn];simp only[aaR]at*;first
      |(rw[aaS (by omega),abX];done)
      |(rw[show decide (65<=c.toNat/\c.toNat<=90)=false from aaS (by omega),abY];done)
      |(rw[fF,abh];simp;omega)
   ·intro i u x r hd hx b8 aI;have je:(c::t)[i+1]? =some x:=by simpa using hx
    rw[aaX]at aI;refine cP hW 4 0 [] 7 [(7,bo (ax (Int.ofNat (i+1)) (Int.ofNat (c::t).length)))] (gi (i+1) (c::t).length) ?_;refine s1 hW 5 2 [] 7 [(10,so (c::t)),(11,no (i+1))] ?_;refine CG.Mq je rfl k_ ?_;refine s1 hW 0 2 [] 7 [(14,bo (ax (Int.ofNat (UInt8.toNat x)) 48))] ?_;refine cD (UInt8.toNat x) 48 (fun iZ Eu=>?_ ) (fun iZ Eu=>?_ );have i_:(ax (Int.ofNat (UInt8.toNat x)) 48)=true:=kX;rw[i_];refine s1 hW 6 0 [true] 7 [] ?_;refine CG.fX (bF) ?_;rotate_left;have jL:(ax (Int.ofNat (UInt8.toNat x)) 48)=false:=kO;rw[jL];refine s1 hW 0 2 [] 15 [(15,so (c::t)),(16,no (i+1))] ?_;refine CG.Mq je rfl k_ ?_;refine s1 hW 2 0 [] 7 [(19,bo (ax 57 (Int.ofNat (UInt8.toNat x))))] ?_;refine cD 57 (UInt8.toNat x) (fun nH Oh=>?_ ) (fun nH Oh=>?_ );refine CG.aM (show(ax 57 (Int.ofNat (UInt8.toNat x)))=true from kX) k_ ?_;refine s1 hW 3 0 [] 7 [] ?_;refine CG.fX (bF) ?_;rotate_left;refine CG.aN (show(ax 57 (Int.ofNat (UInt8.toNat x)))=false from kO) k_ ?_;refine cG hW 3 3 [] [(0,so (c::t)),(2,bF),(3,io (aq IntKind.i64 (aJ (Int.ofNat (i+1)) 1)))] ([]) ?_;rw[aP (by omega)];rotate_left;all_goals first
     |(rw[cH,aI,show bZ x=false from by simp only[bZ,aa6];omega];simp;done)
     |(rw[aP (by omega) (by omega)];exact⟨(),by rw[aI,show bZ x=true from by simp only[bZ,aaL];omega];rfl,an.refl _ _⟩)
     |exact⟨(),by rw[aI,show bZ x=true from by simp only[bZ,aaL];omega];rfl,an.refl _ _⟩
def Lo(n:Nat):Bool:=Nat.ble 48 n&&Nat.ble n 57
def vJ:fJ:=.cells ((List.range 256).map fun n=>.d (.bool (Lo n)))
def hD:ao:=[some vJ]
theorem Y9(W:World):((List.range 256).map fun n=>mR W wI .e 40 282 [.ptr 0 256 0,.d (.int .u8 (.ofNat n))] hD)=((List.range 256).map fun n=>some (.d (.bool (Lo n)),hD)):=k_
theorem Lq(b:UInt8):Lo b.toNat=bZ b:=by unfold Lo bZ;rw[abh];simp[adj]
theorem IA(hW:W0 W)(b:UInt8):WF P (gl W) 282 [.ptr 0 256 0,.d (.int .u8 b.toNat)] hD (sn (.d (.bool (bZ b))) hD):=by have h:=aba (fun l=>l[b.toNat]? ) (Y9 W);have hb:b.toNat<256:=UInt8.toNat_lt b;simp only[abz,List.getElem?_range hb,aaU,aaC]at h;rw[Lq]at h;exact cO hW qk 40 _ _ _ _ _ h
theorem IB(hW:W0 W)(s:List UInt8)(hs:s.length<1099511627776):WF P (gl W) 241 [.d (.str s),.ptr 0 256 0] hD (sn (.d (.str (mE s))) hD):=by
 refine CG.jw TQ TR rfl ?_;refine s1 hW 5 0 [] 3 [(4,sE)] ?_;rotate_left;refine CG.po (α:=List UInt8) (fun x=>[(0,.d (.str x)),(1,.ptr 0 256 0),(4,.d (.str []))]) (fun _=>[some vJ]) (fun x=>mE s=mE x/\x.length<1099511627776) List.length s ⟨rfl,hs⟩ (an.refl _ _) ?_;rintro x ⟨hx,Pq⟩;cases x with
  |nil=>refine s1 hW 5 0 [false] 7 [] ?_;refine CG.aS (by decide) ?_;refine s1 hW 5 0 [] 4 [] ?_;refine CG.ls (sE) ?_;rotate_left;exact⟨by rw[hx];rfl,rfl⟩
  |cons c t=>
   refine s1 hW 10 3 [true] 7 [(8,.ptr 0 256 0),(10,.d (.int .u8 (.ofNat (UInt8.toNat c))))] ?_;refine CG.wf (IA hW c) rfl rfl k_ rfl ?_;refine s1 hW 2 0 [] 7 [(12,bo (!bZ c))] ?_;refine sp (bZ c) (fun q9=>?_ ) (fun q9=>?_ );refine CG.aN (b:=(!bZ c)) (by rw[q9];rfl) k_ ?_;refine s1 hW 2 1 [] 7 [(13,so (c::t))] ?_;refine CG.KM ?_;refine CG.PG 1 (c::t).length (s:=(c::t)) rfl k_ k_ k_ k_ (by(try simp only[zz]at*)<;>omega) rfl ?_;refine cG hW 0 1 [] [(0,so (List.drop 1 (List.take (c::t).length (c::t)))),(1,.ptr 0 256 0),(4,sE)] ([some vJ]) ?_;rotate_left;refine CG.aM (b:=(!bZ c)) (by rw[q9];rfl) k_ ?_;refine CG.aS (by decide) ?_;refine s1 hW 5 0 [] 0 [(4,so (c::t))] ?_;refine CG.ls (so (c::t)) ?_;rotate_left
   ·rw[show List.drop 1 (List.take (c::t).length (c::t))=t from by rw[abu];rfl];exact⟨t,⟨by rw[hx,mE,ab2,show bZ c=true by assumption];rfl,by simp only[aaR]at Pq;omega⟩,by simp,an.refl _ _⟩
   ·exact⟨by rw[hx,mE,ab2,show bZ c=false by assumption];rfl,rfl⟩
theorem IC(hW:W0 W)(s:List UInt8)(hs:s.length<1099511627776):WF P (gl W) 242 [.d (.str s),.ptr 0 256 0] hD (sn (.d (.str (h_ s))) hD):=by
 refine CG.jw TS TT rfl ?_;refine s1 hW 5 0 [] 3 [(4,sE)] ?_;rotate_left;refine CG.po (α:=List UInt8) (fun x=>[(0,.d (.str x)),(1,.ptr 0 256 0),(4,.d (.str []))]) (fun _=>[some vJ]) (fun x=>h_ s=h_ x/\x.length<1099511627776) List.length s ⟨rfl,hs⟩ (an.refl _ _) ?_;rintro x ⟨hx,Pq⟩;rcases C' x with rfl|⟨t,c,rfl⟩
 ·refine s1 hW 5 0 [false] 7 [] ?_;refine CG.aS (by decide) ?_;refine s1 hW 5 0 [] 4 [] ?_;refine CG.ls (sE) ?_;rotate_left;exact⟨by rw[hx];rfl,rfl⟩
 ·have hl:(t++[c]).length=t.length+1:=by simp
  have hc:(t++[c])[t.length]? =some c:=by simp
  refine cP hW 4 0 [] 7 [(7,bo (ax 0 (Int.ofNat (t++[c]).length)))] (show(ax 0 (Int.ofNat (t++[c]).length))=true from kX) ?_;refine s1 hW 5 5 [] 7 [(8,.ptr 0 256 0),(9,so (t++[c])),(12,io (aq IntKind.i64 (Int.ofNat (t++[c]).length - 1)))] ?_;rotate_left;rw[hl,AL (by omega)];refine CG.Mq hc rfl k_ ?_;refine CG.wf (IA hW c) rfl rfl k_ rfl ?_;refine s1 hW 2 0 [] 7 [(15,bo (!bZ c))] ?_;refine sp (bZ c) (fun nG=>?_ ) (fun nG=>?_ );refine CG.aN (b:=(!bZ c)) (by rw[nG];rfl) k_ ?_;refine s1 hW 2 4 [] 7 [(16,so (t++[c])),(19,io (aq IntKind.i64 (Int.ofNat (t++[c]).length - 1)))] ?_;refine CG.KM ?_;rotate_left;refine CG.aM (b:=(!bZ c)) (by rw[nG];rfl) k_ ?_;refine CG.aS (by decide) ?_;refine s1 hW 5 0 [] 0 [(4,so (t++[c]))] ?_;refine CG.ls (so (t++[c])) ?_;rotate_left
  ·rw[hl,AL (by omega)];refine CG.PG 0 t.length (s:=(t++[c])) rfl k_ k_ k_ k_ (by(try simp only[zz]at*)<;>omega) rfl ?_;refine cG hW 0 1 [] [(0,so (List.drop 0 (List.take t.length (t++[c])))),(1,.ptr 0 256 0),(4,sE)] ([some vJ]) ?_;rotate_left;rw[show List.drop 0 (List.take t.length (t++[c]))=t by simp];exact⟨t,⟨by rw[hx,vF,show bZ c=true by assumption];rfl,by omega⟩,by omega,an.refl _ _⟩
  ·exact⟨by rw[hx,vF,show bZ c=false by assumption];rfl,rfl⟩
theorem xQ{p:UInt8->Bool}:∀(l:List UInt8),(l.dropWhile p).length<=l.length
 |[]=>aaP _
 |a::l=>by
  rw[ab2];split
  ·exact abl (xQ l) (Nat.le_succ _)
  ·exact aaP _
theorem FV(s:List UInt8):(h_ s).length<=s.length:=by unfold h_;rw[ach];exact abl (xQ _) (by rw[ach];exact aaP _)
theorem Bb(l:List UInt8):Fw.ai l []=decide (l=[]):=by cases l<;>rfl
theorem Lr(hW:W0 W)(s:List UInt8)(hs:s.length<1099511627776):PC P (gl W) 171 [.d (.str s),.d (.str [48,49,50,51,52,53,54,55,56,57])] (.d (.str (mE (h_ s)))):=by
 have hl:=FV s;have hr:(h_ s).length<1099511627776:=by omega
 refine CG.start SY SZ rfl ?_;cases s with
  |nil=>exact du hW 11 0 [true] 3 [(4,sE)] (sE)
  |cons c t=>refine s4 hW 26 1 [false,false,true] 3 [(4,sE),(5,.ptr 0 256 0),(35,so (c::t))] [(0,.cells [bF,bF,bF,bF,bF,bF,bF,bF,bF,bF,bF,bF,bF,bF,bF,bF,bF,bF,bF,bF,bF,bF,bF,bF,bF,bF,bF,bF,bF,bF,bF,bF,bF,bF,bF,bF,bF,bF,bF,bF,bF,bF,bF,bF,bF,bF,bF,bF,bT,bT,bT,bT,bT,bT,bT,bT,bT,bT,bF,bF,bF,bF,bF,bF,bF,bF,bF,bF,bF,bF,bF,bF,bF,bF,bF,bF,bF,bF,bF,bF,bF,bF,bF,bF,bF,bF,bF,bF,bF,bF,bF,bF,bF,bF,bF,bF,bF,bF,bF,bF,bF,bF,bF,bF,bF,bF,bF,bF,bF,bF,bF,bF,bF,bF,bF,bF,bF,bF,bF,bF,bF,bF,bF,bF,bF,bF,bF,bF,bF,bF,bF,bF,bF,bF,bF,bF,bF,bF,bF,bF,bF,bF,bF,bF,bF,bF,bF,bF,bF,bF,bF,bF,bF,bF,bF,bF,bF,bF,bF,bF,bF,bF,bF,bF,bF,bF,bF,bF,bF,bF,bF,bF,bF,bF,bF,bF,bF,bF,bF,bF,bF,bF,bF,bF,bF,bF,bF,bF,bF,bF,bF,bF,bF,bF,bF,bF,bF,bF,bF,bF,bF,bF,bF,bF,bF,bF,bF,bF,bF,bF,bF,bF,bF,bF,bF,bF,bF,bF,bF,bF,bF,bF,bF,bF,bF,bF,bF,bF,bF,bF,bF,bF,bF,bF,bF,bF,bF,bF,bF,bF,bF,bF,bF,bF,bF,bF,bF,bF,bF,bF,bF,bF,bF,bF,bF,bF])] ?_;refine CG.wf (IC hW (c::t) hs) rfl rfl k_ rfl ?_;refine CG.wf (IB hW (h_ (c::t)) hr) rfl rfl k_ rfl ?_;exact du hW 2 0 [] 3 [(4,so (mE (h_ (c::t))))] (so (mE (h_ (c::t))))
theorem C_(hW:W0 W)(s:List UInt8)(hs:s.length<1099511627776):PC P (gl W) 111 [.d (.str s)] (.d (.bool (cH s))):=by
 refine CG.start RR RT rfl ?_;cases s with
  |nil=>exact du hW 11 0 [true] 1 [(2,bF)] (bF)
  |cons c t=>
   have ht:t.length<1099511627776:=by simp only[aaR]at hs;omega
   refine s1 hW 5 9 [] 1 [(2,bF),(11,bo (ax 30 (Int.ofNat (c::t).length)))] ?_;refine cD 30 (c::t).length (fun q8 p8=>?_ ) (fun q8 p8=>?_ )<;>simp only[zz]at p8;have q9:(ax 30 (Int.ofNat (c::t).length))=true:=kX;rw[q9];refine s1 hW 6 0 [true] 3 [] ?_;refine CG.rt (bF) ?_;rotate_left;have tX:(ax 30 (Int.ofNat (c::t).length))=false:=kO;rw[tX];refine s1 hW 0 5 [] 3 [(16,bo (ax (Int.ofNat (UInt8.toNat c)) 65))] ?_;refine cD (UInt8.toNat c) 65 (fun pV Lk=>?_ ) (fun pV Lk=>?_ );have oU:(ax (Int.ofNat (UInt8.toNat c)) 65)=true:=kX;rw[oU];refine s1 hW 6 0 [true] 3 [] ?_;refine CG.rt (bF) ?_;rotate_left;have vI:(ax (Int.ofNat (UInt8.toNat c)) 65)=false:=kO;rw[vI];refine s1 hW 2 0 [] 3 [(20,bo (ax 90 (Int.ofNat (UInt8.toNat c))))] ?_;refine cD 90 (UInt8.toNat c) (fun fV tI=>?_ ) (fun fV tI=>?_ );refine CG.aM (show(ax 90 (Int.ofNat (UInt8.toNat c)))=true from kX) k_ ?_;refine s1 hW 3 0 [] 3 [] ?_;refine CG.rt (bF) ?_;rotate_left;refine CG.aN (show(ax 90 (Int.ofNat (UInt8.toNat c)))=false from kO) k_ ?_;refine s1 hW 3 1 [] 2 [(21,so (c::t))] ?_;refine CG.PG 1 (c::t).length (s:=(c::t)) rfl k_ k_ k_ k_ (by(try simp only[zz]at*)<;>omega) rfl ?_;rotate_left
   ·rw[cH,aaS (by simp only[aaR]at*;omega)];rfl
   ·rw[cH,show decide (65<=c.toNat/\c.toNat<=90)=false from aaS (by omega),abY];rfl
   ·rw[cH,show decide (65<=c.toNat/\c.toNat<=90)=false from aaS (by omega),abY];rfl
   ·rw[show List.drop 1 (List.take (c::t).length (c::t))=t from by rw[abu];rfl];refine CG.pg (Lr hW _ ht) rfl k_ ?_;refine s1 hW 2 0 [] 0 [(2,bo (ai (mE (h_ t)) []))] ?_;refine CG.rt (bo (ai (mE (h_ t)) [])) ?_;rotate_left;rw[cH,aa0 (by simp only[aaR]at*;omega),aa0 (by omega),Bb,abd,abd,V.d.injEq,D.bool.injEq,abh,aaL];exact Iy t
end Fw.Tz.El
/-
  Expressions, shapes and types that are valid; what the program and the reference say of any.
-/
namespace Fw.Tz.Va
open Go Go.Proofs Fw.X Fw.Tz Fw.Nu Fw.Tz.Sd Fw.Tz.Na
variable {W:World}
structure Cf where
 var:List UInt8
 c:Int
def Cf.aa(x:Cf):List D:=[.str x.var,.int .i64 x.c]
structure ae where
 c:Int
 ts:List Cf
def ae.aa(x:ae):List D:=[.int .i64 x.c,.list (x.ts.map Cf.aa)]
structure Ty where
 elem:List UInt8
 row:List UInt8
 ab:List ae
def Ty.aa(x:Ty):List D:=[.str x.elem,.str x.row,.list (x.ab.map ae.aa)]
@[simp,reducible] def ae.ce(x:ae):List V:=[Fw.io x.c,Fw.lo Cf.aa x.ts]
@[simp,reducible] def Ty.ce(x:Ty):List V:=[Fw.so x.elem,Fw.so x.row,Fw.lo ae.aa x.ab]
def mF:Option (List UInt8)->List UInt8->Bool|none,_=>true|some q,v=>Fw.bytesLess q v
def cR:Option (List UInt8)->List Cf->Bool|_,[]=>true|p,t::r=>bP t.var&& !(t.c==0)&&bL t.c&&mF p t.var&&cR (some t.var) r
def bw(c:Int)(ts:List Cf):Bool:=bL c&&decide (ts.length<=12)&&cR none ts
def ae.ok(x:ae):Bool:=bw x.c x.ts
theorem cb(hW:W0 W)(c:Int)(ts:List Cf)(hl:ts.length<1099511627776):PC P (gl W) 97 [.agg [.d (.int .i64 c),.d (.list (ts.map Cf.aa))]] (.d (.bool (bw c ts))):=by
 refine CG.start Y3 Y4 rfl ?_;refine s4 hW 5 2 [] 0 [(1,.ptr 0 2 0),(2,bF),(6,io c)] [(0,.cells [io c,lo Cf.aa ts])] ?_;refine CG.pg (mc hW c) rfl k_ ?_;refine s1 hW 0 2 [] 3 [(9,bo (!bL c))] ?_;refine sp (bL c) (fun q6=>?_ ) (fun q6=>?_ );rw[q6];refine s1 hW 2 0 [] 3 [(14,bo (ax 12 (Int.ofNat (ts.map Cf.aa).length)))] ?_;refine cD 12 (ts.map Cf.aa).length (fun q7 p7=>?_ ) (fun q7 p7=>?_ )<;>simp only[zz]at p7;refine CG.aM (show(ax 12 (Int.ofNat (ts.map Cf.aa).length))=true from kX) k_ ?_;refine s1 hW 3 0 [] 3 [] ?_;refine CG.rt (bF) ?_;rotate_left;refine CG.aN (show(ax 12 (Int.ofNat (ts.map Cf.aa).length))=false from kO) k_ ?_;refine s1 hW 7 0 [] 3 [(3,i0)] ?_;rotate_left;rw[q6];refine s1 hW 6 0 [true] 3 [] ?_;refine CG.rt (bF) ?_;rotate_left
 ·rw[bw,aaS (by omega),abY,abX]
 ·skip;refine CG.bp ts (fun i a=>[(1,.ptr 0 2 0),(2,bF),(3,.d (.int .i64 (.ofNat i)))]) (fun i a=>[some (.cells [io c,lo Cf.aa ts])]) (fun i a r=>(cR none ts=cR a r/\(i=0->a=none)/\∀k,i=k+1->∃y,ts[k]? =some y/\a=some y.var)) none ?_ (an.refl _ _) ?_ ?_
  ·exact⟨rfl,fun _=>rfl,fun k hk=>by omega⟩
  ·intro i a hi hd aI;obtain⟨hv,-,-⟩:=aI;refine dk hW 4 0 [] 7 [(19,bo (ax (Int.ofNat i) (Int.ofNat (ts.map Cf.aa).length)))] (jx i (ts.map Cf.aa).length) ?_;refine CG.aS (by decide) ?_;refine s1 hW 5 0 [] 0 [(2,bT)] ?_;refine CG.rt (bT) ?_;rotate_left;rw[bw,hv,aa0 (by omega)];simp[cR, *]
  ·intro i a x r hd hx b8 aI;obtain⟨hv,h0,h1⟩:=aI;rw[cR]at hv;cases i with
    |zero=>cases h0 rfl;refine cP hW 4 0 [] 7 [(19,bo (ax 0 (Int.ofNat (ts.map Cf.aa).length)))] (show(ax 0 (Int.ofNat (ts.map Cf.aa).length))=true from kX) ?_;refine s1 hW 5 3 [] 7 [(23,lo Cf.aa ts),(24,i0)] ?_;refine CG.ix (al (aa:=Cf.aa) hx) rfl k_ ?_;refine s4 hW 3 0 [] 7 [(4,.ptr 1 2 0)] [(1,.cells [so x.var,io x.c])] ?_;refine CG.eF aV k_ k_ ?_;refine AO.rd 2 [(27,.ptr 1 2 0),(28,so x.var)] k_ ?_;refine AO.mN (dK hW x.var) rfl k_ k_ ?_;refine AO.rd 2 [(30,bo (!bP x.var)),(31,bo (!bP x.var))] k_ ?_;refine sp (bP x.var) (fun i_=>?_ ) (fun i_=>?_ );rw[i_];refine AO.rd 5 [(32,.ptr 1 2 1),(33,io x.c),(34,bo (Cf.c x==0)),(35,bo (Cf.c x==0)),(36,bo (Cf.c x==0))] k_ ?_;refine KO x.c 0 (fun nH Oh=>?_ ) (fun nH Oh=>?_ );rw[nH];refine AO.rd 21 [(37,tE),(38,tE),(39,tE),(40,tE),(41,bT),(42,bT),(43,tE),(44,tE),(45,tE),(46,tE),(47,tE),(48,tE),(49,tE),(50,tE),(51,tE),(52,tE),(53,tE),(54,tE),(55,tE),(56,tE),(57,bT)] k_ ?_;refine AO.done [1,2,3,57] rfl rfl k_ ?_;refine s1 hW 5 0 [true] 7 [] ?_;refine CG.fX (bF) ?_;rotate_left;rw[nH];refine AO.rd 2 [(37,.ptr 1 2 1),(38,io x.c)] k_ ?_;refine AO.mN (mc hW x.c) rfl k_ k_ ?_;refine AO.rd 3 [(40,bo (!bL x.c)),(41,bo (!bL x.c)),(42,bo (!bL x.c))] k_ ?_;refine sp (bL x.c) (fun jM=>?_ ) (fun jM=>?_ );rw[jM];refine AO.rd 15 [(43,i0),(44,bF),(45,bF),(46,tE),(47,tE),(48,tE),(49,tE),(50,tE),(51,tE),(52,tE),(53,tE),(54,tE),(55,tE),(56,bF),(57,bF)] k_ ?_;refine AO.done [1,2,3,57] rfl rfl k_ ?_;refine cG hW 5 3 [false] [(1,.ptr 0 2 0),(2,bF),(3,io 1)] ([some (.cells [io c,lo Cf.aa ts]),some (.cells [so x.var,io x.c])]) ?_;rotate_left;rw[jM];refine AO.rd 15 [(43,tE),(44,tE),(45,tE),(46,tE),(47,tE),(48,tE),(49,tE),(50,tE),(51,tE),(52,tE),(53,tE),(54,tE),(55,tE),(56,tE),(57,bT)] k_ ?_;refine AO.done [1,2,3,57] rfl rfl k_ ?_;refine s1 hW 5 0 [true] 7 [] ?_;refine CG.fX (bF) ?_;rotate_left;rw[i_];refine AO.rd 26 [(32,tE),(33,tE),(34,tE),(35,bT),(36,bT),(37,tE),(38,tE),(39,tE),(40,tE),(41,bT),(42,bT),(43,tE),(44,tE),(45,tE),(46,tE),(47,tE),(48,tE),(49,tE),(50,tE),(51,tE),(52,tE),(53,tE),(54,tE),(55,tE),(56,tE),(57,bT)] k_ ?_;refine AO.done [1,2,3,57] rfl rfl k_ ?_;refine s1 hW 5 0 [true] 7 [] ?_;refine CG.fX (bF) ?_;rotate_left;all_goals first|(simp only[bw,hv,mF];simp[*];done)|(refine⟨some x.var,⟨by rw[hv];simp[mF, *],fun h=>by omega,fun k hk=>⟨x,by rw[show k=0 by omega];exact hx,rfl⟩⟩,an.trim 1 [1,2,3] rfl rfl rfl rfl rfl⟩;done)
    |succ k=>obtain⟨y,hy,rfl⟩:=h1 k rfl;refine cP hW 4 0 [] 7 [(19,bo (ax (Int.ofNat (k+1)) (Int.ofNat (ts.map Cf.aa).length)))] (gi (k+1) (ts.map Cf.aa).length) ?_;refine s1 hW 5 3 [] 7 [(23,lo Cf.aa ts),(24,no (k+1))] ?_;refine CG.ix (al (aa:=Cf.aa) hx) rfl k_ ?_;refine s4 hW 3 0 [] 7 [(4,.ptr 1 2 0)] [(1,.cells [so x.var,io x.c])] ?_;refine CG.eF aV k_ k_ ?_;refine AO.rd 2 [(27,.ptr 1 2 0),(28,so x.var)] k_ ?_;refine AO.mN (dK hW x.var) rfl k_ k_ ?_;refine AO.rd 2 [(30,bo (!bP x.var)),(31,bo (!bP x.var))] k_ ?_;refine sp (bP x.var) (fun jM=>?_ ) (fun jM=>?_ );rw[jM];refine AO.rd 5 [(32,.ptr 1 2 1),(33,io x.c),(34,bo (Cf.c x==0)),(35,bo (Cf.c x==0)),(36,bo (Cf.c x==0))] k_ ?_;refine KO x.c 0 (fun wZ Ll=>?_ ) (fun wZ Ll=>?_ );rw[wZ];refine AO.rd 21 [(37,tE),(38,tE),(39,tE),(40,tE),(41,bT),(42,bT),(43,tE),(44,tE),(45,tE),(46,tE),(47,tE),(48,tE),(49,tE),(50,tE),(51,tE),(52,tE),(53,tE),(54,tE),(55,tE),(56,tE),(57,bT)] k_ ?_;refine AO.done [1,2,3,57] rfl rfl k_ ?_;refine s1 hW 5 0 [true] 7 [] ?_;refine CG.fX (bF) ?_;rotate_left;rw[wZ];refine AO.rd 2 [(37,.ptr 1 2 1),(38,io x.c)] k_ ?_;refine AO.mN (mc hW x.c) rfl k_ k_ ?_;refine AO.rd 3 [(40,bo (!bL x.c)),(41,bo (!bL x.c)),(42,bo (!bL x.c))] k_ ?_;refine sp (bL x.c) (fun tJ=>?_ ) (fun tJ=>?_ );rw[tJ];refine AO.rd 3 [(43,no (k+1)),(44,bo (decide (0<Int.ofNat (k+1)))),(45,bo (decide (0<Int.ofNat (k+1))))] k_ ?_;have rJ:(decide (0<Int.ofNat (k+1)))=true:=aa0 (by(try simp only[zz]at*)<;>omega);rw[rJ];refine AO.rd 4 [(46,.ptr 0 2 1),(47,lo Cf.aa ts),(48,no (k+1)),(49,io (IntKind.wrap IntKind.i64 (Int.ofNat (k+1) - 1)))] k_ ?_;rw[xD (by omega)];refine AO.idx (al (aa:=Cf.aa) hy) rfl k_ k_ k_ rfl ?_;refine AO.rd 7 [(51,.bB [.str y.var]),(52,so y.var),(53,.ptr 1 2 0),(54,so x.var),(55,bo (!bytesLess y.var x.var)),(56,bo (!bytesLess y.var x.var)),(57,bo (!bytesLess y.var x.var))] k_ ?_;refine AO.done [1,2,3,57] rfl rfl k_ ?_;refine s1 hW 1 0 [] 15 [] ?_;refine sp (bytesLess y.var x.var) (fun C9=>?_ ) (fun C9=>?_ );refine CG.aN (b:=(!bytesLess y.var x.var)) (by rw[C9];rfl) k_ ?_;refine cG hW 3 3 [] [(1,.ptr 0 2 0),(2,bF),(3,io (aq IntKind.i64 (aJ (Int.ofNat (k+1)) 1)))] ([some (.cells [io c,lo Cf.aa ts]),some (.cells [so x.var,io x.c])]) ?_;rw[aP (by omega)];rotate_left;refine CG.aM (b:=(!bytesLess y.var x.var)) (by rw[C9];rfl) k_ ?_;refine s1 hW 3 0 [] 7 [] ?_;refine CG.fX (bF) ?_;rotate_left;rw[tJ];refine AO.rd 15 [(43,tE),(44,tE),(45,tE),(46,tE),(47,tE),(48,tE),(49,tE),(50,tE),(51,tE),(52,tE),(53,tE),(54,tE),(55,tE),(56,tE),(57,bT)] k_ ?_;refine AO.done [1,2,3,57] rfl rfl k_ ?_;refine s1 hW 5 0 [true] 7 [] ?_;refine CG.fX (bF) ?_;rotate_left;rw[jM];refine AO.rd 26 [(32,tE),(33,tE),(34,tE),(35,bT),(36,bT),(37,tE),(38,tE),(39,tE),(40,tE),(41,bT),(42,bT),(43,tE),(44,tE),(45,tE),(46,tE),(47,tE),(48,tE),(49,tE),(50,tE),(51,tE),(52,tE),(53,tE),(54,tE),(55,tE),(56,tE),(57,bT)] k_ ?_;refine AO.done [1,2,3,57] rfl rfl k_ ?_;refine s1 hW 5 0 [true] 7 [] ?_;refine CG.fX (bF) ?_;rotate_left;all_goals first|(simp only[bw,hv,mF];simp[*];done)|(refine⟨some x.var,⟨by rw[hv];simp[mF, *],fun h=>by omega,fun k2 hk=>⟨x,by rw[show k2=k+1 by omega];exact hx,rfl⟩⟩,an.trim 1 [1,2,3] rfl rfl rfl rfl rfl⟩;done)
 ·rw[bw,show bL c=false by assumption];rfl
theorem FW(hW:W0 W)(c:Int)(ts:List Cf)(hl:ts.length<1099511627776)(dU:∀t∈ts,t.var.length<=281474976710656):PC P (gl W) 89 [.agg [.d (.int .i64 c),.d (.list (ts.map Cf.aa))]] (.d (.bool (bw c ts))):=by
 refine CG.start Y1 Y2 rfl ?_;refine s4 hW 8 0 [] 0 [(1,.ptr 0 2 0),(2,bF),(6,lo Cf.aa ts),(7,no (ts.map Cf.aa).length),(8,i0)] [(0,.cells [io c,lo Cf.aa ts])] ?_;rotate_left
 ·skip;refine CG.bp ts (fun i a=>[(1,.ptr 0 2 0),(2,bF),(6,lo Cf.aa ts),(7,no (ts.map Cf.aa).length),(8,.d (.int .i64 (.ofNat i)))]) (fun i a=>[some (.cells [io c,lo Cf.aa ts])]) (fun i a r=>(cR none ts=cR a r/\(i=0->a=none)/\∀k,i=k+1->∃y,ts[k]? =some y/\a=some y.var)) none ?_ (an.refl _ _) ?_ ?_
  ·exact⟨rfl,fun _=>rfl,fun k hk=>by omega⟩
  ·intro i a hi hd aI;obtain⟨hv,-,-⟩:=aI;refine dk hW 4 0 [] 23 [(9,bo (ax (Int.ofNat i) (Int.ofNat (ts.map Cf.aa).length)))] (jx i (ts.map Cf.aa).length) ?_;refine CG.aS (by decide) ?_;refine bh hW 3 2 [] 3 [(46,io c)] (iO hW c) ?_;refine s1 hW 0 1 [] 3 [(48,bo (bL c))] ?_;refine sp (bL c) (fun pV=>?_ ) (fun pV=>?_ );rw[pV];refine s1 hW 2 0 [] 0 [(2,bo (!ax 12 (Int.ofNat (ts.map Cf.aa).length)))] ?_;refine CG.rt (bo (!ax 12 (Int.ofNat (ts.map Cf.aa).length))) ?_;rotate_left;rw[pV];refine s1 hW 2 0 [] 2 [] ?_;refine CG.rt (bF) ?_;rotate_left
   ·rw[bw,hv,show bL c=true by assumption,fF,aaQ,V.d.injEq,D.bool.injEq,abh];simp[cR];omega
   ·rw[bw,show bL c=false by assumption];rfl
  ·intro i a x r hd hx b8 aI;obtain⟨hv,h0,h1⟩:=aI;rw[cR]at hv;cases i with
    |zero=>cases h0 rfl;refine cP hW 4 0 [] 31 [(9,bo (ax 0 (Int.ofNat (ts.map Cf.aa).length)))] (show(ax 0 (Int.ofNat (ts.map Cf.aa).length))=true from kX) ?_;refine s1 hW 5 1 [] 31 [(10,i0)] ?_;refine CG.ix (al (aa:=Cf.aa) hx) rfl k_ ?_;refine s4 hW 3 0 [] 31 [(3,i0),(4,.ptr 1 2 0)] [(1,.cells [so x.var,io x.c])] ?_;refine CG.eF aV k_ k_ ?_;refine AO.rd 2 [(13,.ptr 1 2 0),(14,so x.var)] k_ ?_;refine AO.mN (vH hW x.var (dU x (aaH hx))) rfl k_ k_ ?_;refine AO.rd 2 [(16,bo (!bP x.var)),(17,bo (!bP x.var))] k_ ?_;refine sp (bP x.var) (fun fV=>?_ ) (fun fV=>?_ );rw[fV];refine AO.rd 5 [(18,.ptr 1 2 1),(19,io x.c),(20,bo (Cf.c x==0)),(21,bo (Cf.c x==0)),(22,bo (Cf.c x==0))] k_ ?_;refine KO x.c 0 (fun i_ GN=>?_ ) (fun i_ GN=>?_ );rw[i_];refine AO.rd 21 [(23,tE),(24,tE),(25,tE),(26,tE),(27,bT),(28,bT),(29,tE),(30,tE),(31,tE),(32,tE),(33,tE),(34,tE),(35,tE),(36,tE),(37,tE),(38,tE),(39,tE),(40,tE),(41,tE),(42,tE),(43,bT)] k_ ?_;refine AO.done [1,2,6,7,8,43] rfl rfl k_ ?_;refine s1 hW 5 0 [true] 31 [] ?_;refine CG.fX (bF) ?_;rotate_left;rw[i_];refine AO.rd 2 [(23,.ptr 1 2 1),(24,io x.c)] k_ ?_;refine AO.mN (iO hW x.c) rfl k_ k_ ?_;refine AO.rd 3 [(26,bo (!bL x.c)),(27,bo (!bL x.c)),(28,bo (!bL x.c))] k_ ?_;refine sp (bL x.c) (fun jL=>?_ ) (fun jL=>?_ );rw[jL];refine AO.rd 15 [(29,i0),(30,bF),(31,bF),(32,tE),(33,tE),(34,tE),(35,tE),(36,tE),(37,tE),(38,tE),(39,tE),(40,tE),(41,tE),(42,bF),(43,bF)] k_ ?_;refine AO.done [1,2,6,7,8,43] rfl rfl k_ ?_;refine cG hW 5 2 [false] [(1,.ptr 0 2 0),(2,bF),(6,lo Cf.aa ts),(7,no (ts.map Cf.aa).length),(8,io 1)] ([some (.cells [io c,lo Cf.aa ts]),some (.cells [so x.var,io x.c])]) ?_;rotate_left;rw[jL];refine AO.rd 15 [(29,tE),(30,tE),(31,tE),(32,tE),(33,tE),(34,tE),(35,tE),(36,tE),(37,tE),(38,tE),(39,tE),(40,tE),(41,tE),(42,tE),(43,bT)] k_ ?_;refine AO.done [1,2,6,7,8,43] rfl rfl k_ ?_;refine s1 hW 5 0 [true] 31 [] ?_;refine CG.fX (bF) ?_;rotate_left;rw[fV];refine AO.rd 26 [(18,tE),(19,tE),(20,tE),(21,bT),(22,bT),(23,tE),(24,tE),(25,tE),(26,tE),(27,bT),(28,bT),(29,tE),(30,tE),(31,tE),(32,tE),(33,tE),(34,tE),(35,tE),(36,tE),(37,tE),(38,tE),(39,tE),(40,tE),(41,tE),(42,tE),(43,bT)] k_ ?_;refine AO.done [1,2,6,7,8,43] rfl rfl k_ ?_;refine s1 hW 5 0 [true] 31 [] ?_;refine CG.fX (bF) ?_;rotate_left;all_goals first|(simp only[bw,hv,mF];simp[*];done)|(refine⟨some x.var,⟨by rw[hv];simp[mF, *],fun h=>by omega,fun k hk=>⟨x,by rw[show k=0 by omega];exact hx,rfl⟩⟩,an.trim 1 [1,2,6,7,8] rfl rfl rfl rfl rfl⟩;done)
    |succ k=>obtain⟨y,hy,rfl⟩:=h1 k rfl;refine cP hW 4 0 [] 31 [(9,bo (ax (Int.ofNat (k+1)) (Int.ofNat (ts.map Cf.aa).length)))] (gi (k+1) (ts.map Cf.aa).length) ?_;refine s1 hW 5 1 [] 31 [(10,no (k+1))] ?_;refine CG.ix (al (aa:=Cf.aa) hx) rfl k_ ?_;refine s4 hW 3 0 [] 31 [(3,no (k+1)),(4,.ptr 1 2 0)] [(1,.cells [so x.var,io x.c])] ?_;refine CG.eF aV k_ k_ ?_;refine AO.rd 2 [(13,.ptr 1 2 0),(14,so x.var)] k_ ?_;refine AO.mN (vH hW x.var (dU x (aaH hx))) rfl k_ k_ ?_;refine AO.rd 2 [(16,bo (!bP x.var)),(17,bo (!bP x.var))] k_ ?_;refine sp (bP x.var) (fun jL=>?_ ) (fun jL=>?_ );rw[jL];refine AO.rd 5 [(18,.ptr 1 2 1),(19,io x.c),(20,bo (Cf.c x==0)),(21,bo (Cf.c x==0)),(22,bo (Cf.c x==0))] k_ ?_;refine KO x.c 0 (fun jM Oi=>?_ ) (fun jM Oi=>?_ );rw[jM];refine AO.rd 21 [(23,tE),(24,tE),(25,tE),(26,tE),(27,bT),(28,bT),(29,tE),(30,tE),(31,tE),(32,tE),(33,tE),(34,tE),(35,tE),(36,tE),(37,tE),(38,tE),(39,tE),(40,tE),(41,tE),(42,tE),(43,bT)] k_ ?_;refine AO.done [1,2,6,7,8,43] rfl rfl k_ ?_;refine s1 hW 5 0 [true] 31 [] ?_;refine CG.fX (bF) ?_;rotate_left;rw[jM];refine AO.rd 2 [(23,.ptr 1 2 1),(24,io x.c)] k_ ?_;refine AO.mN (iO hW x.c) rfl k_ k_ ?_;refine AO.rd 3 [(26,bo (!bL x.c)),(27,bo (!bL x.c)),(28,bo (!bL x.c))] k_ ?_;refine sp (bL x.c) (fun pW=>?_ ) (fun pW=>?_ );rw[pW];refine AO.rd 3 [(29,no (k+1)),(30,bo (decide (0<Int.ofNat (k+1)))),(31,bo (decide (0<Int.ofNat (k+1))))] k_ ?_;have wZ:(decide (0<Int.ofNat (k+1)))=true:=aa0 (by(try simp only[zz]at*)<;>omega);rw[wZ];refine AO.rd 4 [(32,.ptr 0 2 1),(33,lo Cf.aa ts),(34,no (k+1)),(35,io (IntKind.wrap IntKind.i64 (Int.ofNat (k+1) - 1)))] k_ ?_;rw[xD (by omega)];refine AO.idx (al (aa:=Cf.aa) hy) rfl k_ k_ k_ rfl ?_;refine AO.rd 7 [(37,.bB [.str y.var]),(38,so y.var),(39,.ptr 1 2 0),(40,so x.var),(41,bo (!bytesLess y.var x.var)),(42,bo (!bytesLess y.var x.var)),(43,bo (!bytesLess y.var x.var))] k_ ?_;refine AO.done [1,2,6,7,8,43] rfl rfl k_ ?_;refine s1 hW 1 0 [] 63 [] ?_;refine sp (bytesLess y.var x.var) (fun tJ=>?_ ) (fun tJ=>?_ );refine CG.aN (b:=(!bytesLess y.var x.var)) (by rw[tJ];rfl) k_ ?_;refine cG hW 3 2 [] [(1,.ptr 0 2 0),(2,bF),(6,lo Cf.aa ts),(7,no (ts.map Cf.aa).length),(8,io (aq IntKind.i64 (aJ (Int.ofNat (k+1)) 1)))] ([some (.cells [io c,lo Cf.aa ts]),some (.cells [so x.var,io x.c])]) ?_;rw[aP (by omega)];rotate_left;refine CG.aM (b:=(!bytesLess y.var x.var)) (by rw[tJ];rfl) k_ ?_;refine s1 hW 3 0 [] 31 [] ?_;refine CG.fX (bF) ?_;rotate_left;rw[pW];refine AO.rd 15 [(29,tE),(30,tE),(31,tE),(32,tE),(33,tE),(34,tE),(35,tE),(36,tE),(37,tE),(38,tE),(39,tE),(40,tE),(41,tE),(42,tE),(43,bT)] k_ ?_;refine AO.done [1,2,6,7,8,43] rfl rfl k_ ?_;refine s1 hW 5 0 [true] 31 [] ?_;refine CG.fX (bF) ?_;rotate_left;rw[jL];refine AO.rd 26 [(18,tE),(19,tE),(20,tE),(21,bT),(22,bT),(23,tE),(24,tE),(25,tE),(26,tE),(27,bT),(28,bT),(29,tE),(30,tE),(31,tE),(32,tE),(33,tE),(34,tE),(35,tE),(36,tE),(37,tE),(38,tE),(39,tE),(40,tE),(41,tE),(42,tE),(43,bT)] k_ ?_;refine AO.done [1,2,6,7,8,43] rfl rfl k_ ?_;refine s1 hW 5 0 [true] 31 [] ?_;refine CG.fX (bF) ?_;rotate_left;all_goals first|(simp only[bw,hv,mF];simp[*];done)|(refine⟨some x.var,⟨by rw[hv];simp[mF, *],fun h=>by omega,fun k2 hk=>⟨x,by rw[show k2=k+1 by omega];exact hx,rfl⟩⟩,an.trim 1 [1,2,6,7,8] rfl rfl rfl rfl rfl⟩;done)
theorem ID(hW:W0 W)(c:Int)(ts:List Cf)(hl:ts.length<1099511627776)(dU:∀t∈ts,t.var.length<1099511627776):PC P (gl W) 89 [.agg [.d (.int .i64 c),.d (.list (ts.map Cf.aa))]] (.d (.bool (bw c ts))):=FW hW c ts hl (fun t ht=>by have:=dU t ht;omega)
end Fw.Tz.Va
/-
  Shapes and types that are valid; what the program and the reference say of any.
-/
namespace Fw.Tz.Vb
open Go Go.Proofs Fw.X Fw.Tz Fw.Nu Fw.Tz.Sd Fw.Tz.Na Fw.Tz.El Fw.Tz.Va
variable {W:World}
def kP:Option Nat->V|some i=>.d (.int .i64 (.ofNat i))|none=>.d (.int .i64 (-1))
def ae.sm(x:ae):Prop:=x.ts.length<1099511627776/\∀t∈x.ts,t.var.length<1099511627776
def bad(x:ae):Bool:= !bw x.c x.ts
def eR(s:List UInt8):Bool:=Fw.ai s []||bP s
def b_(row:List UInt8)(ab:List ae):Bool:=eR row&&decide (ab.length<=6)&&ab.all ae.ok
def Oj:List UInt8:=[105,110,116]
def IE:List UInt8:=[98,111,111,108]
def fN(e:List UInt8):Bool:=Fw.ai e Oj||Fw.ai e IE||cH e
def fx(t:Ty):Bool:=fN t.elem&&b_ t.row t.ab
theorem oc(l:List ae):l.any bad= !l.all ae.ok:=by
 induction l with
  |nil=>rfl
  |cons x l ih=>rw[List.any_cons,aaX,ih,Bool.not_and];rfl
theorem uq(hW:W0 W)(row:List UInt8)(ab:List ae)(hl:ab.length<1099511627776)(hd:∀x∈ab,ae.sm x):PC P (gl W) 63 [.agg [.d (.str row),.d (.list (ab.map ae.aa))]] (.d (.bool (b_ row ab))):=by
 refine CG.start Yx Yy rfl ?_;refine s4 hW 8 0 [] 0 [(1,.ptr 0 2 0),(2,bF),(3,i0)] [(0,.cells [so row,lo ae.aa ab])] ?_;rotate_left;refine CG.bp ab (fun i u=>[(1,.ptr 0 2 0),(2,bF),(3,.d (.int .i64 (.ofNat i)))]) (fun i u=>[some (.cells [so row,lo ae.aa ab])]) (fun i u r=>(ab.all ae.ok=r.all ae.ok)) () ?_ (an.refl _ _) ?_ ?_
 ·rfl
 ·intro i u hi hd aI;refine dk hW 4 0 [] 7 [(8,bo (ax (Int.ofNat i) (Int.ofNat (ab.map ae.aa).length)))] (jx i (ab.map ae.aa).length) ?_;refine CG.aS (by decide) ?_;refine s1 hW 3 5 [] 3 [(22,bo (!ax 6 (Int.ofNat (ab.map ae.aa).length)))] ?_;refine cD 6 (ab.map ae.aa).length (fun oU Ol=>?_ ) (fun oU Ol=>?_ )<;>simp only[zz]at Ol;have vI:(ax 6 (Int.ofNat (ab.map ae.aa).length))=true:=kX;rw[vI];refine s1 hW 2 0 [] 2 [] ?_;refine CG.rt (bF) ?_;rotate_left;have fV:(ax 6 (Int.ofNat (ab.map ae.aa).length))=false:=kO;rw[fV];refine s1 hW 0 4 [] 7 [(26,bo (ai row []))] ?_;refine sp (ai row []) (fun iZ=>?_ ) (fun iZ=>?_ );rw[iZ];refine s1 hW 2 0 [] 0 [(2,bT)] ?_;refine CG.rt (bT) ?_;rotate_left;rw[iZ];refine bh hW 0 2 [] 14 [(28,so row)] (dK hW row) ?_;refine s1 hW 2 0 [] 0 [(2,bo (bP row))] ?_;refine CG.rt (bo (bP row)) ?_;rotate_left;all_goals first
   |(
    have h6:ab.length<=6:=by omega
    simp[b_,eR,oc, *];done)
   |(
    have h6:¬ab.length<=6:=by omega
    simp[b_,eR,oc, *];done)
   |(simp[b_,eR,oc, *];done)
 ·intro i u x r dp hx b8 aI;have hs:=hd x (aaH hx);rw[aaX]at aI;refine cP hW 4 0 [] 7 [(8,bo (ax (Int.ofNat i) (Int.ofNat (ab.map ae.aa).length)))] (gi i (ab.map ae.aa).length) ?_;refine s1 hW 5 3 [] 7 [(12,lo ae.aa ab),(13,no i)] ?_;refine CG.ix (al (aa:=ae.aa) hx) rfl k_ ?_;refine bh hW 0 1 [] 7 [(15,.agg x.ce)] (cb hW x.c x.ts (And.left hs)) ?_;refine s1 hW 2 0 [] 7 [(17,bo (!bw x.c x.ts))] ?_;refine sp (bw x.c x.ts) (fun iZ=>?_ ) (fun iZ=>?_ );refine CG.aN (b:=(!bw x.c x.ts)) (by rw[iZ];rfl) k_ ?_;refine cG hW 3 3 [] [(1,.ptr 0 2 0),(2,bF),(3,io (aq IntKind.i64 (aJ (Int.ofNat i) 1)))] ([some (.cells [so row,lo ae.aa ab])]) ?_;rw[aP (by omega)];rotate_left;refine CG.aM (b:=(!bw x.c x.ts)) (by rw[iZ];rfl) k_ ?_;refine s1 hW 3 0 [] 7 [] ?_;refine CG.fX (bF) ?_;rotate_left
  ·exact⟨(),by rw[aI,show ae.ok x=true by assumption];rfl,an.refl _ _⟩
  ·rw[b_,aI,show ae.ok x=false by assumption];simp
theorem Om(hW:W0 W)(x:ae)(hs:ae.sm x):PC P (gl W) 117 [.agg [.d (.int .i64 x.c),.d (.list (x.ts.map Cf.aa))]] (.d (.bool (bad x))):=by refine CG.start R3 R4 rfl ?_;refine s4 hW 4 1 [] 0 [(2,bF),(3,.agg x.ce)] [(0,.cells x.ce)] ?_;refine CG.pg (ID hW x.c x.ts (And.left hs) (And.right hs)) rfl k_ ?_;exact du hW 2 0 [] 0 [(2,bo (!bw x.c x.ts))] (bo (!bw x.c x.ts))
theorem FX(hW:W0 W)(l:List ae)(hl:l.length<1099511627776)(hd:∀x∈l,ae.sm x):PC P (gl W) 174 [.d (.list (l.map ae.aa)),.func 117 [] []] (kP (l.findIdx? bad)):=by
 refine CG.start S0 S1 rfl ?_;refine s1 hW 8 0 [] 3 [(4,i0),(7,no (l.map ae.aa).length),(8,i0)] ?_;rotate_left;refine CG.bp l (fun i u=>[(0,lo ae.aa l),(1,.func 117 [] []),(4,i0),(7,no (l.map ae.aa).length),(8,.d (.int .i64 (.ofNat i)))]) (fun i u=>[]) (fun i u r=>(kP (l.findIdx? bad)=kP ((r.findIdx? bad).map (·+i)))) () ?_ (an.refl _ _) ?_ ?_
 ·cases l.findIdx? bad<;>rfl
 ·intro i u hi hd aI;refine dk hW 4 0 [] 23 [(9,bo (ax (Int.ofNat i) (Int.ofNat (l.map ae.aa).length)))] (jx i (l.map ae.aa).length) ?_;refine CG.aS (by decide) ?_;refine s1 hW 5 0 [] 0 [(4,io (-1))] ?_;refine CG.rt (io (-1)) ?_;rotate_left;rw[aI];rfl
 ·intro i u x r dp hx b8 aI;have hs:=hd x (aaH hx);refine cP hW 4 0 [] 31 [(9,bo (ax (Int.ofNat i) (Int.ofNat (l.map ae.aa).length)))] (gi i (l.map ae.aa).length) ?_;refine s1 hW 8 3 [] 31 [(5,no i),(11,.func 117 [] []),(12,lo ae.aa l),(13,no i)] ?_;refine CG.ix (al (aa:=ae.aa) hx) rfl k_ ?_;refine s1 hW 0 1 [] 127 [(15,.agg x.ce)] ?_;refine CG.QZ (first:=[]) (cap:=[]) (Om hW x hs) rfl k_ k_ k_ rfl ?_;refine s1 hW 2 0 [] 319 [] ?_;refine sp (bad x) (fun fV=>?_ ) (fun fV=>?_ );refine CG.aM fV k_ ?_;refine s1 hW 3 0 [] 51 [(4,no i)] ?_;refine CG.fX (no i) ?_;rotate_left;refine CG.aN fV k_ ?_;refine cG hW 3 2 [] [(0,lo ae.aa l),(1,.func 117 [] []),(4,i0),(7,no (l.map ae.aa).length),(8,io (aq IntKind.i64 (aJ (Int.ofNat i) 1)))] ([]) ?_;rw[aP (by omega)];rotate_left
  ·rw[aI,abK,show bad x=true by assumption];simp[kP]
  ·refine⟨(),?_,an.refl _ _⟩;rw[aI,abK,show bad x=false by assumption];cases r.findIdx? bad<;>simp[kP];omega
theorem xR(hW:W0 W)(l:List ae)(hl:l.length<1099511627776)(hd:∀x∈l,ae.sm x):PC P (gl W) 116 [.d (.list (l.map ae.aa)),.func 117 [] []] (.d (.bool (l.any bad))):=by
 refine CG.start R1 R2 rfl ?_;refine bh hW 4 2 [] 0 [(4,bF),(5,lo ae.aa l),(6,.func 117 [] [])] (FX hW _ hl hd) ?_;rotate_left;have:l.any bad=(l.findIdx? bad).isSome:=by rw[acq]
 rw[this];cases l.findIdx? bad with
  |none=>exact du hW 2 0 [] 1 [] (bF)
  |some i=>exact du hW 2 0 [] 0 [(4,bT)] (bT)
theorem nI(hW:W0 W)(row:List UInt8)(ab:List ae)(hr:row.length<1099511627776)(hl:ab.length<1099511627776)(hd:∀x∈ab,ae.sm x):PC P (gl W) 59 [.agg [.d (.str row),.d (.list (ab.map ae.aa))]] (.d (.bool (b_ row ab))):=by
 refine CG.start Yt Yu rfl ?_;refine s4 hW 4 4 [] 0 [(1,.ptr 0 2 0),(2,bF),(6,bo (ai row []))] [(0,.cells [so row,lo ae.aa ab])] ?_;refine sp (ai row []) (fun q8=>?_ ) (fun q8=>?_ );rw[q8];refine s1 hW 0 11 [] 3 [(17,bo (!ax 6 (Int.ofNat (ab.map ae.aa).length)))] ?_;refine cD 6 (ab.map ae.aa).length (fun tX On=>?_ ) (fun tX On=>?_ )<;>simp only[zz]at On;have nG:(ax 6 (Int.ofNat (ab.map ae.aa).length))=true:=kX;rw[nG];refine s1 hW 2 0 [] 2 [] ?_;refine CG.rt (bF) ?_;rotate_left;have pV:(ax 6 (Int.ofNat (ab.map ae.aa).length))=false:=kO;rw[pV];refine bh hW 0 2 [] 6 [(19,lo ae.aa ab)] (xR hW _ hl hd) ?_;refine s1 hW 2 0 [] 0 [(2,bo (!List.any ab bad))] ?_;refine CG.rt (bo (!List.any ab bad)) ?_;rotate_left;rw[q8];refine bh hW 0 2 [] 7 [(8,so row)] (Ln hW _ hr) ?_;refine s1 hW 0 2 [] 3 [(11,bo (bP row))] ?_;refine sp (bP row) (fun oU=>?_ ) (fun oU=>?_ );rw[oU];refine s1 hW 0 6 [] 3 [(17,bo (!ax 6 (Int.ofNat (ab.map ae.aa).length)))] ?_;refine cD 6 (ab.map ae.aa).length (fun fV tI=>?_ ) (fun fV tI=>?_ )<;>simp only[zz]at tI;have iZ:(ax 6 (Int.ofNat (ab.map ae.aa).length))=true:=kX;rw[iZ];refine s1 hW 2 0 [] 2 [] ?_;refine CG.rt (bF) ?_;rotate_left;have i_:(ax 6 (Int.ofNat (ab.map ae.aa).length))=false:=kO;rw[i_];refine bh hW 0 2 [] 6 [(19,lo ae.aa ab)] (xR hW _ hl hd) ?_;refine s1 hW 2 0 [] 0 [(2,bo (!List.any ab bad))] ?_;refine CG.rt (bo (!List.any ab bad)) ?_;rotate_left;rw[oU];refine s1 hW 2 0 [] 2 [] ?_;refine CG.rt (bF) ?_;rotate_left;all_goals first
  |(
   have h6:ab.length<=6:=by omega
   simp[b_,eR,oc, *];done)
  |(
   have h6:¬ab.length<=6:=by omega
   simp[b_,eR,oc, *];done)
  |(simp[b_,eR,oc, *];done)
theorem IF(hW:W0 W)(e row:List UInt8)(ab:List ae)(he:e.length<1099511627776)(hr:row.length<1099511627776)(hl:ab.length<1099511627776)(hd:∀x∈ab,ae.sm x):PC P (gl W) 51 [.agg [.d (.str e),.d (.str row),.d (.list (ab.map ae.aa))]] (.d (.bool (fx ⟨e,row,ab⟩))):=by refine CG.start X_ Yf rfl ?_;refine s4 hW 4 4 [] 0 [(1,.ptr 0 3 0),(2,bF),(6,bo (ai e [105,110,116]))] [(0,.cells [so e,so row,lo ae.aa ab])] ?_;refine sp (ai e [105,110,116]) (fun tX=>?_ ) (fun tX=>?_ );rw[tX];refine bh hW 0 12 [] 2 [(16,bT),(18,.agg [so row,lo ae.aa ab])] (nI hW _ _ hr hl hd) ?_;refine s1 hW 2 0 [] 0 [(2,bo (b_ row ab))] ?_;refine CG.rt (bo (b_ row ab)) ?_;rotate_left;rw[tX];refine s1 hW 0 5 [] 3 [(11,bo (ai e [98,111,111,108]))] ?_;refine sp (ai e [98,111,111,108]) (fun nG=>?_ ) (fun nG=>?_ );rw[nG];refine bh hW 0 7 [] 2 [(16,bT),(18,.agg [so row,lo ae.aa ab])] (nI hW _ _ hr hl hd) ?_;refine s1 hW 2 0 [] 0 [(2,bo (b_ row ab))] ?_;refine CG.rt (bo (b_ row ab)) ?_;rotate_left;rw[nG];refine bh hW 0 2 [] 7 [(13,so e)] (C_ hW _ he) ?_;refine s1 hW 0 2 [] 3 [(16,bo (cH e))] ?_;refine sp (cH e) (fun pV=>?_ ) (fun pV=>?_ );rw[pV];refine bh hW 0 2 [] 6 [(18,.agg [so row,lo ae.aa ab])] (nI hW _ _ hr hl hd) ?_;refine s1 hW 2 0 [] 0 [(2,bo (b_ row ab))] ?_;refine CG.rt (bo (b_ row ab)) ?_;rotate_left;rw[pV];refine s1 hW 2 0 [] 2 [] ?_;refine CG.rt (bF) ?_;rotate_left;all_goals simp[fx,fN,Oj,IE, *]
theorem vK(hW:W0 W)(e:List UInt8)(he:e.length<1099511627776):PC P (gl W) 79 [.d (.str e)] (.d (.bool (fN e))):=by refine CG.start YZ Y0 rfl ?_;refine s1 hW 4 3 [] 1 [(2,bF),(5,bo (ai e [105,110,116]))] ?_;refine sp (ai e [105,110,116]) (fun q5=>?_ ) (fun q5=>?_ );rw[q5];refine s1 hW 2 0 [] 0 [(2,bT)] ?_;refine CG.rt (bT) ?_;rotate_left;rw[q5];refine s1 hW 0 4 [] 3 [(9,bo (ai e [98,111,111,108]))] ?_;refine sp (ai e [98,111,111,108]) (fun q6=>?_ ) (fun q6=>?_ );rw[q6];refine s1 hW 2 0 [] 0 [(2,bT)] ?_;refine CG.rt (bT) ?_;rotate_left;rw[q6];refine bh hW 0 1 [] 6 [(10,so e)] (dF hW _ he) ?_;refine s1 hW 2 0 [] 0 [(2,bo (cH e))] ?_;refine CG.rt (bo (cH e)) ?_;rotate_left;all_goals simp[fN,Oj,IE, *]
theorem yV(hW:W0 W)(e row:List UInt8)(ab:List ae)(he:e.length<1099511627776)(hl:ab.length<1099511627776)(hd:∀x∈ab,ae.sm x):PC P (gl W) 33 [.agg [.d (.str e),.d (.str row),.d (.list (ab.map ae.aa))]] (.d (.bool (fx ⟨e,row,ab⟩))):=by refine CG.start X7 X8 rfl ?_;refine s4 hW 4 2 [] 0 [(1,.ptr 0 3 0),(2,bF),(4,so e)] [(0,.cells [so e,so row,lo ae.aa ab])] ?_;refine CG.pg (vK hW _ he) rfl k_ ?_;refine s1 hW 0 1 [] 3 [(6,bo (fN e))] ?_;refine sp (fN e) (fun q9=>?_ ) (fun q9=>?_ );rw[q9];refine bh hW 0 2 [] 6 [(8,.agg [so row,lo ae.aa ab])] (uq hW row ab hl hd) ?_;refine s1 hW 2 0 [] 0 [(2,bo (b_ row ab))] ?_;refine CG.rt (bo (b_ row ab)) ?_;rotate_left;rw[q9];refine s1 hW 2 0 [] 2 [] ?_;refine CG.rt (bF) ?_;rotate_left;all_goals simp[fx, *]
end Fw.Tz.Vb
/-
  Equality of expressions, shapes and types as functions.
-/
namespace Fw.Tz.Eq
open Go Fw.Tz.Va Fw.Tz.Vb
def tY{α:Type}(f:α->α->Bool):List α->List α->Bool|[],[]=>true|a::l,b::m=>f a b&&tY f l m|_,_=>false
theorem yW{α:Type}{f:α->α->Bool}(h:∀a b,f a b=true↔a=b):∀(l m:List α),tY f l m=true↔l=m
 |[],[]=>by simp[tY]
 |[],_::_=>by simp[tY]
 |_::_,[]=>by simp[tY]
 |a::l,b::m=>by rw[tY,aaD,h,yW h l m,ac7]
theorem yX{α:Type}{f:α->α->Bool}:∀{l m:List α},l.length≠m.length->tY f l m=false
 |[],[],h=>by simp at h
 |[],_::_,_=>rfl
 |_::_,[],_=>rfl
 |a::l,b::m,h=>by rw[tY,yX (by simpa using h),abY]
def ja(a b:Cf):Bool:=Fw.ai a.var b.var&&decide (a.c=b.c)
def fO(a b:ae):Bool:=decide (a.c=b.c)&&tY ja a.ts b.ts
def sG(r1:List UInt8)(d1:List ae)(r2:List UInt8)(d2:List ae):Bool:=Fw.ai r1 r2&&tY fO d1 d2
def Bc(a b:Ty):Bool:=Fw.ai a.elem b.elem&&sG a.row a.ab b.row b.ab
theorem vM(a b:Cf):ja a b=true↔a=b:=by cases a;cases b;simp[ja,Fw.eu]
theorem sH(a b:ae):fO a b=true↔a=b:=by cases a;cases b;simp[fO,yW vM]
theorem vN(r1:List UInt8)(d1:List ae)(r2:List UInt8)(d2:List ae):sG r1 d1 r2 d2=true↔r1=r2/\d1=d2:=by simp[sG,yW sH,Fw.eu]
theorem IG(a b:Ty):Bc a b=true↔a=b:=by cases a;cases b;simp[Bc,vN,Fw.eu,and_assoc]
end Fw.Tz.Eq
/-
  Binds, substitution and the schemes of primitives under binds: the plain law.
-/
namespace Fw.Tz.Yd
open Go Fw.Tz Fw.Nu Fw.Tz.Na Fw.Tz.El Fw.Tz.Va Fw.Tz.Vb Fw.Tz.Su
structure Bd where
 kind:Int
 var:List UInt8
 bf:ae
 row:List UInt8
 ab:List ae
 elem:List UInt8
@[simp,reducible] def Bd.ce(x:Bd):List V:=[Fw.io x.kind,Fw.so x.var,Fw.io x.bf.c,Fw.lo Cf.aa x.bf.ts,Fw.so x.row,Fw.lo ae.aa x.ab,Fw.so x.elem]
def Bd.aa(x:Bd):List D:=[.int .i64 x.kind,.str x.var,.int .i64 x.bf.c,.list (x.bf.ts.map Cf.aa),.str x.row,.list (x.ab.map ae.aa),.str x.elem]
def jE(k:Int)(s:List UInt8)(b:Bd):Bool:=decide (b.kind=k)&&Fw.ai b.var s
def gy(l:List Bd)(k:Int)(s:List UInt8):Option Nat:=l.findIdx? (jE k s)
def aH(l:List Bd)(k:Int)(s:List UInt8):Option Bd:=l.find? (jE k s)
def eg(x:ae):Bool:=decide (x.c=0)&&x.ts.isEmpty
def vO(b:Bd):Bool:=Fw.ai b.row []&&b.ab.isEmpty
def bV(b:Bd):Bool:=if b.kind=1 then bP b.var&&b.bf.ok&&vO b&&Fw.ai b.elem []else if b.kind=2 then bP b.var&&b_ b.row b.ab&&eg b.bf&&Fw.ai b.elem []else if b.kind=3 then cH b.var&&fN b.elem&&eg b.bf&&vO b else false
def Da:List Bd->List Bd->Bool|_,[]=>true|seen,b::r=>bV b&&(gy seen b.kind b.var).isNone&&Da (seen++[b]) r
def dV(l:List Bd):Bool:=Da [] l
abbrev Gt:=Int->List UInt8->Option Bd
def Bf(g:Gt):List Cf->Es
 |[]=>[]
 |t::ts=>
  (match g 1 t.var with
   |none=>[(t.var,t.c)]
   |some b=>b.bf.ts.map fun u=>(u.var,t.c*u.c))++Bf g ts
def yY(g:Gt):Int->List Cf->Int
 |n,[]=>n
 |n,t::ts=>
  yY g (match g 1 t.var with
   |none=>n
   |some b=>n+t.c*b.bf.c) ts
def FY(g:Gt)(ts:List Cf):Bool:=ts.all fun t=>
 match g 1 t.var with
  |none=>true
  |some b=>b.bf.ok
def zK(e:List UInt8×Int):Cf:=⟨e.1,e.2⟩
def nJ(es:Es):List Cf:=es.map zK
def gq:ae:=⟨0,[]⟩
def kJ(x:ae):ae×Int:=if x.ok=true then(x,0)else(gq,3)
def aL(g:Gt)(x:ae):ae×Int:=if x.ok=true/\FY g x.ts=true then kJ ⟨yY g x.c x.ts,nJ (nE (Bf g x.ts) [])⟩else(gq,1)
def sI(g:Gt):List ae->List ae->List ae×Int|acc,[]=>(acc,0)|acc,x::xs=>if(aL g x).2=0 then sI g (acc++[(aL g x).1]) xs else([],(aL g x).2)
def ru(row:List UInt8)(a b:List ae):(List UInt8×List ae)×Int:=if a.length+b.length<=6 then((row,a++b),0)else(([],[]),3)
def dR(g:Gt)(ok:Bool)(row:List UInt8)(ab:List ae):(List UInt8×List ae)×Int:=if b_ row ab=true/\ok=true then
 if(sI g [] ab).2=0 then
  match(if row=[]then none else g 2 row)with
   |none=>ru row [] (sI g [] ab).1
   |some b=>ru b.row b.ab (sI g [] ab).1
 else(([],[]),(sI g [] ab).2)else(([],[]),1)
def ty0:Ty:=⟨[],[],[]⟩
def cI(g:Gt)(ok:Bool)(t:Ty):Ty×Int:=if fx t=true/\ok=true then
 if(dR g ok t.row t.ab).2=0 then
  (⟨match g 3 t.elem with
   |none=>t.elem
   |some b=>b.elem,(dR g ok t.row t.ab).1.1,(dR g ok t.row t.ab).1.2⟩,0)
 else(ty0,(dR g ok t.row t.ab).2)else(ty0,1)
abbrev Ky:=Int×List UInt8
def key(b:Bd):Ky:=(b.kind,b.var)
theorem ei(k:Int)(s:List UInt8)(b:Bd):jE k s b=true↔key b=(k,s):=by simp_all[Fw.ep,jE,aaD,aaL,key,aaE]
theorem vQ{l:List Bd}{k:Int}{s:List UInt8}:(gy l k s).isNone=true↔∀b∈l,key b≠(k,s):=by unfold gy;simp_all[Option.isNone_iff_eq_none,List.findIdx?_eq_none_iff,abV,ei]
theorem kY{l:List Bd}{k:Int}{s:List UInt8}:aH l k s=none↔∀b∈l,key b≠(k,s):=by unfold aH;grind[List.find?_eq_none,ei]
def Nk(l:List Bd):Prop:=l.Pairwise fun a b=>key a≠key b
theorem Bg:∀(l seen:List Bd),Da seen l=true↔(∀b∈l,bV b=true)/\(∀a∈seen,∀b∈l,key a≠key b)/\Nk l
 |[],seen=>by simp[Da,Nk]
 |b::r,seen=>by
  rw[Da,aaD,aaD,vQ,Bg r];simp only[Nk,abJ,aa2,aa7,acL,or_false];constructor
  ·rintro⟨⟨h1,h2⟩,h3,h4,h5⟩;refine⟨?_,?_,?_,h5⟩
   ·grind
   ·rintro a ha x (rfl|hx)
    ·exact h2 a ha
    grind
   grind
  ·rintro⟨h1,h2,h3,h4⟩;refine⟨⟨h1 b (.inl rfl),fun a ha=>h2 a ha b (.inl rfl)⟩,fun x hx=>h1 x (.inr hx),?_,h4⟩;grind
theorem yZ(l:List Bd):dV l=true↔(∀b∈l,bV b=true)/\Nk l:=by rw[dV,Bg];simp
theorem ur(l:List Bd):Nk l↔(l.map key).Nodup:=by unfold Nk List.Nodup;grind
end Fw.Tz.Yd
/-
  Equal expressions, shapes and types, by the program and by the reference.
-/
namespace Fw.Tz.Ew
open Go Go.Proofs Fw.X Fw.Tz Fw.Nu Fw.Tz.Sd Fw.Tz.Na Fw.Tz.El Fw.Tz.Va Fw.Tz.Vb Fw.Tz.Eq
variable {W:World}
abbrev vL(x:ae):V:=.agg [.d (.int .i64 x.c),.d (.list (x.ts.map Cf.aa))]
abbrev vS(row:List UInt8)(ab:List ae):V:=.agg [.d (.str row),.d (.list (ab.map ae.aa))]
abbrev vT(t:Ty):V:=.agg [.d (.str t.elem),.d (.str t.row),.d (.list (t.ab.map ae.aa))]
theorem vU(x y:Cf):jj [.str,.int] [.d (.str x.var),.d (.int .i64 x.c)] [.d (.str y.var),.d (.int .i64 y.c)]=some (ja x y):=by
 simp only[jj,iJ,E4,aaJ,aaK rfl,ja];cases ai x.var y.var with
  |false=>rfl
  |true=>
   simp only[abd];by_cases h:x.c=y.c
   ·simp[h,jj]
   ·have e:(x.c==y.c)=false:=by simp[h]
    rw[e,aaS h];simp
def mS:List Cf->List Cf->Option Int|x::l,y::m=>if bytesLess x.var y.var=true\/(ai x.var y.var=true/\x.c<y.c)then some (-1)else if ja x y=false then some 1 else mS l m|_,_=>none
def tZ(a b:ae):Int:=match mS a.ts b.ts with
 |some r=>r
 |none=>if a.ts.length<b.ts.length\/(a.ts.length=b.ts.length/\a.c<b.c)then -1 else if b.ts.length<a.ts.length\/b.c<a.c then 1 else 0
theorem xS:∀{l m:List Cf},mS l m=none->l.length=m.length->l=m
 |[],[],_,_=>rfl
 |[],_::_,_,h=>by simp at h
 |_::_,[],_,h=>by simp at h
 |x::l,y::m,h,hl=>by
  rw[mS]at h;split at h
  ·cases h
  ·split at h
   ·cases h
   ·rename_i h1 h2;rw[(vM x y).1 (by simpa using h2),xS h (by simpa using hl)]
theorem sJ:∀(l:List Cf),mS l l=none
 |[]=>rfl
 |x::l=>by
  have h1:bytesLess x.var x.var=false:=by rw[Fw.Tz.eU];simp
  rw[mS,aaF (by rw[h1];simp),aaF (by rw[(vM x x).2 rfl];simp)];exact sJ l
theorem Ey:∀{l m:List Cf}{r:Int},mS l m=some r->r≠0/\l≠m
 |[],_,r,h=>by simp[mS]at h
 |_::_,[],r,h=>by simp[mS]at h
 |x::l,y::m,r,h=>by
  refine⟨?_,fun e=>by rw[e,sJ]at h;cases h⟩;rw[mS]at h;split at h
  ·simp only[aaC]at h;omega
  ·split at h
   ·simp only[aaC]at h;omega
   ·exact(Ey h).1
theorem Ls(a b:ae):decide (tZ a b=0)=fO a b:=by
 rw[abh,aaL,sH];constructor
 ·intro h;rw[tZ]at h;cases hc:mS a.ts b.ts with
   |some r=>rw[hc]at h;exact absurd h (Ey hc).1
   |none=>
    rw[hc]at h;simp only at h;split at h
    ·omega
    ·split at h
     ·omega
     ·rename_i h1 h2;have e1:a.ts.length=b.ts.length:=by omega
      have e2:a.c=b.c:=by omega
      have e3:=xS hc e1;cases a;cases b;simp only at e2 e3;rw[e2,e3]
 ·rintro rfl;rw[tZ,sJ];simp
theorem Oo(hW:W0 W)(a b:ae)(ha:a.ts.length<1099511627776)(hb:b.ts.length<1099511627776):PC P (gl W) 113 [vL a,vL b] (.d (.int .i64 (tZ a b))):=by
 refine CG.start RU RW rfl ?_;refine s4 hW 8 0 [] 0 [(2,.ptr 0 2 0),(3,.ptr 1 2 0),(4,i0),(5,i0)] [(0,.cells a.ce),(1,.cells b.ce)] ?_;rotate_left;refine CG.bp a.ts (fun i u=>[(2,.ptr 0 2 0),(3,.ptr 1 2 0),(4,i0),(5,.d (.int .i64 (.ofNat i)))]) (fun i u=>[some (.cells a.ce),some (.cells b.ce)]) (fun i u r=>(mS a.ts b.ts=mS r (b.ts.drop i))) () ?_ (an.refl _ _) ?_ ?_
 ·rfl
 ·intro i u hi hd aI;have hn:mS a.ts b.ts=none:=by rw[aI];simp[mS]
  refine s1 hW 2 6 [] 15 [(13,bo (ax (Int.ofNat i) (Int.ofNat (a.ts.map Cf.aa).length)))] ?_;have oU:(ax (Int.ofNat i) (Int.ofNat (a.ts.map Cf.aa).length))=false:=kO;rw[oU];refine s1 hW 3 0 [false] 15 [] ?_;refine CG.aS (by decide) ?_;refine s1 hW 5 8 [] 7 [(64,bo (ax (Int.ofNat (a.ts.map Cf.aa).length) (Int.ofNat (b.ts.map Cf.aa).length)))] ?_;refine cD (a.ts.map Cf.aa).length (b.ts.map Cf.aa).length (fun fV tI=>?_ ) (fun fV tI=>?_ )<;>simp only[zz]at tI;rw[fV];refine s1 hW 6 0 [true] 0 [(4,io (-1))] ?_;refine CG.rt (io (-1)) ?_;rotate_left;rw[fV];refine s1 hW 0 8 [] 15 [(72,bo (aQ (Int.ofNat (a.ts.map Cf.aa).length) (Int.ofNat (b.ts.map Cf.aa).length)))] ?_;refine pq (a.ts.map Cf.aa).length (b.ts.map Cf.aa).length (fun i_ GN=>?_ ) (fun i_ GN=>?_ )<;>simp only[zz]at GN;rw[i_];refine s1 hW 2 0 [] 7 [(56,bo (ax a.c b.c))] ?_;refine fk a.c b.c (fun jL Et=>?_ ) (fun jL Et=>?_ );refine CG.aM jL k_ ?_;refine s1 hW 3 0 [] 0 [(4,io (-1))] ?_;refine CG.rt (io (-1)) ?_;rotate_left;refine CG.aN jL k_ ?_;refine s1 hW 1 8 [] 7 [(88,bo (ax (Int.ofNat (b.ts.map Cf.aa).length) (Int.ofNat (a.ts.map Cf.aa).length)))] ?_;have nH:(ax (Int.ofNat (b.ts.map Cf.aa).length) (Int.ofNat (a.ts.map Cf.aa).length))=false:=kO;rw[nH];refine s1 hW 2 0 [] 4 [(80,bo (ax b.c a.c))] ?_;refine fk b.c a.c (fun jM Oi=>?_ ) (fun jM Oi=>?_ );refine CG.aM jM k_ ?_;refine s1 hW 3 0 [] 0 [(4,io 1)] ?_;refine CG.rt (io 1) ?_;rotate_left;refine CG.aN jM k_ ?_;refine s1 hW 6 0 [] 1 [] ?_;refine CG.rt (i0) ?_;rotate_left;rw[i_];refine s1 hW 4 8 [false] 7 [(88,bo (ax (Int.ofNat (b.ts.map Cf.aa).length) (Int.ofNat (a.ts.map Cf.aa).length)))] ?_;have pW:(ax (Int.ofNat (b.ts.map Cf.aa).length) (Int.ofNat (a.ts.map Cf.aa).length))=true:=kX;rw[pW];refine s1 hW 6 0 [true] 0 [(4,io 1)] ?_;refine CG.rt (io 1) ?_;rotate_left;all_goals (rw[tZ,hn];simp only;first|(rw[aaK (by omega)];done)|(rw[aaF (by omega),aaK (by omega)];done)|(rw[aaF (by omega),aaF (by omega)];done))
 ·intro i u x r dp hx b8 aI;by_cases hi:i<b.ts.length
  ·obtain⟨y,hy⟩:∃y,b.ts[i]? =some y:=⟨_,aaI hi⟩;rw[drop_at hy,mS]at aI;refine s1 hW 2 6 [] 15 [(13,bo (ax (Int.ofNat i) (Int.ofNat (a.ts.map Cf.aa).length)))] ?_;have jL:(ax (Int.ofNat i) (Int.ofNat (a.ts.map Cf.aa).length))=true:=kX;rw[jL];refine cP hW 2 0 [] 15 [(19,bo (ax (Int.ofNat i) (Int.ofNat (b.ts.map Cf.aa).length)))] (gi i (b.ts.map Cf.aa).length) ?_;refine s1 hW 5 0 [] 15 [] ?_;refine CG.c_ aV k_ ?_;refine AW.rk 3 [(22,.ptr 0 2 1),(23,lo Cf.aa a.ts),(24,no i)] [] k_ ?_;refine AW.idx (al (aa:=Cf.aa) hx) rfl k_ k_ k_ rfl ?_;refine AW.rk 4 [(26,.agg [so x.var,io x.c]),(27,.ptr 1 2 1),(28,lo Cf.aa b.ts),(29,no i)] [] k_ ?_;refine AW.idx (al (aa:=Cf.aa) hy) rfl k_ k_ k_ rfl ?_;refine AW.rk 5 [(6,.ptr 12 2 0),(7,.ptr 13 2 0),(31,.agg [so y.var,io y.c])] [(12,.cells [so x.var,io x.c]),(13,.cells [so y.var,io y.c])] k_ ?_;refine AW.nil rfl ⟨k_,AW.fin 14 [2,3,4,5,6,7] k_ rfl k_ rfl k_ ?_⟩;refine s1 hW 3 6 [] 63 [(38,bo (bytesLess x.var y.var))] ?_;refine sp (bytesLess x.var y.var) (fun nH=>?_ ) (fun nH=>?_ );rw[nH];refine s1 hW 6 0 [true] 11 [(4,io (-1))] ?_;refine CG.fX (io (-1)) ?_;rotate_left;rw[nH];refine s1 hW 0 6 [] 127 [(44,bo (ai x.var y.var))] ?_;refine sp (ai x.var y.var) (fun jM=>?_ ) (fun jM=>?_ );rw[jM];refine s1 hW 2 0 [] 63 [(32,bo (ax x.c y.c))] ?_;refine fk x.c y.c (fun pW T_=>?_ ) (fun pW T_=>?_ );refine CG.aM pW k_ ?_;refine s1 hW 3 0 [] 11 [(4,io (-1))] ?_;refine CG.fX (io (-1)) ?_;rotate_left;refine CG.aN pW k_ ?_;refine s1 hW 1 2 [] 15 [(53,.agg [so x.var,io x.c]),(54,.agg [so y.var,io y.c])] ?_;rotate_left;rw[jM];refine s1 hW 4 2 [false] 15 [(53,.agg [so x.var,io x.c]),(54,.agg [so y.var,io y.c])] ?_;rotate_left
   ·rw[tZ,aI,aaK (.inl (by assumption))]
   ·rw[tZ,aI,aaK (.inr ⟨by assumption,by omega⟩)]
   ·have Y':¬(bytesLess x.var y.var=true\/ai x.var y.var=true/\x.c<y.c):=by
     rintro(h|⟨_,h⟩)
     ·rw[show bytesLess x.var y.var=false by assumption]at h;cases h
     ·omega
    rw[aaF Y']at aI;refine CG.Dx (xs:=[so x.var,io x.c]) (ys:=[so y.var,io y.c]) (r:=(ja x y)) rfl k_ (vU x y) ?_;cases hc:ja x y with
     |true=>rw[hc,aaF (by simp)]at aI;refine cG hW 7 3 [false] [(2,.ptr 0 2 0),(3,.ptr 1 2 0),(4,i0),(5,io (aq IntKind.i64 (aJ (Int.ofNat i) 1)))] ([some (.cells a.ce),some (.cells b.ce)]++nn 10 ([some (.cells [so x.var,io x.c]),some (.cells [so y.var,io y.c])])) ?_;rw[aP (by omega)];rotate_left;exact⟨(),aI,an.trim 2 [2,3,4,5] rfl rfl rfl rfl rfl⟩
     |false=>rw[hc,aaK rfl]at aI;refine s1 hW 6 0 [true] 11 [(4,io 1)] ?_;refine CG.fX (io 1) ?_;rotate_left;rw[tZ,aI]
   ·have hc:ja x y=false:=by rw[ja,show ai x.var y.var=false by assumption];rfl
    rw[hc,aaF (by rw[show bytesLess x.var y.var=false by assumption,show ai x.var y.var=false by assumption];simp),aaK rfl]at aI;refine CG.Dx (xs:=[so x.var,io x.c]) (ys:=[so y.var,io y.c]) (r:=(ja x y)) rfl k_ (vU x y) ?_;refine s1 hW 2 0 [] 15 [(52,bo (!ja x y))] ?_;refine CG.aM (b:=(!ja x y)) (by rw[hc];rfl) k_ ?_;refine s1 hW 3 0 [] 11 [(4,io 1)] ?_;refine CG.fX (io 1) ?_;rotate_left;rw[tZ,aI]
  ·have hn:mS a.ts b.ts=none:=by rw[aI,acG (by omega)];simp[mS]
   refine s1 hW 2 6 [] 15 [(13,bo (ax (Int.ofNat i) (Int.ofNat (a.ts.map Cf.aa).length)))] ?_;have i_:(ax (Int.ofNat i) (Int.ofNat (a.ts.map Cf.aa).length))=true:=kX;rw[i_];refine dk hW 2 0 [] 15 [(19,bo (ax (Int.ofNat i) (Int.ofNat (b.ts.map Cf.aa).length)))] (jx i (b.ts.map Cf.aa).length) ?_;refine CG.aS (by decide) ?_;refine s1 hW 5 8 [] 7 [(64,bo (ax (Int.ofNat (a.ts.map Cf.aa).length) (Int.ofNat (b.ts.map Cf.aa).length)))] ?_;have jL:(ax (Int.ofNat (a.ts.map Cf.aa).length) (Int.ofNat (b.ts.map Cf.aa).length))=false:=kO;rw[jL];refine s1 hW 0 8 [] 15 [(72,bo (aQ (Int.ofNat (a.ts.map Cf.aa).length) (Int.ofNat (b.ts.map Cf.aa).length)))] ?_;have nH:(aQ (Int.ofNat (a.ts.map Cf.aa).length) (Int.ofNat (b.ts.map Cf.aa).length))=false:=qi;rw[nH];refine s1 hW 4 8 [false] 7 [(88,bo (ax (Int.ofNat (b.ts.map Cf.aa).length) (Int.ofNat (a.ts.map Cf.aa).length)))] ?_;have jM:(ax (Int.ofNat (b.ts.map Cf.aa).length) (Int.ofNat (a.ts.map Cf.aa).length))=true:=kX;rw[jM];refine s1 hW 6 0 [true] 0 [(4,io 1)] ?_;refine CG.rt (io 1) ?_;rotate_left;all_goals (rw[tZ,hn];simp only;first|(rw[aaK (by omega)];done)|(rw[aaF (by omega),aaK (by omega)];done)|(rw[aaF (by omega),aaF (by omega)];done))
theorem Lt(hW:W0 W)(a b:ae)(ha:a.ts.length<1099511627776)(hb:b.ts.length<1099511627776):PC P (gl W) 56 [vL a,vL b] (.d (.bool (fO a b))):=by refine CG.start Yl Ym rfl ?_;refine s4 hW 4 2 [] 0 [(4,bF),(5,.agg a.ce),(6,.agg b.ce)] [(0,.cells a.ce),(1,.cells b.ce)] ?_;refine CG.pg (Oo hW a b ha hb) rfl k_ ?_;refine s1 hW 2 0 [] 0 [(4,bo (aQ (tZ a b) 0))] ?_;refine CG.rt (bo (aQ (tZ a b) 0)) ?_;rotate_left;rw[←Ls,nv,V.d.injEq,D.bool.injEq,abh];simp
def MH(l:List ae):Prop:=l.length<1099511627776/\∀x∈l,x.ts.length<1099511627776
theorem Oq(hW:W0 W)(a b:List Cf)(ha:a.length<1099511627776):PC P (gl W) 249 [.d (.list (a.map Cf.aa)),.d (.list (b.map Cf.aa))] (.d (.bool (tY ja a b))):=by
 refine CG.start TU TV rfl ?_;refine s1 hW 7 0 [] 3 [(4,bF),(10,bo (!aQ (Int.ofNat (a.map Cf.aa).length) (Int.ofNat (b.map Cf.aa).length)))] ?_;refine pq (a.map Cf.aa).length (b.map Cf.aa).length (fun q7 p7=>?_ ) (fun q7 p7=>?_ )<;>simp only[zz]at p7;refine CG.aN (b:=(!aQ (Int.ofNat (a.map Cf.aa).length) (Int.ofNat (b.map Cf.aa).length))) (by rw[q7];rfl) k_ ?_;refine s1 hW 7 0 [] 7 [(12,no (a.map Cf.aa).length),(13,i0)] ?_;rotate_left;refine CG.aM (b:=(!aQ (Int.ofNat (a.map Cf.aa).length) (Int.ofNat (b.map Cf.aa).length))) (by rw[q7];rfl) k_ ?_;refine s1 hW 3 0 [] 7 [] ?_;refine CG.rt (bF) ?_;rotate_left
 ·refine CG.bp a (fun i u=>[(0,lo Cf.aa a),(1,lo Cf.aa b),(4,bF),(12,no (a.map Cf.aa).length),(13,.d (.int .i64 (.ofNat i)))]) (fun i u=>[]) (fun i u r=>(tY ja a b=tY ja r (b.drop i))) () ?_ (an.refl _ _) ?_ ?_
  ·rfl
  ·intro i u hi hd aI;rw[acG (by omega),tY]at aI;refine dk hW 4 0 [] 23 [(14,bo (ax (Int.ofNat i) (Int.ofNat (a.map Cf.aa).length)))] (jx i (a.map Cf.aa).length) ?_;refine CG.aS (by decide) ?_;refine s1 hW 5 0 [] 0 [(4,bT)] ?_;refine CG.rt (bT) ?_;rotate_left;rw[aI]
  ·intro i u x r dp hx b8 aI;obtain⟨y,hy⟩:∃y,b[i]? =some y:=⟨_,aaI (by omega)⟩;rw[drop_at hy,tY]at aI;refine cP hW 4 0 [] 31 [(14,bo (ax (Int.ofNat i) (Int.ofNat (a.map Cf.aa).length)))] (gi i (a.map Cf.aa).length) ?_;refine s1 hW 8 0 [] 31 [(5,no i)] ?_;refine CG.eF aV k_ k_ ?_;refine AO.rd 2 [(16,lo Cf.aa a),(17,no i)] k_ ?_;refine AO.idx (al (aa:=Cf.aa) hx) rfl k_ k_ k_ rfl ?_;refine AO.rd 3 [(19,.agg [so x.var,io x.c]),(20,lo Cf.aa b),(21,no i)] k_ ?_;refine AO.idx (al (aa:=Cf.aa) hy) rfl k_ k_ k_ rfl ?_;refine AO.rd 1 [(23,.agg [so y.var,io y.c])] k_ ?_;rotate_left;refine AO.Dx (xs:=[so x.var,io x.c]) (ys:=[so y.var,io y.c]) (r:=(ja x y)) rfl k_ (vU x y) ?_;refine AO.done [0,1,4,12,13,24] rfl rfl k_ ?_;refine s1 hW 1 0 [] 63 [] ?_;refine sp (ja x y) (fun jL=>?_ ) (fun jL=>?_ );refine CG.aN (b:=(!ja x y)) (by rw[jL];rfl) k_ ?_;refine cG hW 3 2 [] [(0,lo Cf.aa a),(1,lo Cf.aa b),(4,bF),(12,no (a.map Cf.aa).length),(13,io (aq IntKind.i64 (aJ (Int.ofNat i) 1)))] ([]) ?_;rw[aP (by omega)];rotate_left;refine CG.aM (b:=(!ja x y)) (by rw[jL];rfl) k_ ?_;refine s1 hW 3 0 [] 31 [] ?_;refine CG.fX (bF) ?_;rotate_left
   ·exact⟨(),by rw[aI,show ja x y=true by assumption];rfl,an.refl _ _⟩
   ·rw[aI,show ja x y=false by assumption];rfl
 ·rw[yX (by omega)]
theorem Lu(hW:W0 W)(a b:ae)(ha:a.ts.length<1099511627776):PC P (gl W) 180 [vL a,vL b] (.d (.bool (fO a b))):=by
 refine CG.start S' S_ rfl ?_;refine s4 hW 4 6 [] 0 [(2,.ptr 0 2 0),(3,.ptr 1 2 0),(4,bF),(10,bo (aQ a.c b.c))] [(0,.cells a.ce),(1,.cells b.ce)] ?_;refine iW a.c b.c (fun q7 p7=>?_ ) (fun q7 p7=>?_ );rw[q7];refine bh hW 0 4 [] 12 [(12,lo Cf.aa a.ts),(14,lo Cf.aa b.ts)] (Oq hW a.ts b.ts ha) ?_;refine s1 hW 2 0 [] 0 [(4,bo (tY ja a.ts b.ts))] ?_;refine CG.rt (bo (tY ja a.ts b.ts)) ?_;rotate_left;rw[q7];refine s1 hW 2 0 [] 4 [] ?_;refine CG.rt (bF) ?_;rotate_left
 ·rw[fO,aa0 (by omega),abd]
 ·rw[fO,aaS (by omega),abX]
theorem Lv(hW:W0 W)(a b:List ae)(ha:MH a):PC P (gl W) 179 [.d (.list (a.map ae.aa)),.d (.list (b.map ae.aa)),.func 180 [] []] (.d (.bool (tY fO a b))):=by
 have hla:=ha.1;refine CG.start S8 S9 rfl ?_;refine s1 hW 7 0 [] 7 [(6,bF),(14,bo (!aQ (Int.ofNat (a.map ae.aa).length) (Int.ofNat (b.map ae.aa).length)))] ?_;refine pq (a.map ae.aa).length (b.map ae.aa).length (fun q8 p8=>?_ ) (fun q8 p8=>?_ )<;>simp only[zz]at p8;refine CG.aN (b:=(!aQ (Int.ofNat (a.map ae.aa).length) (Int.ofNat (b.map ae.aa).length))) (by rw[q8];rfl) k_ ?_;refine s1 hW 7 0 [] 14 [(15,lo ae.aa a),(16,no (a.map ae.aa).length),(17,i0)] ?_;rotate_left;refine CG.aM (b:=(!aQ (Int.ofNat (a.map ae.aa).length) (Int.ofNat (b.map ae.aa).length))) (by rw[q8];rfl) k_ ?_;refine s1 hW 3 0 [] 15 [] ?_;refine CG.rt (bF) ?_;rotate_left
 ·refine CG.bp a (fun i u=>[(1,lo ae.aa b),(2,.func 180 [] []),(6,bF),(15,lo ae.aa a),(16,no (a.map ae.aa).length),(17,.d (.int .i64 (.ofNat i)))]) (fun i u=>[]) (fun i u r=>(tY fO a b=tY fO r (b.drop i))) () ?_ (an.refl _ _) ?_ ?_
  ·rfl
  ·intro i u hi hd aI;rw[acG (by omega),tY]at aI;refine dk hW 4 0 [] 47 [(18,bo (ax (Int.ofNat i) (Int.ofNat (a.map ae.aa).length)))] (jx i (a.map ae.aa).length) ?_;refine CG.aS (by decide) ?_;refine s1 hW 5 0 [] 0 [(6,bT)] ?_;refine CG.rt (bT) ?_;rotate_left;rw[aI]
  ·intro i u x r dp hx b8 aI;obtain⟨y,hy⟩:∃y,b[i]? =some y:=⟨_,aaI (by omega)⟩;have E9:=ha.2 x (aaH hx);rw[drop_at hy,tY]at aI;refine cP hW 4 0 [] 63 [(18,bo (ax (Int.ofNat i) (Int.ofNat (a.map ae.aa).length)))] (gi i (a.map ae.aa).length) ?_;refine s1 hW 5 1 [] 63 [(19,no i)] ?_;refine CG.ix (al (aa:=ae.aa) hx) rfl k_ ?_;refine s4 hW 3 2 [] 63 [(8,.ptr 0 2 0),(22,lo ae.aa b),(23,no i)] [(0,.cells x.ce)] ?_;refine CG.ix (al (aa:=ae.aa) hy) rfl k_ ?_;refine s4 hW 3 3 [] 119 [(26,.func 180 [] []),(27,.agg x.ce),(28,.agg y.ce)] [(1,.cells y.ce)] ?_;refine CG.QZ (first:=[]) (cap:=[]) (Lu hW x y E9) rfl k_ k_ k_ rfl ?_;refine s1 hW 2 0 [] 63 [(30,bo (!fO x y))] ?_;refine sp (fO x y) (fun jM=>?_ ) (fun jM=>?_ );refine CG.aN (b:=(!fO x y)) (by rw[jM];rfl) k_ ?_;refine cG hW 3 2 [] [(1,lo ae.aa b),(2,.func 180 [] []),(6,bF),(15,lo ae.aa a),(16,no (a.map ae.aa).length),(17,io (aq IntKind.i64 (aJ (Int.ofNat i) 1)))] ([some (.cells x.ce),some (.cells y.ce)]) ?_;rw[aP (by omega)];rotate_left;refine CG.aM (b:=(!fO x y)) (by rw[jM];rfl) k_ ?_;refine s1 hW 3 0 [] 63 [] ?_;refine CG.fX (bF) ?_;rotate_left
   ·exact⟨(),by rw[aI,show fO x y=true by assumption];rfl,an.trim 0 [1,2,6,15,16,17] rfl rfl rfl rfl rfl⟩
   ·rw[aI,show fO x y=false by assumption];rfl
 ·rw[yX (by omega)]
theorem Uf(hW:W0 W)(r1 r2:List UInt8)(d1 d2:List ae)(h1:MH d1):PC P (gl W) 123 [vS r1 d1,vS r2 d2] (.d (.bool (sG r1 d1 r2 d2))):=by
 refine CG.start R9 R_ rfl ?_;refine s4 hW 4 6 [] 0 [(2,.ptr 0 2 0),(3,.ptr 1 2 0),(4,bF),(10,bo (ai r1 r2))] [(0,.cells [so r1,lo ae.aa d1]),(1,.cells [so r2,lo ae.aa d2])] ?_;refine sp (ai r1 r2) (fun q8=>?_ ) (fun q8=>?_ );rw[q8];refine bh hW 0 4 [] 12 [(12,lo ae.aa d1),(14,lo ae.aa d2)] (Lv hW d1 d2 h1) ?_;refine s1 hW 2 0 [] 0 [(4,bo (tY fO d1 d2))] ?_;refine CG.rt (bo (tY fO d1 d2)) ?_;rotate_left;rw[q8];refine s1 hW 2 0 [] 4 [] ?_;refine CG.rt (bF) ?_;rotate_left
 ·rw[sG,show ai r1 r2=true by assumption,abd]
 ·rw[sG,show ai r1 r2=false by assumption,abX]
theorem Ot(hW:W0 W)(a b:Ty)(h1:MH a.ab):PC P (gl W) 68 [vT a,vT b] (.d (.bool (Bc a b))):=by
 refine CG.start YD YE rfl ?_;refine s4 hW 4 6 [] 0 [(2,.ptr 0 3 0),(3,.ptr 1 3 0),(4,bF),(10,bo (ai a.elem b.elem))] [(0,.cells a.ce),(1,.cells b.ce)] ?_;refine sp (ai a.elem b.elem) (fun q6=>?_ ) (fun q6=>?_ );rw[q6];refine bh hW 0 4 [] 12 [(12,.agg [so a.row,lo ae.aa a.ab]),(14,.agg [so b.row,lo ae.aa b.ab])] (Uf hW a.row b.row a.ab b.ab h1) ?_;refine s1 hW 2 0 [] 0 [(4,bo (sG a.row a.ab b.row b.ab))] ?_;refine CG.rt (bo (sG a.row a.ab b.row b.ab)) ?_;rotate_left;rw[q6];refine s1 hW 2 0 [] 4 [] ?_;refine CG.rt (bF) ?_;rotate_left
 ·rw[Bc,show ai a.elem b.elem=true by assumption,abd]
 ·rw[Bc,show ai a.elem b.elem=false by assumption,abX]
end Fw.Tz.Ew
