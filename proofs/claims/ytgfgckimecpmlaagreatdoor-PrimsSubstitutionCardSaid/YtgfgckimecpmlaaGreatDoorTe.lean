/-
  Sums of terms: a map's content and a sorted list.
-/
import Derived.Test.YtgfgckimecpmlaaGreatDoorTb
import Derived.Test.YtgfgckimecpmlaaGreatDoorFh
import Derived.Lib.AtoiAll
import Derived.Lib.ItoaNum
import Derived.Test.YtgfgckimecpmlaaGreatDoorTc
import Derived.Test.YtgfgckimecpmlaaGreatDoorFg
import Derived.Test.YtgfgckimecpmlaaGreatDoorTd
set_option linter.unusedSimpArgs false
set_option linter.unusedVariables false
set_option maxRecDepth 1000000
set_option maxHeartbeats 4000000
namespace Fw.Tz.Su
open Go Go.Proofs Fw.X Fw.Tz
def fU:Es→List UInt8→Int→Es|[],k,c=>[(k,c)]|e::r,k,c=>if e.1==k then(k,e.2+c)::r else e::fU r k c
def gN:Es→List UInt8→Int→Es|[],k,c=>if c=0 then[]else[(k,c)]|e::r,k,c=>if e.1=k then(if e.2+c=0 then r else(k,e.2+c)::r)else if k<e.1 then(if c=0 then e::r else(k,c)::e::r)else e::gN r k c
def yl(l:Es):Prop:=l.Pairwise fun a b=>a.1<b.1
def Nz(l:Es):Prop:=∀e∈l,e.2≠0
def Nd(l:Es):Prop:=(l.map (·.1)).Nodup
theorem pB(x:List UInt8):bm [] x=0:=rfl
theorem ck(e:List UInt8×Int)(l:Es)(x:List UInt8):bm (e::l) x=if e.1=x then e.2 else bm l x:=by
 by_cases h:e.1=x
 ·simp[bm,h]
 ·have h2:(e.1==x)=false:=by simp[h]
  simp[bm,h,acT,h2]
theorem zR{l:Es}{x:List UInt8}(h:∀e∈l,e.1≠x):bm l x=0:=by
 induction l with
  |nil=>rfl
  |cons e l ih=>rw[ck,aal (h e (by simp)),ih fun a ha=>h a (by simp[ha])]
theorem vN(l:Es)(k:List UInt8)(c:Int)(x:List UInt8):bm (fU l k c) x=bm l x+if k=x then c else 0:=by
 induction l with
  |nil=>simp only[fU,ck,pB];split<;>omega
  |cons e l ih=>
   simp only[fU];by_cases h:e.1=k
   ·rw[aan (by simp[h]),ck,ck];subst h;dsimp only;split<;>omega
   ·rw[aal (by simp[h]),ck,ck,ih];by_cases h2:e.1=x
    ·rw[aan h2,aan h2,aal (fun h3=>h (h2.trans h3.symm))];omega
    ·rw[aal h2,aal h2]
theorem Ea(l:Es)(k:List UInt8)(c:Int):∀x∈(fU l k c).map (·.1),x=k∨x∈l.map (·.1):=by
 induction l with
  |nil=>simp[fU]
  |cons e l ih=>
   simp only[fU];intro x hx;split at hx
   ·simp only[aax,aaH]at hx⊢;rcases hx with h|h
    ·exact Or.inl h
    ·exact Or.inr (Or.inr h)
   ·simp only[aax,aaH]at hx⊢;rcases hx with h|h
    ·exact Or.inr (Or.inl h)
    ·rcases ih x h with h|h
     ·exact Or.inl h
     ·exact Or.inr (Or.inr h)
theorem Kt{l:Es}(h:Nd l)(k:List UInt8)(c:Int):Nd (fU l k c):=by
 induction l with
  |nil=>simp[fU,Nd]
  |cons e l ih=>
   simp only[Nd,aax,acb]at h;simp only[fU];split
   ·rename_i h2;have h3:e.1=k:=by simpa using h2
    simp only[Nd,aax,acb];rw[←h3];exact h
   ·rename_i h2;have h3:e.1≠k:=by simpa using h2
    simp only[Nd,aax,acb];refine⟨fun hm=>?_,ih h.2⟩;rcases Ea l k c _ hm with h4|h4
    ·exact h3 h4
    ·exact h.1 h4
theorem Eb(l:Es)(k:List UInt8)(c:Int):∀x∈gN l k c,x.1=k∨x∈l:=by
 induction l with
  |nil=>intro x hx;simp only[gN]at hx;split at hx<;>simp_all
  |cons e l ih=>
   intro x hx;simp only[gN]at hx;split at hx
   ·split at hx
    ·exact Or.inr (by simp[hx])
    ·rcases aaH.1 hx with h|h
     ·exact Or.inl (by rw[h])
     ·exact Or.inr (by simp[h])
   ·split at hx
    ·split at hx
     ·exact Or.inr hx
     ·rcases aaH.1 hx with h|h
      ·exact Or.inl (by rw[h])
      ·exact Or.inr h
    ·rcases aaH.1 hx with h|h
     ·exact Or.inr (by simp[h])
     ·rcases ih x h with h|h
      ·exact Or.inl h
      ·exact Or.inr (by simp[h])
theorem pC{l:Es}(h:yl l)(k:List UInt8)(c:Int):yl (gN l k c):=by
 induction l with
  |nil=>simp only[gN];split<;>simp[yl]
  |cons e l ih=>
   have h0:=h;simp only[yl,abn]at h;simp only[gN];split
   ·rename_i h1;split
    ·exact h.2
    ·exact abn.2 ⟨fun b hb=>by have:=h.1 b hb;rw[h1]at this;exact this,h.2⟩
   ·rename_i h1;split
    ·rename_i h2;split
     ·exact h0
     ·refine abn.2 ⟨fun b hb=>?_,h0⟩;rcases aaH.1 hb with h3|h3
      ·rw[h3];exact h2
      ·exact ac3 h2 (h.1 b h3)
    ·rename_i h2;refine abn.2 ⟨fun b hb=>?_,ih h.2⟩;rcases Eb l k c b hb with h3|h3
     ·rw[h3];exact Decidable.byContradiction fun h4=>h1 (ab3 (acX.1 h2) (acX.1 h4))
     ·exact h.1 b h3
theorem sn{l:Es}(h:Nz l)(k:List UInt8)(c:Int):Nz (gN l k c):=by
 induction l with
  |nil=>intro x hx;simp only[gN]at hx;split at hx<;>simp_all
  |cons e l ih=>
   have h1:Nz l:=fun x hx=>h x (by simp[hx])
   have h2:=h e (by simp);intro x hx;simp only[gN]at hx;split at hx
   ·split at hx
    ·exact h1 x hx
    ·rcases aaH.1 hx with h|h
     ·rw[h];assumption
     ·exact h1 x h
   ·split at hx
    ·split at hx
     ·exact h x hx
     ·rcases aaH.1 hx with h3|h3
      ·rw[h3];assumption
      ·exact h x h3
    ·rcases aaH.1 hx with h3|h3
     ·rw[h3];exact h2
     ·exact ih h1 x h3
theorem Ec{l:Es}(h:yl l)(k:List UInt8)(c:Int)(x:List UInt8):bm (gN l k c) x=bm l x+if k=x then c else 0:=by
 induction l with
  |nil=>
   simp only[gN];split
   ·rename_i h1;rw[pB,h1];split<;>rfl
   ·simp only[ck,pB];split<;>omega
  |cons e l ih=>
   simp only[yl,abn]at h;have bL:∀{y:List UInt8},y<e.1∨y=e.1→∀b∈l,b.1≠y:=fun hy b hb he=>by
    have h5:=h.1 b hb;rw[he]at h5;rcases hy with hy|hy
    ·exact abA _ (ac3 hy h5)
    ·rw[hy]at h5;exact abA _ h5
   simp only[gN];split
   ·rename_i h1;by_cases hx:k=x
    ·have h0:bm l x=0:=zR (bL (Or.inr (by rw[←hx,h1])));rw[aan hx,ck,aan (h1.trans hx)];split
     ·rw[h0];omega
     ·rw[ck,aan hx]
    ·rw[aal hx,ck,aal (fun h4=>hx (h1.symm.trans h4))];split
     ·omega
     ·rw[ck,aal hx];omega
   ·rename_i h1;split
    ·rename_i h2;split
     ·rename_i h3;rw[h3];split<;>omega
     ·rw[ck];by_cases hx:k=x
      ·rw[aan hx,aan hx,ck,aal (fun h4=>h1 (h4.trans hx.symm)),zR (bL (Or.inl (hx▸h2)))];omega
      ·rw[aal hx,aal hx];omega
    ·rw[ck,ck,ih h.2];by_cases hx:e.1=x
     ·rw[aan hx,aan hx,aal (fun h4=>h1 (hx.trans h4.symm))];omega
     ·rw[aal hx,aal hx]
theorem BD{l:Es}(h:yl l):Nd l:=by refine List.Pairwise.map _ (fun a b T0=>?_ ) h;intro he;rw[he]at T0;exact abA _ T0
theorem zS{l:Es}(h:Nd l):∀e∈l,bm l e.1=e.2:=by
 induction l with
  |nil=>intro e he;cases he
  |cons a l ih=>
   simp only[Nd,aax,acb]at h;intro e he;rw[ck];rcases aaH.1 he with h1|h1
   ·rw[h1,aan rfl]
   ·rw[aal (fun h2:a.1=e.1=>h.1 (by rw[h2];exact List.mem_map_of_mem h1)),ih h.2 e h1]
theorem Ku{l:Es}{x:List UInt8}(h:bm l x≠0):∃e∈l,e.1=x∧e.2=bm l x:=by
 induction l with
  |nil=>exact absurd rfl h
  |cons a l ih=>
   rw[ck]at h⊢;by_cases h1:a.1=x
   ·rw[aan h1];exact⟨a,by simp,h1,rfl⟩
   ·rw[aal h1]at h⊢;obtain⟨e,k1,k2,k3⟩:=ih h;exact⟨e,by simp[k1],k2,k3⟩
theorem zT{l:Es}(h:Nd l)(x:List UInt8):x∈bY l↔bm l x≠0:=by
 simp only[bY,aaG,aay,aam];constructor
 ·rintro⟨e,⟨h1,h2⟩,rfl⟩;rw[zS h e h1];exact h2
 ·intro h1;obtain⟨e,k1,k2,k3⟩:=Ku h1;exact⟨e,⟨k1,by rw[k3];exact h1⟩,k2⟩
theorem Kv{l:Es}(h:Nz l):bY l=l.map (·.1):=by rw[bY,abP.2 fun e he=>by simpa using h e he]
theorem C0{l:Es}(h:Nd l):(bY l).Nodup:=List.Nodup.sublist (List.Sublist.map _ List.filter_sublist) h
theorem N1{es ts:Es}(h1:Nd es)(h2:yl ts)(h3:Nz ts)(h4:∀x,bm es x=bm ts x):ba es=ts:=by
 have hp:(bY es).Perm (ts.map (·.1)):=by
  rw[←Kv h3];refine(List.perm_ext_iff_of_nodup (C0 h1) (C0 (BD h2))).2 fun x=>?_
  rw[zT h1,zT (BD h2),h4]
 have hs:du (bY es)=ts.map (·.1):=by
  have Ph:∀(x y:List UInt8),(decide (x≤y)||decide (y≤x))=true:=fun x y=>by rcases ac1 x y with h|h<;>simp[h]
  have Pj:∀(x y z:List UInt8),decide (x≤y)=true→decide (y≤z)=true→decide (x≤z)=true:=fun x y z h1 h2=>by simp only[aam]at*;exact ac2 h1 h2
  refine acC (le:=fun x y=>decide (x≤y)=true) (fun x y _ _ k1 k2=>?_ ) (ab7 Pj Ph _) ?_ ((ab6 _ _).trans hp)
  ·simp only[aam]at k1 k2;exact ab3 k1 k2
  ·refine List.Pairwise.map _ (fun a b T0=>?_ ) h2;simp only[aam];exact List.le_of_lt T0
 rw[ba,hs,List.map_map];refine(List.map_congr_left fun e he=>?_ ).trans (List.map_id _);simp only[Function.comp,id,h4];rw[zS (BD h2) e he]
def kQ(ops:Es)(es:Es):Es:=ops.foldl (fun l o=>fU l o.1 o.2) es
def pD(ops:Es)(ts:Es):Es:=ops.foldl (fun l o=>gN l o.1 o.2) ts
theorem Kw(ops:Es):∀{es ts:Es},Nd es→yl ts→Nz ts→(∀x,bm es x=bm ts x)→ba (kQ ops es)=pD ops ts:=by
 induction ops with
  |nil=>intro es ts h1 h2 h3 h4;exact N1 h1 h2 h3 h4
  |cons o ops ih=>intro es ts h1 h2 h3 h4;exact ih (Kt h1 _ _) (pC h2 _ _) (sn h3 _ _) fun x=>by rw[vN,Ec h2,h4]
theorem N2(ops:Es):ba (kQ ops [])=pD ops []:=Kw ops (by simp[Nd]) (by simp[yl]) (by simp[Nz]) fun _=>rfl
def rN(k:List UInt8)(c:Int):Bool→Es→Es|true,[]=>[]|false,[]=>[(k,c)]|true,e::r=>(if e.1=k then(e.1,e.2+c)else e)::rN k c true r|false,e::r=>if k<e.1 then(k,c)::e::rN k c true r else if e.1=k then(e.1,e.2+c)::rN k c true r else e::rN k c false r
def LS(l:Es):Es:=l.filter fun e=>decide (e.2≠0)
theorem vO{k:List UInt8}{c:Int}{l:Es}(h:∀e∈l,e.1≠k):rN k c true l=l:=by
 induction l with
  |nil=>rfl
  |cons e l ih=>rw[rN,aal (h e (by simp)),ih fun a ha=>h a (by simp[ha])]
theorem HK{l:Es}(h:Nz l):LS l=l:=abP.2 fun e he=>by simpa using h e he
theorem pE(e:List UInt8×Int)(l:Es):LS (e::l)=if e.2=0 then LS l else e::LS l:=by by_cases h:e.2=0<;>simp[LS,h]
theorem Ed{k:List UInt8}{c:Int}{l:Es}(h:yl l)(hz:Nz l):LS (rN k c false l)=gN l k c:=by
 induction l with
  |nil=>rw[rN,pE,gN];rfl
  |cons e l ih=>
   have OG:Nz l:=fun x hx=>hz x (by simp[hx])
   have Jg:=hz e (by simp);simp only[yl,abn]at h;have bL:∀{y:List UInt8},y<e.1∨y=e.1→∀b∈l,b.1≠y:=fun hy b hb he=>by
    have h5:=h.1 b hb;rw[he]at h5;rcases hy with hy|hy
    ·exact abA _ (ac3 hy h5)
    ·rw[hy]at h5;exact abA _ h5
   rw[rN,gN];by_cases h1:e.1=k
   ·rw[aal (by rw[h1];exact abA _),aan h1,aan h1,vO (bL (Or.inr h1.symm)),pE,HK OG,h1]
   ·rw[aal h1,aal h1];by_cases h2:k<e.1
    ·rw[aan h2,aan h2,vO (bL (Or.inl h2)),pE,HK hz]
    ·rw[aal h2,aal h2,pE,aal Jg,ih h.2 OG]
end Fw.Tz.Su
/-
  Maps of numbers at open keys: looked up and written.
-/
namespace Fw.Tz.Su
open Go Go.Proofs Fw.X Fw.Tz
def qH:Es→List UInt8→Int→Es|[],k,c=>[(k,c)]|e::r,k,c=>if e.1==k then(k,c)::r else e::qH r k c
theorem qI(k:List UInt8)(c:Int):∀(es:Es),qH es k (bm es k+c)=fU es k c
 |[]=>by simp[qH,fU,pB]
 |e::r=>by
  rw[qH,fU,ck];by_cases h:e.1=k
  ·simp[h]
  ·simp[h,qI k c r]
theorem vP(k:List UInt8)(c:Int):∀(es:Es)(j:Nat),∃r,kz (.str k) (cX es) j=some r∧match r with
  |some (i,_)=>j≤i∧(cX es).set (i - j) (.str k,.d (.int .i64 c))=cX (qH es k c)
  |none=>cX es++[(.str k,.d (.int .i64 c))]=cX (qH es k c)
 |[],j=>⟨none,rfl,rfl⟩
 |(a,x)::es,j=>by
  simp only[cX,aax,kz,yd];rw[Fw.cS];by_cases h:k=a
  ·subst h;simp only[beq_self_eq_true];exact⟨_,rfl,by simp[qH]⟩
  ·have e1:(k==a)=false:=by simpa using h
   have e2:(a==k)=false:=by simpa using ack h
   rw[e1];obtain⟨r,h1,h2⟩:=vP k c es (j+1);refine⟨r,h1,?_⟩;cases r with
    |none=>simp only[cX,qH,e2,abo,aax,aa8,abt]at h2⊢;rw[h2]
    |some p=>obtain⟨i,v⟩:=p;simp only[cX,qH,e2,aax,aa8,abt]at h2⊢;refine⟨by omega,?_ ⟩;rw[show i - j=(i - (j+1))+1 by omega,abR,h2.2]
section
variable {P:Program}{GL:ca}
theorem zU{GL:ca}{tm:List (Nat×V)}{H:ah}{m k:a_}{z:V}{b ns:Nat}{es:Es}{s:List UInt8}(h2:aU GL tm m=.map b)(h3:aA H b=some (.map (cX es)))(h4:aU GL tm k=.d (.str s))(hz:z=.d (.int .i64 0)):bu (aU GL tm) H ns (.lookup .str z false m k)=some (.d (.int .i64 (bm es s)),none):=by
 subst hz;have hl:=rj s es;simp only[bu,h2,h4,eM,lS,h3,aag];split at hl
 ·rename_i v hm;rw[hm];simpa using hl
 ·rename_i hm;rw[hm];simpa using hl
 ·cases hl
theorem C1{GL:ca}{tm:List (Nat×V)}{H:ah}{m k x:a_}{b ns:Nat}{es:Es}{s:List UInt8}{c:Int}(h2:aU GL tm m=.map b)(h3:aA H b=some (.map (cX es)))(h4:aU GL tm k=.d (.str s))(h5:aU GL tm x=.d (.int .i64 c)):bu (aU GL tm) H ns (.fX .str m k x)=some (.any,some (b,.map (cX (qH es s c)))):=by
 obtain⟨r,k1,k2⟩:=vP s c es 0;simp only[bu,h2,h4,h5,eM,h3,aag,k1];cases r with
  |none=>simp only at k2⊢;rw[k2]
  |some p=>obtain⟨i,v⟩:=p;simp only[abS]at k2⊢;rw[k2.2]
theorem SD{d:Nat}{z:V}{m k:a_}{g:Option (Nat×Bool)}{af:List Nat}{l:List ad}{K:List Fr}{n:Nat}{tm:List (Nat×V)}{H:ah}{Q:Ex→St→Prop}(b:Nat)(es:Es)(s:List UInt8)(ho:l.head?=some ⟨some d,.lookup .str z false m k,g,af⟩)(hc:(ao g tm,aU GL tm m,aA H b,aU GL tm k,z,Nat.blt d n)=(some true,.map b,some (.map (cX es)),.d (.str s),.d (.int .i64 0),true))(hq:CG P GL (.ops (l.drop 1)) K n (put tm d (.d (.int .i64 (bm es s)))) H Q):CG P GL (.ops l) K n tm H Q:=by simp only[aae]at hc;obtain⟨h1,h2,h3,h4,h5,h6⟩:=hc;exact CG.iJ ho h1 (zU h2 h3 h4 h5) rfl h6 hq
theorem WG{m k x:a_}{g:Option (Nat×Bool)}{af:List Nat}{l:List ad}{K:List Fr}{n:Nat}{tm:List (Nat×V)}{H:ah}{Q:Ex→St→Prop}(b:Nat)(es:Es)(s:List UInt8)(c:Int)(ho:l.head?=some ⟨none,.fX .str m k x,g,af⟩)(hc:(ao g tm,aU GL tm m,aA H b,aU GL tm k,aU GL tm x)=(some true,.map b,some (.map (cX es)),.d (.str s),.d (.int .i64 c)))(hq:CG P GL (.ops (l.drop 1)) K n tm (bj H b (.map (cX (qH es s c)))) Q):CG P GL (.ops l) K n tm H Q:=by simp only[aae]at hc;obtain⟨h1,h2,h3,h4,h5⟩:=hc;exact CG.D3 ho h1 (C1 h2 h3 h4 h5) rfl hq
theorem SE{d base i:Nat}{z:V}{m k:a_}{g:Option (Nat×Bool)}{af:List Nat}{l:List ad}{tm:List (Nat×V)}{H:ah}{Q:RS→List (Nat×V)→ah→Prop}(b:Nat)(es:Es)(s:List UInt8)(ho:l.head?=some ⟨some d,.lookup .str z false m k,g,af⟩)(hc:(ao g tm,aU GL tm m,aA H b,aU GL tm k,z)=(some true,.map b,some (.map (cX es)),.d (.str s),.d (.int .i64 0)))(hq:AW P GL base (i+1) (l.drop 1) (put tm d (.d (.int .i64 (bm es s)))) H (fun rs t k'=>Q (((.d (.int .i64 (bm es s)),none),lq (aU GL tm) (.lookup .str z false m k))::rs) t k')):AW P GL base i l tm H Q:=by simp only[aae]at hc;obtain⟨h1,h2,h3,h4,h5⟩:=hc;exact AW.iJ ho h1 rfl (zU h2 h3 h4 h5) hq
theorem WH{base i:Nat}{m k x:a_}{g:Option (Nat×Bool)}{af:List Nat}{l:List ad}{tm:List (Nat×V)}{H:ah}{Q:RS→List (Nat×V)→ah→Prop}(b:Nat)(es:Es)(s:List UInt8)(c:Int)(ho:l.head?=some ⟨none,.fX .str m k x,g,af⟩)(hc:(ao g tm,aU GL tm m,aA H b,aU GL tm k,aU GL tm x)=(some true,.map b,some (.map (cX es)),.d (.str s),.d (.int .i64 c)))(hq:AW P GL base (i+1) (l.drop 1) tm (bj H b (.map (cX (qH es s c)))) (fun rs t k'=>Q (((.any,some (b,.map (cX (qH es s c)))),lq (aU GL tm) (.fX .str m k x))::rs) t k')):AW P GL base i l tm H Q:=by simp only[aae]at hc;obtain⟨h1,h2,h3,h4,h5⟩:=hc;exact AW.D3 ho h1 rfl (C1 h2 h3 h4 h5) hq
end
end Fw.Tz.Su
/-
  Numerals: which strings of digits are the decimal digits of a positive number.
-/
namespace Fw.Nu
open Go.Lib
def cf(b:UInt8):Bool:=decide (48≤b.toNat∧b.toNat≤57)
def lM(b:UInt8):Bool:=decide (97≤b.toNat∧b.toNat≤122)
def BE:List UInt8→Bool|[]=>false|d::u=>decide (u.length≤8)&& !(Nat.beq d.toNat 48)&&(d::u).all cf
def val(acc:Nat)(l:List UInt8):Nat:=l.foldl (fun a b=>a*10+(b.toNat - 48)) acc
theorem sq(acc:Nat):val acc []=acc:=acW
theorem mU(acc:Nat)(b:UInt8)(l:List UInt8):val acc (b::l)=val (acc*10+(b.toNat - 48)) l:=abm ..
theorem HL(l:List UInt8)(b:UInt8)(acc:Nat):val acc (l++[b])=val acc l*10+(b.toNat - 48):=by unfold val;rw[ac8];rw[abm,acW]
theorem HM:∀(l:List UInt8)(acc:Nat),l.all cf=true→val acc l<(acc+1)*10^l.length
 |[],acc,_=>by rw[sq,aaY,Nat.pow_zero];omega
 |b::l,acc,h=>by simp only[aaF,aac,cf,aam]at h;have:=HM l (acc*10+(b.toNat - 48)) h.2;rw[mU,aav,ac_];refine aa0 this ?_;rw[Nat.mul_comm (10^l.length) 10,←Nat.mul_assoc];exact aaM _ (by omega)
theorem xI:∀(l:List UInt8)(acc:Nat),0<acc→0<val acc l
 |[],acc,h=>by rw[sq];exact h
 |b::l,acc,h=>by rw[mU];exact xI l _ (by omega)
theorem vQ:∀(l:List UInt8)(acc:Nat),l.all cf=true→(acc+1)*10^l.length≤1000000000000000000→parseUint10 acc l=.ok (val acc l)
 |[],acc,_,_=>by rw[sq];rfl
 |b::l,acc,h,hl=>by
  simp only[aaF,aac,cf,aam]at h;simp only[aav,ac_]at hl;have h1:0<10^l.length:=Nat.pow_pos (by omega);have h3:(acc+1)*10*10^l.length≤1000000000000000000:=by rw[Nat.mul_assoc,Nat.mul_comm 10];exact hl
  have h2:(acc+1)*10≤(acc+1)*10*10^l.length:=acE _ h1;have h4:(acc+1)*10≤1000000000000000000:=aa_ h2 h3;rw[mU,parseUint10];rw[aan h.1,aal (by omega),aal (by omega)];refine vQ l _ h.2 (aa_ (aaM _ ?_ ) h3);omega
theorem BF:∀(u:Nat),(decDigits u).all cf=true:=by
 intro u;induction u using Nat.strongRecOn with
  |_ u ih=>
   rw[decDigits];split
   ·rename_i h;simp only[aaF,adb,acr,cf,aam];rw[acZ,Nat.mod_eq_of_lt (by omega)];omega
   ·rename_i h;simp only[acy,ih (u / 10) (by omega),aaF,adb,acr,aaE,cf,aam];rw[acZ,Nat.mod_eq_of_lt (by omega)];omega
theorem HN:∀(u:Nat),0<u→∃d r,decDigits u=d::r∧d.toNat≠48:=by
 intro u;induction u using Nat.strongRecOn with
  |_ u ih=>
   intro hu;rw[decDigits];split
   ·rename_i h;refine⟨_,_,rfl,?_⟩;rw[acZ,Nat.mod_eq_of_lt (by omega)];omega
   ·rename_i h;obtain⟨d,r,h1,h2⟩:=ih (u / 10) (by omega) (by omega);exact⟨d,r++[UInt8.ofNat (48+u%10)],by rw[h1];rfl,h2⟩
theorem vR{b:UInt8}(h:cf b=true):UInt8.ofNat (48+(b.toNat - 48))=b:=by simp only[cf,aam]at h;rw[show 48+(b.toNat - 48)=b.toNat by omega,UInt8.ofNat_toNat]
theorem Kx:∀(n:Nat)(l:List UInt8),l.length=n→l.all cf=true→(∀d r,l=d::r→d.toNat≠48)→l≠[]→decDigits (val 0 l)=l:=by
 intro n;induction n using Nat.strongRecOn with
  |_ n ih=>
   intro l hn hd h0 ew;obtain⟨l',b,rfl⟩:∃l' b,l=l'++[b]:=⟨l.dropLast,l.getLast ew,(List.dropLast_concat_getLast ew).symm⟩;simp only[acy,aaF,adb,acr,aac]at hd;have hb:=hd.2;have Pz:=hb;simp only[cf,aam]at Pz;rw[HL];cases l' with
    |nil=>rw[sq,ada,aau];rw[decDigits,dif_pos (by omega),vR hb];rfl
    |cons d r=>
     have Gg:d.toNat≠48:=h0 d (r++[b]) rfl;have Z3:=hd.1;simp only[aaF,aac,cf,aam]at Z3;have hp:0<val 0 (d::r):=by rw[mU];exact xI r _ (by omega)
     have:=ih (d::r).length (by simp at hn⊢;omega) (d::r) rfl hd.1 (fun d' r' e=>by cases e;exact Gg) (by simp);rw[decDigits,dif_neg (by omega),show(val 0 (d::r)*10+(b.toNat - 48)) / 10=val 0 (d::r) by omega,show(val 0 (d::r)*10+(b.toNat - 48))%10=b.toNat - 48 by omega,this,vR hb]
theorem LU{t:List UInt8}(h:BE t=true):∃v:Nat,0<v∧v<1000000000∧atoiAll t=.ok (v:Int)∧t.length≤9∧itoa (v:Int)=t:=by
 cases t with
  |nil=>simp[BE]at h
  |cons d u=>
   simp only[BE,aac,aam,aaU]at h;obtain⟨⟨h1,h2⟩,h3⟩:=h;have WI:d.toNat≠48:=fun e=>by rw[e]at h2;cases h2
   have hd:=h3;simp only[aaF,aac,cf,aam]at hd;have hlen:(d::u).length≤9:=by simp;omega
   have Z4:10^(d::u).length≤1000000000:=by have:10^(d::u).length≤10^9:=Nat.pow_le_pow_right (by omega) hlen;simpa using this
   have bL:=HM (d::u) 0 h3;simp only[aau,Nat.one_mul]at bL;refine⟨val 0 (d::u),?_,by omega,?_,hlen,?_ ⟩
   ·rw[mU];exact xI u _ (by omega)
   ·unfold atoiAll;simp only;rw[aal (by omega)];unfold parseMag;rw[aal (by simp),vQ _ 0 h3 (by omega)];simp only;rw[aal (by omega),aal (by omega),aal (by omega)]
   ·unfold itoa;rw[aal (by omega),Int.toNat_natCast];exact Kx _ (d::u) rfl h3 (fun d' r' e=>by cases e;exact WI) (by simp)
theorem SF{t:List UInt8}{v:Int}(h0:0<v)(hl:t.length≤9)(h:itoa v=t):BE t=true:=by
 unfold itoa at h;rw[aal (by omega)]at h;obtain⟨d,r,e1,e2⟩:=HN v.toNat (by omega);have hd:=BF v.toNat;rw[e1]at hd h;subst h;have:Nat.beq d.toNat 48=false:=by
  cases hb:Nat.beq d.toNat 48 with
   |false=>rfl
   |true=>exact absurd (aah hb) e2
 simp only[BE,aac,aam,this,hd];simp at hl⊢;omega
end Fw.Nu
/-
  Digits cut off at both ends.
-/
namespace Fw.Nu
def iE(s:List UInt8):List UInt8:=(s.reverse.dropWhile cf).reverse
def lW(s:List UInt8):List UInt8:=s.dropWhile cf
theorem qJ{p:UInt8→Bool}:∀(l:List UInt8),l.dropWhile p=[]↔l.all p=true
 |[]=>by simp
 |a::l=>by
  rw[abE];cases h:p a with
   |true=>simp only[aa4,aaF,h,aaE];exact qJ l
   |false=>simp[h]
theorem tT{p:UInt8→Bool}(a:UInt8)(ha:p a=false):∀(l:List UInt8),(l++[a]).dropWhile p≠[]
 |[]=>by simp[ha]
 |b::l=>by
  rw[abo,abE];cases p b with
   |true=>simp only[aa4];exact tT a ha l
   |false=>simp
theorem tU{p:UInt8→Bool}:∀(l:List UInt8)(a:UInt8)(r:List UInt8),l.dropWhile p=a::r→p a=false
 |[],_,_,h=>by simp at h
 |b::l,a,r,h=>by
  rw[abE]at h;cases hb:p b with
   |true=>rw[hb]at h;exact tU l a r (by simpa using h)
   |false=>rw[hb]at h;simp at h;rw[←h.1];exact hb
theorem HO(s:List UInt8):lW (iE s)=[]↔s.all cf=true:=by
 unfold lW iE;cases h:s.reverse.dropWhile cf with
  |nil=>have:=(qJ s.reverse).1 h;simp only[List.reverse_nil,List.dropWhile_nil,true_iff];simpa using this
  |cons a r=>
   have ha:=tU _ _ _ h;rw[List.reverse_cons];constructor
   ·intro h2;exact absurd h2 (tT a ha _)
   ·intro h2;have h3:s.reverse.all cf=true:=by simpa using h2
    rw[(qJ _).2 h3]at h;cases h
theorem tV(l:List UInt8)(a:UInt8):iE (l++[a])=if cf a=true then iE l else l++[a]:=by
 unfold iE;rw[List.reverse_append];simp only[List.reverse_cons,List.reverse_nil,abv,List.singleton_append,abE];split
 ·rfl
 ·simp
def cJ:List UInt8→Bool|[]=>false|c::t=>decide (t.length≤29)&&decide (65≤c.toNat∧c.toNat≤90)&&t.all cf
end Fw.Nu
/-
  Names and small numbers, of the program and of the reference, for any string.
-/
namespace Fw.Tz.Na
open Go Go.Proofs Fw.X Fw.Tz Fw.Nu Fw.Tz.Sd
variable {W:World}
theorem drop_at{α:Type}{l:List α}{i:Nat}{x:α}(h:l[i]? =some x):l.drop i=x::l.drop (i+1):=by obtain⟨bL,he⟩:=aai.1 h;rw[aa6 bL,he]
def aZ(n:Int):Bool:=decide (-1000000≤n∧n≤1000000)
def qK:Nat→List UInt8→Bool|_,[]=>true|i,b::r=>(lM b||(!Nat.beq i 0&&cf b))&&qK (i+1) r
def be:List UInt8→Bool|[]=>false|c::t=>bif Nat.beq c.toNat 95 then BE t else decide (t.length≤29)&&qK 0 (c::t)
theorem zV{c:UInt8}{t:List UInt8}(h:(c.toNat:Int)=95):be (c::t)=BE t:=by
 have:Nat.beq c.toNat 95=true:=by rw[show c.toNat=95 by omega];rfl
 rw[be,this];rfl
theorem zW{c:UInt8}{t:List UInt8}(h:(c.toNat:Int)≠95):be (c::t)=(decide (t.length≤29)&&qK 0 (c::t)):=by
 have:Nat.beq c.toNat 95=false:=by cases hb:Nat.beq c.toNat 95 with|false=>rfl|true=>exact absurd (by have:=aah hb;omega) h
 rw[be,this];rfl
theorem e8(hW:W0 W)(n:Int):PC P (gl W) 153 [.d (.int .i64 n)] (.d (.bool (aZ n))):=by
 refine CG.start RQ RR rfl ?_;refine s1 hW 4 3 [] 1 [(2,bF),(5,bo (!aS n (-1000000)))] ?_;refine Hc n (-1000000) (fun q5 p5=>?_ ) (fun q5 p5=>?_ );rw[q5];refine s1 hW 2 0 [] 2 [] ?_;refine CG.rt (bF) ?_;rotate_left;rw[q5];refine s1 hW 2 0 [] 0 [(2,bo (!aS 1000000 n))] ?_;refine CG.rt (bo (!aS 1000000 n)) ?_;rotate_left
 ·simp only[V.d.injEq,D.bool.injEq,aZ];symm;rw[aa5];omega
 ·have h:aS 1000000 n=decide ((1000000:Int)<n):=fe _ _;simp only[V.d.injEq,D.bool.injEq,aZ,h];rw[aaT];simp;omega
theorem vU(hW:W0 W)(n:Int):PC P (gl W) 142 [.d (.int .i64 n)] (.d (.bool (aZ n))):=by
 refine CG.start RG RH rfl ?_;refine s1 hW 4 3 [] 1 [(2,bF),(5,bo (!aS n (-1000000)))] ?_;refine Hc n (-1000000) (fun q5 p5=>?_ ) (fun q5 p5=>?_ );rw[q5];refine s1 hW 2 0 [] 2 [] ?_;refine CG.rt (bF) ?_;rotate_left;rw[q5];refine s1 hW 2 0 [] 0 [(2,bo (!aS 1000000 n))] ?_;refine CG.rt (bo (!aS 1000000 n)) ?_;rotate_left
 ·simp only[V.d.injEq,D.bool.injEq,aZ];symm;rw[aa5];omega
 ·have h:aS 1000000 n=decide ((1000000:Int)<n):=fe _ _;simp only[V.d.injEq,D.bool.injEq,aZ,h];rw[aaT];simp;omega
theorem zX{t:List UInt8}(h:9<t.length):BE t=false:=by
 cases t with
  |nil=>rfl
  |cons d u=>simp only[aav]at h;rw[BE,aaZ (by omega)];rfl
theorem HP{c:UInt8}{t:List UInt8}(h:(c.toNat:Int)=95):Lib.hasPrefix (c::t) [95]=true:=by have:c=95:=ab'.1 (by simpa using(by omega:c.toNat=95));subst this;simp[Lib.hasPrefix]
theorem Ee{s:List UInt8}(h:Lib.hasPrefix s [95]=false):be s=(!Fw.ai s []&& !aS 30 (.ofNat s.length)&&qK 0 s):=by
 cases s with
  |nil=>rfl
  |cons c t=>
   have hc:(c.toNat:Int)≠95:=fun e=>by rw[HP e]at h;cases h
   rw[zW hc];have e1:Fw.ai (c::t) []=false:=rfl;have e2:(!aS 30 (.ofNat (c::t).length))=decide (t.length≤29):=by rw[fe,aaT];simp;omega
   rw[e1,e2];rfl
theorem C2{t:List UInt8}(h:∀v,Lib.atoiAll t≠ .ok v):BE t=false:=by
 cases hb:BE t with
  |false=>rfl
  |true=>obtain⟨v,_,_,h2,_⟩:=LU hb;exact absurd h2 (h v)
theorem rq:∀(x:List UInt8),Fw.ai x x=true|[]=>rfl|a::x=>by simp only[Fw.ai,aaz,aag];exact rq x
theorem Kz{t:List UInt8}{v:Int}(hv:Lib.atoiAll t=.ok v):BE t=(decide (0<v)&&decide (t.length≤9)&&Fw.ai (Lib.itoa v) t):=by
 cases hb:BE t with
  |true=>
   obtain⟨u,h0,h1,h2,h3,h4⟩:=LU hb;rw[hv]at h2;injection h2 with h2
   subst h2;rw[aaK (by omega),aaK h3,h4,rq];rfl
  |false=>
   symm;by_cases h0:0<v
   ·by_cases hl:t.length≤9
    ·rw[aaK h0,aaK hl];cases he:Fw.ai (Lib.itoa v) t with
      |false=>rfl
      |true=>rw[SF h0 hl (cS he)]at hb;cases hb
    ·rw[aaZ hl,abe];rfl
   ·rw[aaZ h0];rfl
theorem BG{t:List UInt8}{v:Int}(h:Lib.atoiAll t=.ok v): -9223372036854775808≤v∧v≤9223372036854775807:=by
 unfold Lib.atoiAll at h;cases t with
  |nil=>cases h
  |cons c r=>
   simp only at h;split at h
   ·cases h
   ·cases h
   ·split at h
    ·cases h
    ·split at h
     ·cases h
     ·injection h with h
      subst h;split<;>omega
theorem pF(hW:W0 W)(b:UInt8):PC P (gl W) 177 [.d (.int .u8 b.toNat)] (.d (.bool (cf b))):=by refine CG.start R2 R3 rfl ?_;refine s1 hW 4 3 [] 1 [(2,bF),(5,bo (!aS (Int.ofNat (UInt8.toNat b)) 48))] ?_;refine dT (UInt8.toNat b) 48 (fun q5 p5=>?_ ) (fun q5 p5=>?_ );have q6:(aS (Int.ofNat (UInt8.toNat b)) 48)=true:=mg;rw[q6];refine s1 hW 2 0 [] 2 [] ?_;refine CG.rt (bF) ?_;rotate_left;have q7:(aS (Int.ofNat (UInt8.toNat b)) 48)=false:=nU;rw[q7];refine s1 hW 2 0 [] 0 [(2,bo (!aS 57 (Int.ofNat (UInt8.toNat b))))] ?_;refine CG.rt (bo (!aS 57 (Int.ofNat (UInt8.toNat b)))) ?_;rotate_left;all_goals simp only[V.d.injEq,D.bool.injEq,cf];first|(symm;rw[aa5];omega)|(rw[fe,aaT];simp;omega)
theorem uU(hW:W0 W)(b:UInt8):PC P (gl W) 178 [.d (.int .u8 b.toNat)] (.d (.bool (lM b))):=by refine CG.start R4 R5 rfl ?_;refine s1 hW 4 3 [] 1 [(2,bF),(5,bo (!aS (Int.ofNat (UInt8.toNat b)) 97))] ?_;refine dT (UInt8.toNat b) 97 (fun q5 p5=>?_ ) (fun q5 p5=>?_ );have q6:(aS (Int.ofNat (UInt8.toNat b)) 97)=true:=mg;rw[q6];refine s1 hW 2 0 [] 2 [] ?_;refine CG.rt (bF) ?_;rotate_left;have q7:(aS (Int.ofNat (UInt8.toNat b)) 97)=false:=nU;rw[q7];refine s1 hW 2 0 [] 0 [(2,bo (!aS 122 (Int.ofNat (UInt8.toNat b))))] ?_;refine CG.rt (bo (!aS 122 (Int.ofNat (UInt8.toNat b)))) ?_;rotate_left;all_goals simp only[V.d.injEq,D.bool.injEq,lM];first|(symm;rw[aa5];omega)|(rw[fe,aaT];simp;omega)
theorem cZ(hW:W0 W)(s:List UInt8):PC P (gl W) 120 [.d (.str s)] (.d (.bool (be s))):=by
 refine CG.start Rr Rs rfl ?_;cases s with
  |nil=>refine s1 hW 11 0 [true] 1 [(2,bF)] ?_;refine CG.rt (bF) ?_;rfl
  |cons c t=>
   by_cases hc:(c.toNat:Int)=95
   ·rw[zV hc];cases t with
     |nil=>refine s1 hW 14 0 [false] 1 [(2,bF),(15,bo (bf (Int.ofNat (UInt8.toNat c)) 95))] ?_;refine CG.aB (show(bf (Int.ofNat (UInt8.toNat c)) 95)=true from oY) k_ ?_;refine s1 hW 8 0 [true] 3 [] ?_;refine CG.rt (bF) ?_;rfl
     |cons d u=>
      refine s1 hW 7 0 [] 1 [(2,bF),(12,bo (aS 30 (Int.ofNat (c::d::u).length)))] ?_;refine dT 30 (c::d::u).length (fun q7 p7=>?_ ) (fun q7 p7=>?_ )<;>simp only[zz]at p7;refine CG.aB (show(aS 30 (Int.ofNat (c::d::u).length))=true from mg) k_ ?_;refine s1 hW 3 0 [] 3 [] ?_;refine CG.rt (bF) ?_;rotate_left;refine CG.aF (show(aS 30 (Int.ofNat (c::d::u).length))=false from nU) k_ ?_;refine s1 hW 6 0 [] 3 [(15,bo (bf (Int.ofNat (UInt8.toNat c)) 95))] ?_;refine CG.aB (show(bf (Int.ofNat (UInt8.toNat c)) 95)=true from oY) k_ ?_;refine s1 hW 2 9 [] 3 [(24,bo (aS 10 (Int.ofNat (c::d::u).length)))] ?_;refine dT 10 (c::d::u).length (fun q9 p9=>?_ ) (fun q9 p9=>?_ )<;>simp only[zz]at p9;have uV:(aS 10 (Int.ofNat (c::d::u).length))=true:=mg;rw[uV];refine s1 hW 6 0 [true] 3 [] ?_;refine CG.rt (bF) ?_;rotate_left;have qL:(aS 10 (Int.ofNat (c::d::u).length))=false:=nU;rw[qL];refine s1 hW 2 0 [] 3 [(28,bo (bf (Int.ofNat (UInt8.toNat d)) 48))] ?_;refine iD (UInt8.toNat d) 48 (fun rO Pk=>?_ ) (fun rO Pk=>?_ );refine CG.aB (show(bf (Int.ofNat (UInt8.toNat d)) 48)=true from oY) k_ ?_;refine s1 hW 3 0 [] 3 [] ?_;refine CG.rt (bF) ?_;rotate_left;refine CG.aF (show(bf (Int.ofNat (UInt8.toNat d)) 48)=false from pq) k_ ?_;refine s1 hW 7 0 [] 3 [(3,io 1)] ?_;rotate_left
      ·rw[zX (by simp only[aav];omega)]
      ·rw[zX (by simp only[aav];omega)]
      ·rw[BE,show Nat.beq d.toNat 48=true by rw[show d.toNat=48 by omega];rfl,aa',abe,abl]
      ·have WI:Nat.beq d.toNat 48=false:=cw (by omega);rw[BE,WI,aaK (by omega),abd,aaR,aaE];refine CG.bV (d::u) (fun i u2=>[(0,so (c::d::u)),(2,bF),(3,.d (.int .i64 (.ofNat (i+1))))]) (fun i u2=>[]) (fun i u2 r=>((d::u).all cf=r.all cf)) () ?_ (ar.refl _ _) ?_ ?_
       ·rfl
       ·intro i u2 hi hd aD;simp only[aav]at hi;refine s1 hW 4 0 [] 7 [(32,bo (aS (Int.ofNat (i+1)) (Int.ofNat (c::d::u).length)))] ?_;refine CG.aF (fP (i+1) (c::d::u).length) k_ ?_;refine CG.bl (by decide) ?_;refine s1 hW 5 0 [] 1 [(2,bT)] ?_;refine CG.rt (bT) ?_;rotate_left;rw[aD];rfl
       ·intro i u2 x r hd hx bL aD;have gS:(c::d::u)[i+1]? =some x:=by simpa using hx
        rw[show(x::r).all cf=(cf x&&r.all cf)from aaF ..]at aD;simp only[aav]at bL;refine s1 hW 4 0 [] 7 [(32,bo (aS (Int.ofNat (i+1)) (Int.ofNat (c::d::u).length)))] ?_;refine CG.aB (eH (i+1) (c::d::u).length) k_ ?_;refine s1 hW 5 2 [] 7 [(35,so (c::d::u)),(36,no (i+1))] ?_;refine CG.O0 gS rfl k_ ?_;refine CG.pg (pF hW x) rfl k_ ?_;refine s1 hW 2 0 [] 7 [(39,bo (!cf x))] ?_;refine sp (cf x) (fun xJ=>?_ ) (fun xJ=>?_ );refine CG.aF (b:=(!cf x)) (by rw[xJ];rfl) k_ ?_;refine s3 hW 3 3 [] [(0,so (c::d::u)),(2,bF),(3,io (aN IntKind.i64 (bp (Int.ofNat (i+1)) 1)))] ([]) ?_;refine CG.bU rfl ?_;rw[a7 (by omega)];rotate_left;refine CG.aB (b:=(!cf x)) (by rw[xJ];rfl) k_ ?_;refine s1 hW 3 0 [] 7 [] ?_;refine CG.fx (bF) ?_;rotate_left
        ·exact⟨(),by rw[aD,show cf x=true by assumption];rfl,ar.refl _ _⟩
        ·rw[aD,show cf x=false by assumption];rfl
   ·rw[zW hc];refine s1 hW 7 0 [] 1 [(2,bF),(12,bo (aS 30 (Int.ofNat (c::t).length)))] ?_;refine dT 30 (c::t).length (fun q6 p6=>?_ ) (fun q6 p6=>?_ )<;>simp only[zz]at p6;refine CG.aB (show(aS 30 (Int.ofNat (c::t).length))=true from mg) k_ ?_;refine s1 hW 3 0 [] 3 [] ?_;refine CG.rt (bF) ?_;rotate_left;refine CG.aF (show(aS 30 (Int.ofNat (c::t).length))=false from nU) k_ ?_;refine s1 hW 6 0 [] 3 [(15,bo (bf (Int.ofNat (UInt8.toNat c)) 95))] ?_;refine CG.aF (show(bf (Int.ofNat (UInt8.toNat c)) 95)=false from pq) k_ ?_;refine s1 hW 7 0 [] 3 [(4,i0)] ?_;rotate_left
    ·rw[aaZ (by omega)];rfl
    ·rw[aaK (by omega),aaE];refine CG.bV (c::t) (fun i u=>[(0,so (c::t)),(2,bF),(4,.d (.int .i64 (.ofNat i)))]) (fun i u=>[]) (fun i u r=>(qK 0 (c::t)=qK i r)) () ?_ (ar.refl _ _) ?_ ?_
     ·rfl
     ·intro i u hi hd aD;refine s1 hW 4 0 [] 7 [(43,bo (aS (Int.ofNat i) (Int.ofNat (c::t).length)))] ?_;refine CG.aF (fP i (c::t).length) k_ ?_;refine CG.bl (by decide) ?_;refine s1 hW 5 0 [] 0 [(2,bT)] ?_;refine CG.rt (bT) ?_;rotate_left;rw[aD];rfl
     ·intro i u x r hd hx bL aD;rw[show qK i (x::r)=((lM x||(!Nat.beq i 0&&cf x))&&qK (i+1) r)from rfl]at aD;simp only[aav]at bL;refine s1 hW 4 0 [] 7 [(43,bo (aS (Int.ofNat i) (Int.ofNat (c::t).length)))] ?_;refine CG.aB (eH i (c::t).length) k_ ?_;refine s1 hW 5 2 [] 7 [(46,so (c::t)),(47,no i)] ?_;refine CG.O0 hx rfl k_ ?_;refine CG.pg (uU hW x) rfl k_ ?_;refine s1 hW 0 2 [] 7 [(51,bo (!lM x))] ?_;refine sp (lM x) (fun jF=>?_ ) (fun jF=>?_ );rw[jF];refine s3 hW 6 3 [false] [(0,so (c::t)),(2,bF),(4,io (aN IntKind.i64 (bp (Int.ofNat i) 1)))] ([]) ?_;refine CG.bU rfl ?_;rw[a7 (by omega)];rotate_left;rw[jF];refine s1 hW 0 3 [] 15 [(54,bo (bf (Int.ofNat i) 0))] ?_;refine iD i 0 (fun lN N3=>?_ ) (fun lN N3=>?_ );have rP:(bf (Int.ofNat i) 0)=true:=oY;rw[rP];refine s1 hW 6 0 [true] 7 [] ?_;refine CG.fx (bF) ?_;rotate_left;have jd:(bf (Int.ofNat i) 0)=false:=pq;rw[jd];refine s1 hW 0 2 [] 31 [(55,so (c::t)),(56,no i)] ?_;refine CG.O0 hx rfl k_ ?_;refine CG.pg (pF hW x) rfl k_ ?_;refine s1 hW 2 0 [] 7 [(61,bo (!cf x))] ?_;refine sp (cf x) (fun kg=>?_ ) (fun kg=>?_ );refine CG.aF (b:=(!cf x)) (by rw[kg];rfl) k_ ?_;refine s3 hW 3 3 [] [(0,so (c::t)),(2,bF),(4,io (aN IntKind.i64 (bp (Int.ofNat i) 1)))] ([]) ?_;refine CG.bU rfl ?_;rw[a7 (by omega)];rotate_left;refine CG.aB (b:=(!cf x)) (by rw[kg];rfl) k_ ?_;refine s1 hW 3 0 [] 7 [] ?_;refine CG.fx (bF) ?_;rotate_left
      ·exact⟨(),by rw[aD,show lM x=true by assumption];rfl,ar.refl _ _⟩
      ·rw[aD,show lM x=false by assumption,show Nat.beq i 0=true by rw[show i=0 by omega];rfl];rfl
      ·exact⟨(),by rw[aD,show lM x=false by assumption,show Nat.beq i 0=false from cw (by omega),show cf x=true by assumption];rfl,ar.refl _ _⟩
      ·rw[aD,show lM x=false by assumption,show cf x=false by assumption,abe];rfl
theorem mV(hW:W0 W)(s:List UInt8)(hs:s.length≤281474976710656):PC P (gl W) 115 [.d (.str s)] (.d (.bool (be s))):=by
 refine CG.start Rp Rq rfl ?_;cases hp:Lib.hasPrefix s [95]with
  |true=>
   cases s with
    |nil=>cases hp
    |cons c t=>
     have hc:(c.toNat:Int)=95:=by
      have:(95:UInt8)=c:=by simpa[Lib.hasPrefix]using hp
      subst this;rfl
     rw[zV hc];have hA:=Hr hW t (by simp only[aav]at hs;omega);have hd:List.drop 1 (List.take (c::t).length (c::t))=t:=by rw[abH];rfl
     refine s1 hW 7 0 [] 1 [(2,bF),(8,bo (Lib.hasPrefix (c::t) [95]))] ?_;refine CG.aB hp k_ ?_;refine s1 hW 1 1 [] 3 [(10,so (c::t))] ?_;refine CG.OT 1 (c::t).length (s:=(c::t)) rfl k_ k_ k_ k_ (by(try simp only[zz]at*)<;>omega) rfl ?_;rotate_left;rw[hd];unfold CT at hA;rcases hv:Lib.atoiAll t with v|_|_
     ·have hr:=BG hv;rw[Kz hv];rw[hv]at hA;dsimp only at hA;refine CG.pg (hA) rfl k_ ?_;refine s1 hW 3 0 [] 3 [(3,io v),(4,.gD)] ?_;refine CG.iC bE k_ k_ ?_;refine AO.rd 7 [(15,.gD),(16,bT),(17,bT),(18,io v),(19,bo (decide (0<v))),(20,bo (decide (0<v))),(21,bo (decide (0<v)))] k_ ?_;refine Qy (0<v) (fun BH WJ=>?_ ) (fun BH WJ=>?_ );rw[BH];refine AO.rd 5 [(22,so (c::t)),(23,no (c::t).length),(24,bo (decide (Int.ofNat (c::t).length≤10))),(25,bo (decide (Int.ofNat (c::t).length≤10))),(26,bo (decide (Int.ofNat (c::t).length≤10)))] k_ ?_;refine Qy (Int.ofNat (c::t).length≤10) (fun jF Jd=>?_ ) (fun jF Jd=>?_ )<;>simp only[zz]at Jd;rw[jF];refine AO.rd 1 [(27,io v)] k_ ?_;refine AO.jM ((Bw hW v) (by first|assumption|exact(by(try simp only[zz]at*)<;>omega)) (by first|assumption|exact(by(try simp only[zz]at*)<;>omega))) rfl k_ k_ ?_;refine AO.rd 1 [(29,so (c::t))] k_ ?_;refine AO.OT 1 (c::t).length (s:=(c::t)) rfl k_ k_ k_ k_ (by(try simp only[zz]at*)<;>omega) ?_;refine AO.rd 3 [(2,bo (ai (Lib.itoa v) (List.drop 1 (List.take (c::t).length (c::t))))),(31,bo (ai (Lib.itoa v) (List.drop 1 (List.take (c::t).length (c::t))))),(32,bo (ai (Lib.itoa v) (List.drop 1 (List.take (c::t).length (c::t)))))] k_ ?_;refine AO.done [0,2] rfl rfl k_ ?_;refine s1 hW 1 0 [] 3 [] ?_;refine CG.rt (bo (ai (Lib.itoa v) (List.drop 1 (List.take (c::t).length (c::t))))) ?_;rotate_left;rw[jF];refine AO.rd 7 [(27,tE),(28,tE),(29,tE),(30,tE),(31,tE),(32,bF)] k_ ?_;refine AO.done [0,2] rfl rfl k_ ?_;refine s1 hW 1 0 [] 3 [] ?_;refine CG.rt (bF) ?_;rotate_left;rw[BH];refine AO.rd 12 [(22,tE),(23,tE),(24,tE),(25,bF),(26,bF),(27,tE),(28,tE),(29,tE),(30,tE),(31,tE),(32,bF)] k_ ?_;refine AO.done [0,2] rfl rfl k_ ?_;refine s1 hW 1 0 [] 3 [] ?_;refine CG.rt (bF) ?_;rfl;all_goals (simp only[aav]at*)
      all_goals first
       |(rw[hd,aaK (p:=t.length≤9) (by omega)];first|rfl|(rw[aaK (p:=0<v) (by omega)];rfl))
       |(rw[aaZ (p:=t.length≤9) (by omega),abe];rfl)
       |(rw[aaZ (p:=0<v) (by omega)];rfl)
     ·rw[hv]at hA;dsimp only at hA;rw[C2 (fun v h=>by rw[hv]at h;cases h)];refine CG.pg (hA) rfl k_ ?_;refine s2 hW 5 0 [] 3 [] (nn 19 ([])) ?_;refine CG.rt (bF) ?_;with_reducible rfl
     ·rw[hv]at hA;dsimp only at hA;rw[C2 (fun v h=>by rw[hv]at h;cases h)];refine CG.pg (hA) rfl k_ ?_;refine s2 hW 5 0 [] 3 [] (nn 19 ([])) ?_;refine CG.rt (bF) ?_;with_reducible rfl
  |false=>
   rw[Ee hp];refine s1 hW 7 0 [] 1 [(2,bF),(8,bo (Lib.hasPrefix s [95]))] ?_;refine CG.aF hp k_ ?_;refine s1 hW 7 0 [] 3 [(34,lo (fun b=>[D.int IntKind.u8 (Int.ofNat (UInt8.toNat b))]) s),(35,no (List.length (List.map (fun b=>[D.int IntKind.u8 (Int.ofNat (UInt8.toNat b))]) s))),(36,i0)] ?_;rotate_left;refine CG.bV s (fun i u=>[(0,so s),(2,bF),(34,lo (fun b=>[D.int IntKind.u8 (Int.ofNat (UInt8.toNat b))]) s),(35,no (List.length (List.map (fun b=>[D.int IntKind.u8 (Int.ofNat (UInt8.toNat b))]) s))),(36,.d (.int .i64 (.ofNat i)))]) (fun i u=>[]) (fun i u r=>(qK 0 s=qK i r)) () ?_ (ar.refl _ _) ?_ ?_
   ·rfl
   ·intro i u hi hd aD;rw[aD];refine s1 hW 4 0 [] 23 [(37,bo (aS (Int.ofNat i) (Int.ofNat (List.length (List.map (fun b=>[D.int IntKind.u8 (Int.ofNat (UInt8.toNat b))]) s)))))] ?_;refine CG.aF (fP i (List.length (List.map (fun b=>[D.int IntKind.u8 (Int.ofNat (UInt8.toNat b))]) s))) k_ ?_;refine CG.bl (by decide) ?_;refine s1 hW 3 3 [] 3 [(62,bo (!ai s []))] ?_;refine sp (ai s []) (fun qL=>?_ ) (fun qL=>?_ );rw[qL];refine s1 hW 2 0 [] 2 [] ?_;refine CG.rt (bF) ?_;rfl;rw[qL];refine s1 hW 2 0 [] 0 [(2,bo (!aS 30 (Int.ofNat s.length)))] ?_;refine CG.rt (bo (!aS 30 (Int.ofNat s.length))) ?_;rotate_left;simp[qK]
   ·intro i u x r hd hx bL aD;rw[show qK i (x::r)=((lM x||(!Nat.beq i 0&&cf x))&&qK (i+1) r)from rfl]at aD;refine s1 hW 4 0 [] 31 [(37,bo (aS (Int.ofNat i) (Int.ofNat (List.length (List.map (fun b=>[D.int IntKind.u8 (Int.ofNat (UInt8.toNat b))]) s)))))] ?_;refine CG.aB (eH i (List.length (List.map (fun b=>[D.int IntKind.u8 (Int.ofNat (UInt8.toNat b))]) s))) k_ ?_;refine s1 hW 5 1 [] 31 [(38,no i)] ?_;refine CG.ix (ay (aa:=(fun b=>[D.int IntKind.u8 (Int.ofNat (UInt8.toNat b))])) hx) rfl k_ ?_;refine s1 hW 3 3 [] 31 [(5,no i),(6,.d (.int .u8 (.ofNat (UInt8.toNat x)))),(43,bo (aS (Int.ofNat (UInt8.toNat x)) 97))] ?_;refine dT (UInt8.toNat x) 97 (fun kR zY=>?_ ) (fun kR zY=>?_ );have jF:(aS (Int.ofNat (UInt8.toNat x)) 97)=true:=mg;rw[jF];refine s1 hW 0 7 [] 123 [(47,bT),(50,bo (bf (Int.ofNat i) 0))] ?_;refine iD i 0 (fun lN N3=>?_ ) (fun lN N3=>?_ );have rP:(bf (Int.ofNat i) 0)=true:=oY;rw[rP];refine s1 hW 6 0 [true] 59 [] ?_;refine CG.fx (bF) ?_;rotate_left;have jd:(bf (Int.ofNat i) 0)=false:=pq;rw[jd];refine s1 hW 0 4 [] 127 [(54,bo (aS (Int.ofNat (UInt8.toNat x)) 48))] ?_;refine dT (UInt8.toNat x) 48 (fun pG N4=>?_ ) (fun pG N4=>?_ );have mc:(aS (Int.ofNat (UInt8.toNat x)) 48)=true:=mg;rw[mc];refine s1 hW 6 0 [true] 59 [] ?_;refine CG.fx (bF) ?_;rotate_left;have xJ:(aS (Int.ofNat (UInt8.toNat x)) 48)=false:=nU;rw[xJ];refine s1 hW 2 0 [] 59 [(58,bo (aS 57 (Int.ofNat (UInt8.toNat x))))] ?_;refine dT 57 (UInt8.toNat x) (fun zZ Z5=>?_ ) (fun zZ Z5=>?_ );refine CG.aB (show(aS 57 (Int.ofNat (UInt8.toNat x)))=true from mg) k_ ?_;refine s1 hW 3 0 [] 31 [] ?_;refine CG.fx (bF) ?_;rotate_left;refine CG.aF (show(aS 57 (Int.ofNat (UInt8.toNat x)))=false from nU) k_ ?_;refine s3 hW 3 2 [] [(0,so s),(2,bF),(34,lo (fun b=>[D.int IntKind.u8 (Int.ofNat (UInt8.toNat b))]) s),(35,no (List.length (List.map (fun b=>[D.int IntKind.u8 (Int.ofNat (UInt8.toNat b))]) s))),(36,io (aN IntKind.i64 (bp (Int.ofNat i) 1)))] ([]) ?_;refine CG.bU rfl ?_;rw[a7 (by omega)];rotate_left;have KA:(aS (Int.ofNat (UInt8.toNat x)) 97)=false:=nU;rw[KA];refine s1 hW 0 4 [] 127 [(47,bo (aS 122 (Int.ofNat (UInt8.toNat x))))] ?_;refine dT 122 (UInt8.toNat x) (fun KB Z6=>?_ ) (fun KB Z6=>?_ );have BI:(aS 122 (Int.ofNat (UInt8.toNat x)))=true:=mg;rw[BI];refine s1 hW 0 3 [] 251 [(50,bo (bf (Int.ofNat i) 0))] ?_;refine iD i 0 (fun KC Z7=>?_ ) (fun KC Z7=>?_ );have HQ:(bf (Int.ofNat i) 0)=true:=oY;rw[HQ];refine s1 hW 6 0 [true] 59 [] ?_;refine CG.fx (bF) ?_;rotate_left;have ym:(bf (Int.ofNat i) 0)=false:=pq;rw[ym];refine s1 hW 0 4 [] 127 [(54,bo (aS (Int.ofNat (UInt8.toNat x)) 48))] ?_;have xK:(aS (Int.ofNat (UInt8.toNat x)) 48)=false:=nU;rw[xK];refine s1 hW 2 0 [] 59 [(58,bo (aS 57 (Int.ofNat (UInt8.toNat x))))] ?_;refine CG.aB (show(aS 57 (Int.ofNat (UInt8.toNat x)))=true from mg) k_ ?_;refine s1 hW 3 0 [] 31 [] ?_;refine CG.fx (bF) ?_;rotate_left;have Ef:(aS 122 (Int.ofNat (UInt8.toNat x)))=false:=nU;rw[Ef];refine s3 hW 6 2 [false] [(0,so s),(2,bF),(34,lo (fun b=>[D.int IntKind.u8 (Int.ofNat (UInt8.toNat b))]) s),(35,no (List.length (List.map (fun b=>[D.int IntKind.u8 (Int.ofNat (UInt8.toNat b))]) s))),(36,io (aN IntKind.i64 (bp (Int.ofNat i) 1)))] ([]) ?_;refine CG.bU rfl ?_;rw[a7 (by omega)];rotate_left;all_goals first
     |exact⟨(),by rw[aD,show lM x=true from by simp only[lM,aam];omega];rfl,ar.refl _ _⟩
     |exact⟨(),by rw[aD,show lM x=false from by simp only[lM,aa5];omega,show Nat.beq i 0=false from cw (by omega),show cf x=true from by simp only[cf,aam];omega];rfl,ar.refl _ _⟩
     |(rw[aD,show lM x=false from by simp only[lM,aa5];omega,show Nat.beq i 0=true from by rw[show i=0 by omega];rfl];simp;done)
     |(rw[aD,show lM x=false from by simp only[lM,aa5];omega,show cf x=false from by simp only[cf,aa5];omega];simp;done)
theorem ic(hW:W0 W)(s:List UInt8)(hs:s.length<1099511627776):PC P (gl W) 115 [.d (.str s)] (.d (.bool (be s))):=mV hW s (by omega)
end Fw.Tz.Na
/-
  Names of element types, of the program and of the reference; digits cut off.
-/
namespace Fw.Tz.El
open Go Go.Proofs Fw.X Fw.Tz Fw.Nu Fw.Tz.Sd Fw.Tz.Na
variable {W:World}
theorem BJ(x:List UInt8):x=[]∨∃t c,x=t++[c]:=by
 rcases List.eq_nil_or_concat x with h|⟨t,c,h⟩
 ·exact .inl h
 ·exact .inr ⟨t,c,by rw[h,List.concat_eq_append]⟩
theorem gy(hW:W0 W)(s:List UInt8)(hs:s.length<1099511627776):PC P (gl W) 138 [.d (.str s)] (.d (.bool (cJ s))):=by
 refine CG.start RE RF rfl ?_;cases s with
  |nil=>refine s1 hW 22 0 [false] 0 [(2,bF)] ?_;refine CG.rt (bF) ?_;rfl
  |cons c t=>
   simp only[aav]at hs;refine s1 hW 8 0 [] 1 [(2,bF),(3,io 1)] ?_;rotate_left;refine CG.bV t (fun i u=>[(0,so (c::t)),(2,bF),(3,.d (.int .i64 (.ofNat (i+1))))]) (fun i u=>[]) (fun i u r=>(t.all cf=r.all cf)) () ?_ (ar.refl _ _) ?_ ?_
   ·rfl
   ·intro i u hi hd aD;refine s1 hW 4 0 [] 7 [(7,bo (aS (Int.ofNat (i+1)) (Int.ofNat (c::t).length)))] ?_;refine CG.aF (fP (i+1) (c::t).length) k_ ?_;refine CG.bl (by decide) ?_;refine s1 hW 3 9 [] 3 [(28,bo (!aS 30 (Int.ofNat (c::t).length)))] ?_;refine dT 30 (c::t).length (fun rO Pk=>?_ ) (fun rO Pk=>?_ )<;>simp only[zz]at Pk;have rQ:(aS 30 (Int.ofNat (c::t).length))=true:=mg;rw[rQ];refine s1 hW 2 0 [] 2 [] ?_;refine CG.rt (bF) ?_;rotate_left;have BH:(aS 30 (Int.ofNat (c::t).length))=false:=nU;rw[BH];refine s1 hW 0 5 [] 3 [(33,bo (!aS (Int.ofNat (UInt8.toNat c)) 65))] ?_;refine dT (UInt8.toNat c) 65 (fun jF Jd=>?_ ) (fun jF Jd=>?_ );have lO:(aS (Int.ofNat (UInt8.toNat c)) 65)=true:=mg;rw[lO];refine s1 hW 2 0 [] 2 [] ?_;refine CG.rt (bF) ?_;rotate_left;have lN:(aS (Int.ofNat (UInt8.toNat c)) 65)=false:=nU;rw[lN];refine s1 hW 2 0 [] 0 [(2,bo (!aS 90 (Int.ofNat (UInt8.toNat c))))] ?_;refine CG.rt (bo (!aS 90 (Int.ofNat (UInt8.toNat c)))) ?_;rotate_left;all_goals
     simp only[V.d.injEq,D.bool.injEq,cJ,aD,adb,acr];simp only[aav]at*;first
      |(rw[aaZ (by omega),abl];done)
      |(rw[show decide (65≤c.toNat∧c.toNat≤90)=false from aaZ (by omega),abe];done)
      |(rw[fe,aaT];simp;omega)
   ·intro i u x r hd hx bL aD;have gS:(c::t)[i+1]? =some x:=by simpa using hx
    rw[aaF]at aD;refine s1 hW 4 0 [] 7 [(7,bo (aS (Int.ofNat (i+1)) (Int.ofNat (c::t).length)))] ?_;refine CG.aB (eH (i+1) (c::t).length) k_ ?_;refine s1 hW 5 2 [] 7 [(10,so (c::t)),(11,no (i+1))] ?_;refine CG.O0 gS rfl k_ ?_;refine s1 hW 0 2 [] 7 [(14,bo (aS (Int.ofNat (UInt8.toNat x)) 48))] ?_;refine dT (UInt8.toNat x) 48 (fun jF Jd=>?_ ) (fun jF Jd=>?_ );have lO:(aS (Int.ofNat (UInt8.toNat x)) 48)=true:=mg;rw[lO];refine s1 hW 6 0 [true] 7 [] ?_;refine CG.fx (bF) ?_;rotate_left;have lN:(aS (Int.ofNat (UInt8.toNat x)) 48)=false:=nU;rw[lN];refine s1 hW 0 2 [] 15 [(15,so (c::t)),(16,no (i+1))] ?_;refine CG.O0 gS rfl k_ ?_;refine s1 hW 2 0 [] 7 [(19,bo (aS 57 (Int.ofNat (UInt8.toNat x))))] ?_;refine dT 57 (UInt8.toNat x) (fun rP SG=>?_ ) (fun rP SG=>?_ );refine CG.aB (show(aS 57 (Int.ofNat (UInt8.toNat x)))=true from mg) k_ ?_;refine s1 hW 3 0 [] 7 [] ?_;refine CG.fx (bF) ?_;rotate_left;refine CG.aF (show(aS 57 (Int.ofNat (UInt8.toNat x)))=false from nU) k_ ?_;refine s3 hW 3 3 [] [(0,so (c::t)),(2,bF),(3,io (aN IntKind.i64 (bp (Int.ofNat (i+1)) 1)))] ([]) ?_;refine CG.bU rfl ?_;rw[a7 (by omega)];rotate_left;all_goals first
     |(rw[cJ,aD,show cf x=false from by simp only[cf,aa5];omega];simp;done)
     |(rw[a7 (by omega) (by omega)];exact⟨(),by rw[aD,show cf x=true from by simp only[cf,aam];omega];rfl,ar.refl _ _⟩)
     |exact⟨(),by rw[aD,show cf x=true from by simp only[cf,aam];omega];rfl,ar.refl _ _⟩
def KD(n:Nat):Bool:=Nat.ble 48 n&&Nat.ble n 57
def tW:dU:=.cells ((List.range 256).map fun n=>.d (.bool (KD n)))
def hD:ah:=[some tW]
theorem WK(W:World):((List.range 256).map fun n=>oO W tR .e 40 282 [.ptr 0 256 0,.d (.int .u8 (.ofNat n))] hD)=((List.range 256).map fun n=>some (.d (.bool (KD n)),hD)):=k_
theorem KE(b:UInt8):KD b.toNat=cf b:=by unfold KD cf;rw[aaT];simp[abG]
theorem HR(hW:W0 W)(b:UInt8):WF P (gl W) 282 [.ptr 0 256 0,.d (.int .u8 b.toNat)] hD (iK (.d (.bool (cf b))) hD):=by have h:=acM (fun l=>l[b.toNat]? ) (WK W);have hb:b.toNat<256:=UInt8.toNat_lt b;simp only[aaO,List.getElem?_range hb,aat,aab]at h;rw[KE]at h;exact ef hW qF 40 _ _ _ _ _ h
theorem HS(hW:W0 W)(s:List UInt8)(hs:s.length<1099511627776):WF P (gl W) 241 [.d (.str s),.ptr 0 256 0] hD (iK (.d (.str (lW s))) hD):=by
 refine CG.gp Sq Sr rfl ?_;refine s1 hW 5 0 [] 3 [(4,sE)] ?_;rotate_left;refine CG.G9 (α:=List UInt8) (fun x=>[(0,.d (.str x)),(1,.ptr 0 256 0),(4,.d (.str []))]) (fun _=>[some tW]) (fun x=>lW s=lW x∧x.length<1099511627776) List.length s ⟨rfl,hs⟩ (ar.refl _ _) ?_;rintro x ⟨hx,yf⟩;cases x with
  |nil=>refine s1 hW 5 0 [false] 7 [] ?_;refine CG.bl (by decide) ?_;refine s1 hW 5 0 [] 4 [] ?_;refine CG.uB (sE) ?_;rotate_left;exact⟨by rw[hx];rfl,rfl⟩
  |cons c t=>
   refine s1 hW 10 3 [true] 7 [(8,.ptr 0 256 0),(10,.d (.int .u8 (.ofNat (UInt8.toNat c))))] ?_;refine CG.wf (HR hW c) rfl rfl k_ rfl ?_;refine s1 hW 2 0 [] 7 [(12,bo (!cf c))] ?_;refine sp (cf c) (fun q9=>?_ ) (fun q9=>?_ );refine CG.aF (b:=(!cf c)) (by rw[q9];rfl) k_ ?_;refine s1 hW 2 1 [] 7 [(13,so (c::t))] ?_;refine CG.Qw ?_;refine CG.OT 1 (c::t).length (s:=(c::t)) rfl k_ k_ k_ k_ (by(try simp only[zz]at*)<;>omega) rfl ?_;refine s3 hW 0 1 [] [(0,so (List.drop 1 (List.take (c::t).length (c::t)))),(1,.ptr 0 256 0),(4,sE)] ([some tW]) ?_;refine CG.bU rfl ?_;rotate_left;refine CG.aB (b:=(!cf c)) (by rw[q9];rfl) k_ ?_;refine CG.bl (by decide) ?_;refine s1 hW 5 0 [] 0 [(4,so (c::t))] ?_;refine CG.uB (so (c::t)) ?_;rotate_left
   ·rw[show List.drop 1 (List.take (c::t).length (c::t))=t from by rw[abH];rfl];exact⟨t,⟨by rw[hx,lW,abE,show cf c=true by assumption];rfl,by simp only[aav]at yf;omega⟩,by simp,ar.refl _ _⟩
   ·exact⟨by rw[hx,lW,abE,show cf c=false by assumption];rfl,rfl⟩
theorem HT(hW:W0 W)(s:List UInt8)(hs:s.length<1099511627776):WF P (gl W) 242 [.d (.str s),.ptr 0 256 0] hD (iK (.d (.str (iE s))) hD):=by
 refine CG.gp Ss Sw rfl ?_;refine s1 hW 5 0 [] 3 [(4,sE)] ?_;rotate_left;refine CG.G9 (α:=List UInt8) (fun x=>[(0,.d (.str x)),(1,.ptr 0 256 0),(4,.d (.str []))]) (fun _=>[some tW]) (fun x=>iE s=iE x∧x.length<1099511627776) List.length s ⟨rfl,hs⟩ (ar.refl _ _) ?_;rintro x ⟨hx,yf⟩;rcases BJ x with rfl|⟨t,c,rfl⟩
 ·refine s1 hW 5 0 [false] 7 [] ?_;refine CG.bl (by decide) ?_;refine s1 hW 5 0 [] 4 [] ?_;refine CG.uB (sE) ?_;rotate_left;exact⟨by rw[hx];rfl,rfl⟩
 ·have hl:(t++[c]).length=t.length+1:=by simp
  have hc:(t++[c])[t.length]? =some c:=by simp
  refine s1 hW 4 0 [] 7 [(7,bo (aS 0 (Int.ofNat (t++[c]).length)))] ?_;refine CG.aB (show(aS 0 (Int.ofNat (t++[c]).length))=true from mg) k_ ?_;refine s1 hW 5 5 [] 7 [(8,.ptr 0 256 0),(9,so (t++[c])),(12,io (aN IntKind.i64 (Int.ofNat (t++[c]).length - 1)))] ?_;rotate_left;rw[hl,zi (by omega)];refine CG.O0 hc rfl k_ ?_;refine CG.wf (HR hW c) rfl rfl k_ rfl ?_;refine s1 hW 2 0 [] 7 [(15,bo (!cf c))] ?_;refine sp (cf c) (fun qL=>?_ ) (fun qL=>?_ );refine CG.aF (b:=(!cf c)) (by rw[qL];rfl) k_ ?_;refine s1 hW 2 4 [] 7 [(16,so (t++[c])),(19,io (aN IntKind.i64 (Int.ofNat (t++[c]).length - 1)))] ?_;refine CG.Qw ?_;rotate_left;refine CG.aB (b:=(!cf c)) (by rw[qL];rfl) k_ ?_;refine CG.bl (by decide) ?_;refine s1 hW 5 0 [] 0 [(4,so (t++[c]))] ?_;refine CG.uB (so (t++[c])) ?_;rotate_left
  ·rw[hl,zi (by omega)];refine CG.OT 0 t.length (s:=(t++[c])) rfl k_ k_ k_ k_ (by(try simp only[zz]at*)<;>omega) rfl ?_;refine s3 hW 0 1 [] [(0,so (List.drop 0 (List.take t.length (t++[c])))),(1,.ptr 0 256 0),(4,sE)] ([some tW]) ?_;refine CG.bU rfl ?_;rotate_left;rw[show List.drop 0 (List.take t.length (t++[c]))=t by simp];exact⟨t,⟨by rw[hx,tV,show cf c=true by assumption];rfl,by omega⟩,by omega,ar.refl _ _⟩
  ·exact⟨by rw[hx,tV,show cf c=false by assumption];rfl,rfl⟩
theorem vV{p:UInt8→Bool}:∀(l:List UInt8),(l.dropWhile p).length≤l.length
 |[]=>aao _
 |a::l=>by
  rw[abE];split
  ·exact aa_ (vV l) (Nat.le_succ _)
  ·exact aao _
theorem Eg(s:List UInt8):(iE s).length≤s.length:=by unfold iE;rw[List.length_reverse];exact aa_ (vV _) (by rw[List.length_reverse];exact aao _)
theorem z6(l:List UInt8):Fw.ai l []=decide (l=[]):=by cases l<;>rfl
theorem KF(hW:W0 W)(s:List UInt8)(hs:s.length<1099511627776):PC P (gl W) 171 [.d (.str s),.d (.str [48,49,50,51,52,53,54,55,56,57])] (.d (.str (lW (iE s)))):=by
 have hl:=Eg s;have hr:(iE s).length<1099511627776:=by omega
 refine CG.start RY RZ rfl ?_;cases s with
  |nil=>refine s1 hW 11 0 [true] 3 [(4,sE)] ?_;refine CG.rt (sE) ?_;rfl
  |cons c t=>refine s4 hW 26 1 [false,false,true] 3 [(4,sE),(5,.ptr 0 256 0),(35,so (c::t))] [(0,.cells [bF,bF,bF,bF,bF,bF,bF,bF,bF,bF,bF,bF,bF,bF,bF,bF,bF,bF,bF,bF,bF,bF,bF,bF,bF,bF,bF,bF,bF,bF,bF,bF,bF,bF,bF,bF,bF,bF,bF,bF,bF,bF,bF,bF,bF,bF,bF,bF,bT,bT,bT,bT,bT,bT,bT,bT,bT,bT,bF,bF,bF,bF,bF,bF,bF,bF,bF,bF,bF,bF,bF,bF,bF,bF,bF,bF,bF,bF,bF,bF,bF,bF,bF,bF,bF,bF,bF,bF,bF,bF,bF,bF,bF,bF,bF,bF,bF,bF,bF,bF,bF,bF,bF,bF,bF,bF,bF,bF,bF,bF,bF,bF,bF,bF,bF,bF,bF,bF,bF,bF,bF,bF,bF,bF,bF,bF,bF,bF,bF,bF,bF,bF,bF,bF,bF,bF,bF,bF,bF,bF,bF,bF,bF,bF,bF,bF,bF,bF,bF,bF,bF,bF,bF,bF,bF,bF,bF,bF,bF,bF,bF,bF,bF,bF,bF,bF,bF,bF,bF,bF,bF,bF,bF,bF,bF,bF,bF,bF,bF,bF,bF,bF,bF,bF,bF,bF,bF,bF,bF,bF,bF,bF,bF,bF,bF,bF,bF,bF,bF,bF,bF,bF,bF,bF,bF,bF,bF,bF,bF,bF,bF,bF,bF,bF,bF,bF,bF,bF,bF,bF,bF,bF,bF,bF,bF,bF,bF,bF,bF,bF,bF,bF,bF,bF,bF,bF,bF,bF,bF,bF,bF,bF,bF,bF,bF,bF,bF,bF,bF,bF,bF,bF,bF,bF,bF,bF])] ?_;refine CG.wf (HT hW (c::t) hs) rfl rfl k_ rfl ?_;refine CG.wf (HS hW (iE (c::t)) hr) rfl rfl k_ rfl ?_;refine s1 hW 2 0 [] 3 [(4,so (lW (iE (c::t))))] ?_;refine CG.rt (so (lW (iE (c::t)))) ?_;with_reducible rfl
theorem eg(hW:W0 W)(s:List UInt8)(hs:s.length<1099511627776):PC P (gl W) 111 [.d (.str s)] (.d (.bool (cJ s))):=by
 refine CG.start Rl Rm rfl ?_;cases s with
  |nil=>refine s1 hW 11 0 [true] 1 [(2,bF)] ?_;refine CG.rt (bF) ?_;rfl
  |cons c t=>
   have ht:t.length<1099511627776:=by simp only[aav]at hs;omega
   refine s1 hW 5 9 [] 1 [(2,bF),(11,bo (aS 30 (Int.ofNat (c::t).length)))] ?_;refine dT 30 (c::t).length (fun q8 p8=>?_ ) (fun q8 p8=>?_ )<;>simp only[zz]at p8;have q9:(aS 30 (Int.ofNat (c::t).length))=true:=mg;rw[q9];refine s1 hW 6 0 [true] 3 [] ?_;refine CG.rt (bF) ?_;rotate_left;have uV:(aS 30 (Int.ofNat (c::t).length))=false:=nU;rw[uV];refine s1 hW 0 5 [] 3 [(16,bo (aS (Int.ofNat (UInt8.toNat c)) 65))] ?_;refine dT (UInt8.toNat c) 65 (fun rO Pk=>?_ ) (fun rO Pk=>?_ );have rQ:(aS (Int.ofNat (UInt8.toNat c)) 65)=true:=mg;rw[rQ];refine s1 hW 6 0 [true] 3 [] ?_;refine CG.rt (bF) ?_;rotate_left;have BH:(aS (Int.ofNat (UInt8.toNat c)) 65)=false:=nU;rw[BH];refine s1 hW 2 0 [] 3 [(20,bo (aS 90 (Int.ofNat (UInt8.toNat c))))] ?_;refine dT 90 (UInt8.toNat c) (fun kR zY=>?_ ) (fun kR zY=>?_ );refine CG.aB (show(aS 90 (Int.ofNat (UInt8.toNat c)))=true from mg) k_ ?_;refine s1 hW 3 0 [] 3 [] ?_;refine CG.rt (bF) ?_;rotate_left;refine CG.aF (show(aS 90 (Int.ofNat (UInt8.toNat c)))=false from nU) k_ ?_;refine s1 hW 3 1 [] 2 [(21,so (c::t))] ?_;refine CG.OT 1 (c::t).length (s:=(c::t)) rfl k_ k_ k_ k_ (by(try simp only[zz]at*)<;>omega) rfl ?_;rotate_left
   ·rw[cJ,aaZ (by simp only[aav]at*;omega)];rfl
   ·rw[cJ,show decide (65≤c.toNat∧c.toNat≤90)=false from aaZ (by omega),abe];rfl
   ·rw[cJ,show decide (65≤c.toNat∧c.toNat≤90)=false from aaZ (by omega),abe];rfl
   ·rw[show List.drop 1 (List.take (c::t).length (c::t))=t from by rw[abH];rfl];refine CG.pg (KF hW _ ht) rfl k_ ?_;refine s1 hW 2 0 [] 0 [(2,bo (ai (lW (iE t)) []))] ?_;refine CG.rt (bo (ai (lW (iE t)) [])) ?_;rotate_left;rw[cJ,aaK (by simp only[aav]at*;omega),aaK (by omega),z6,aaE,aaE,V.d.injEq,D.bool.injEq,aaT,aam];exact HO t
end Fw.Tz.El
/-
  Expressions, shapes and types that are valid; what the program and the reference say of any.
-/
namespace Fw.Tz.Va
open Go Go.Proofs Fw.X Fw.Tz Fw.Nu Fw.Tz.Sd Fw.Tz.Na
variable {W:World}
structure Cf where
 var:List UInt8
 c:Int
def Cf.aa(x:Cf):List D:=[.str x.var,.int .i64 x.c]
structure aj where
 c:Int
 ts:List Cf
def aj.aa(x:aj):List D:=[.int .i64 x.c,.list (x.ts.map Cf.aa)]
structure Ty where
 elem:List UInt8
 row:List UInt8
 ae:List aj
def Ty.aa(x:Ty):List D:=[.str x.elem,.str x.row,.list (x.ae.map aj.aa)]
@[simp,reducible] def aj.ce(x:aj):List V:=[Fw.io x.c,Fw.lo Cf.aa x.ts]
@[simp,reducible] def Ty.ce(x:Ty):List V:=[Fw.so x.elem,Fw.so x.row,Fw.lo aj.aa x.ae]
def gO:Option (List UInt8)→List UInt8→Bool|none,_=>true|some q,v=>Fw.bytesLess q v
def cN:Option (List UInt8)→List Cf→Bool|_,[]=>true|p,t::r=>be t.var&& !(t.c==0)&&aZ t.c&&gO p t.var&&cN (some t.var) r
def bc(c:Int)(ts:List Cf):Bool:=aZ c&&decide (ts.length≤12)&&cN none ts
def aj.ok(x:aj):Bool:=bc x.c x.ts
theorem dx(hW:W0 W)(c:Int)(ts:List Cf)(hl:ts.length<1099511627776):PC P (gl W) 97 [.agg [.d (.int .i64 c),.d (.list (ts.map Cf.aa))]] (.d (.bool (bc c ts))):=by
 refine CG.start Re Rf rfl ?_;refine s4 hW 5 2 [] 0 [(1,.ptr 0 2 0),(2,bF),(6,io c)] [(0,.cells [io c,lo Cf.aa ts])] ?_;refine CG.pg (e8 hW c) rfl k_ ?_;refine s1 hW 0 2 [] 3 [(9,bo (!aZ c))] ?_;refine sp (aZ c) (fun q6=>?_ ) (fun q6=>?_ );rw[q6];refine s1 hW 2 0 [] 3 [(14,bo (aS 12 (Int.ofNat (ts.map Cf.aa).length)))] ?_;refine dT 12 (ts.map Cf.aa).length (fun q7 p7=>?_ ) (fun q7 p7=>?_ )<;>simp only[zz]at p7;refine CG.aB (show(aS 12 (Int.ofNat (ts.map Cf.aa).length))=true from mg) k_ ?_;refine s1 hW 3 0 [] 3 [] ?_;refine CG.rt (bF) ?_;rotate_left;refine CG.aF (show(aS 12 (Int.ofNat (ts.map Cf.aa).length))=false from nU) k_ ?_;refine s1 hW 7 0 [] 3 [(3,i0)] ?_;rotate_left;rw[q6];refine s1 hW 6 0 [true] 3 [] ?_;refine CG.rt (bF) ?_;rotate_left
 ·rw[bc,aaZ (by omega),abe,abl]
 ·skip;refine CG.bV ts (fun i a=>[(1,.ptr 0 2 0),(2,bF),(3,.d (.int .i64 (.ofNat i)))]) (fun i a=>[some (.cells [io c,lo Cf.aa ts])]) (fun i a r=>(cN none ts=cN a r∧(i=0→a=none)∧∀k,i=k+1→∃y,ts[k]? =some y∧a=some y.var)) none ?_ (ar.refl _ _) ?_ ?_
  ·exact⟨rfl,fun _=>rfl,fun k hk=>by omega⟩
  ·intro i a hi hd aD;obtain⟨hv,-,-⟩:=aD;refine s1 hW 4 0 [] 7 [(19,bo (aS (Int.ofNat i) (Int.ofNat (ts.map Cf.aa).length)))] ?_;refine CG.aF (fP i (ts.map Cf.aa).length) k_ ?_;refine CG.bl (by decide) ?_;refine s1 hW 5 0 [] 0 [(2,bT)] ?_;refine CG.rt (bT) ?_;rotate_left;rw[bc,hv,aaK (by omega)];simp[cN, *]
  ·intro i a x r hd hx bL aD;obtain⟨hv,h0,h1⟩:=aD;rw[cN]at hv;cases i with
    |zero=>cases h0 rfl;refine s1 hW 4 0 [] 7 [(19,bo (aS 0 (Int.ofNat (ts.map Cf.aa).length)))] ?_;refine CG.aB (show(aS 0 (Int.ofNat (ts.map Cf.aa).length))=true from mg) k_ ?_;refine s1 hW 5 3 [] 7 [(23,lo Cf.aa ts),(24,i0)] ?_;refine CG.ix (ay (aa:=Cf.aa) hx) rfl k_ ?_;refine s4 hW 3 0 [] 7 [(4,.ptr 1 2 0)] [(1,.cells [so x.var,io x.c])] ?_;refine CG.iC bE k_ k_ ?_;refine AO.rd 2 [(27,.ptr 1 2 0),(28,so x.var)] k_ ?_;refine AO.jM (cZ hW x.var) rfl k_ k_ ?_;refine AO.rd 2 [(30,bo (!be x.var)),(31,bo (!be x.var))] k_ ?_;refine sp (be x.var) (fun lO=>?_ ) (fun lO=>?_ );rw[lO];refine AO.rd 5 [(32,.ptr 1 2 1),(33,io x.c),(34,bo (Cf.c x==0)),(35,bo (Cf.c x==0)),(36,bo (Cf.c x==0))] k_ ?_;refine zk x.c 0 (fun rP SG=>?_ ) (fun rP SG=>?_ );rw[rP];refine AO.rd 21 [(37,tE),(38,tE),(39,tE),(40,tE),(41,bT),(42,bT),(43,tE),(44,tE),(45,tE),(46,tE),(47,tE),(48,tE),(49,tE),(50,tE),(51,tE),(52,tE),(53,tE),(54,tE),(55,tE),(56,tE),(57,bT)] k_ ?_;refine AO.done [1,2,3,57] rfl rfl k_ ?_;refine s1 hW 5 0 [true] 7 [] ?_;refine CG.fx (bF) ?_;rotate_left;rw[rP];refine AO.rd 2 [(37,.ptr 1 2 1),(38,io x.c)] k_ ?_;refine AO.jM (e8 hW x.c) rfl k_ k_ ?_;refine AO.rd 3 [(40,bo (!aZ x.c)),(41,bo (!aZ x.c)),(42,bo (!aZ x.c))] k_ ?_;refine sp (aZ x.c) (fun jd=>?_ ) (fun jd=>?_ );rw[jd];refine AO.rd 15 [(43,i0),(44,bF),(45,bF),(46,tE),(47,tE),(48,tE),(49,tE),(50,tE),(51,tE),(52,tE),(53,tE),(54,tE),(55,tE),(56,bF),(57,bF)] k_ ?_;refine AO.done [1,2,3,57] rfl rfl k_ ?_;refine s3 hW 5 3 [false] [(1,.ptr 0 2 0),(2,bF),(3,io 1)] ([some (.cells [io c,lo Cf.aa ts]),some (.cells [so x.var,io x.c])]) ?_;refine CG.bU rfl ?_;rotate_left;rw[jd];refine AO.rd 15 [(43,tE),(44,tE),(45,tE),(46,tE),(47,tE),(48,tE),(49,tE),(50,tE),(51,tE),(52,tE),(53,tE),(54,tE),(55,tE),(56,tE),(57,bT)] k_ ?_;refine AO.done [1,2,3,57] rfl rfl k_ ?_;refine s1 hW 5 0 [true] 7 [] ?_;refine CG.fx (bF) ?_;rotate_left;rw[lO];refine AO.rd 26 [(32,tE),(33,tE),(34,tE),(35,bT),(36,bT),(37,tE),(38,tE),(39,tE),(40,tE),(41,bT),(42,bT),(43,tE),(44,tE),(45,tE),(46,tE),(47,tE),(48,tE),(49,tE),(50,tE),(51,tE),(52,tE),(53,tE),(54,tE),(55,tE),(56,tE),(57,bT)] k_ ?_;refine AO.done [1,2,3,57] rfl rfl k_ ?_;refine s1 hW 5 0 [true] 7 [] ?_;refine CG.fx (bF) ?_;rotate_left;all_goals first|(simp only[bc,hv,gO];simp[*];done)|(refine⟨some x.var,⟨by rw[hv];simp[gO, *],fun h=>by omega,fun k hk=>⟨x,by rw[show k=0 by omega];exact hx,rfl⟩⟩,ar.trim 1 [1,2,3] rfl rfl rfl rfl rfl⟩;done)
    |succ k=>obtain⟨y,hy,rfl⟩:=h1 k rfl;refine s1 hW 4 0 [] 7 [(19,bo (aS (Int.ofNat (k+1)) (Int.ofNat (ts.map Cf.aa).length)))] ?_;refine CG.aB (eH (k+1) (ts.map Cf.aa).length) k_ ?_;refine s1 hW 5 3 [] 7 [(23,lo Cf.aa ts),(24,no (k+1))] ?_;refine CG.ix (ay (aa:=Cf.aa) hx) rfl k_ ?_;refine s4 hW 3 0 [] 7 [(4,.ptr 1 2 0)] [(1,.cells [so x.var,io x.c])] ?_;refine CG.iC bE k_ k_ ?_;refine AO.rd 2 [(27,.ptr 1 2 0),(28,so x.var)] k_ ?_;refine AO.jM (cZ hW x.var) rfl k_ k_ ?_;refine AO.rd 2 [(30,bo (!be x.var)),(31,bo (!be x.var))] k_ ?_;refine sp (be x.var) (fun jd=>?_ ) (fun jd=>?_ );rw[jd];refine AO.rd 5 [(32,.ptr 1 2 1),(33,io x.c),(34,bo (Cf.c x==0)),(35,bo (Cf.c x==0)),(36,bo (Cf.c x==0))] k_ ?_;refine zk x.c 0 (fun pG N4=>?_ ) (fun pG N4=>?_ );rw[pG];refine AO.rd 21 [(37,tE),(38,tE),(39,tE),(40,tE),(41,bT),(42,bT),(43,tE),(44,tE),(45,tE),(46,tE),(47,tE),(48,tE),(49,tE),(50,tE),(51,tE),(52,tE),(53,tE),(54,tE),(55,tE),(56,tE),(57,bT)] k_ ?_;refine AO.done [1,2,3,57] rfl rfl k_ ?_;refine s1 hW 5 0 [true] 7 [] ?_;refine CG.fx (bF) ?_;rotate_left;rw[pG];refine AO.rd 2 [(37,.ptr 1 2 1),(38,io x.c)] k_ ?_;refine AO.jM (e8 hW x.c) rfl k_ k_ ?_;refine AO.rd 3 [(40,bo (!aZ x.c)),(41,bo (!aZ x.c)),(42,bo (!aZ x.c))] k_ ?_;refine sp (aZ x.c) (fun mc=>?_ ) (fun mc=>?_ );rw[mc];refine AO.rd 3 [(43,no (k+1)),(44,bo (decide (0<Int.ofNat (k+1)))),(45,bo (decide (0<Int.ofNat (k+1))))] k_ ?_;have xJ:(decide (0<Int.ofNat (k+1)))=true:=aaK (by(try simp only[zz]at*)<;>omega);rw[xJ];refine AO.rd 4 [(46,.ptr 0 2 1),(47,lo Cf.aa ts),(48,no (k+1)),(49,io (IntKind.wrap IntKind.i64 (Int.ofNat (k+1) - 1)))] k_ ?_;rw[nt (by omega)];refine AO.idx (ay (aa:=Cf.aa) hy) rfl k_ k_ k_ rfl ?_;refine AO.rd 7 [(51,.cA [.str y.var]),(52,so y.var),(53,.ptr 1 2 0),(54,so x.var),(55,bo (!bytesLess y.var x.var)),(56,bo (!bytesLess y.var x.var)),(57,bo (!bytesLess y.var x.var))] k_ ?_;refine AO.done [1,2,3,57] rfl rfl k_ ?_;refine s1 hW 1 0 [] 15 [] ?_;refine sp (bytesLess y.var x.var) (fun zZ=>?_ ) (fun zZ=>?_ );refine CG.aF (b:=(!bytesLess y.var x.var)) (by rw[zZ];rfl) k_ ?_;refine s3 hW 3 3 [] [(1,.ptr 0 2 0),(2,bF),(3,io (aN IntKind.i64 (bp (Int.ofNat (k+1)) 1)))] ([some (.cells [io c,lo Cf.aa ts]),some (.cells [so x.var,io x.c])]) ?_;refine CG.bU rfl ?_;rw[a7 (by omega)];rotate_left;refine CG.aB (b:=(!bytesLess y.var x.var)) (by rw[zZ];rfl) k_ ?_;refine s1 hW 3 0 [] 7 [] ?_;refine CG.fx (bF) ?_;rotate_left;rw[mc];refine AO.rd 15 [(43,tE),(44,tE),(45,tE),(46,tE),(47,tE),(48,tE),(49,tE),(50,tE),(51,tE),(52,tE),(53,tE),(54,tE),(55,tE),(56,tE),(57,bT)] k_ ?_;refine AO.done [1,2,3,57] rfl rfl k_ ?_;refine s1 hW 5 0 [true] 7 [] ?_;refine CG.fx (bF) ?_;rotate_left;rw[jd];refine AO.rd 26 [(32,tE),(33,tE),(34,tE),(35,bT),(36,bT),(37,tE),(38,tE),(39,tE),(40,tE),(41,bT),(42,bT),(43,tE),(44,tE),(45,tE),(46,tE),(47,tE),(48,tE),(49,tE),(50,tE),(51,tE),(52,tE),(53,tE),(54,tE),(55,tE),(56,tE),(57,bT)] k_ ?_;refine AO.done [1,2,3,57] rfl rfl k_ ?_;refine s1 hW 5 0 [true] 7 [] ?_;refine CG.fx (bF) ?_;rotate_left;all_goals first|(simp only[bc,hv,gO];simp[*];done)|(refine⟨some x.var,⟨by rw[hv];simp[gO, *],fun h=>by omega,fun k2 hk=>⟨x,by rw[show k2=k+1 by omega];exact hx,rfl⟩⟩,ar.trim 1 [1,2,3] rfl rfl rfl rfl rfl⟩;done)
 ·rw[bc,show aZ c=false by assumption];rfl
theorem ny(hW:W0 W)(c:Int)(ts:List Cf)(hl:ts.length<1099511627776)(dI:∀t∈ts,t.var.length≤281474976710656):PC P (gl W) 89 [.agg [.d (.int .i64 c),.d (.list (ts.map Cf.aa))]] (.d (.bool (bc c ts))):=by
 refine CG.start Rb Rc rfl ?_;refine s4 hW 8 0 [] 0 [(1,.ptr 0 2 0),(2,bF),(6,lo Cf.aa ts),(7,no (ts.map Cf.aa).length),(8,i0)] [(0,.cells [io c,lo Cf.aa ts])] ?_;rotate_left
 ·skip;refine CG.bV ts (fun i a=>[(1,.ptr 0 2 0),(2,bF),(6,lo Cf.aa ts),(7,no (ts.map Cf.aa).length),(8,.d (.int .i64 (.ofNat i)))]) (fun i a=>[some (.cells [io c,lo Cf.aa ts])]) (fun i a r=>(cN none ts=cN a r∧(i=0→a=none)∧∀k,i=k+1→∃y,ts[k]? =some y∧a=some y.var)) none ?_ (ar.refl _ _) ?_ ?_
  ·exact⟨rfl,fun _=>rfl,fun k hk=>by omega⟩
  ·intro i a hi hd aD;obtain⟨hv,-,-⟩:=aD;refine s1 hW 4 0 [] 23 [(9,bo (aS (Int.ofNat i) (Int.ofNat (ts.map Cf.aa).length)))] ?_;refine CG.aF (fP i (ts.map Cf.aa).length) k_ ?_;refine CG.bl (by decide) ?_;refine s1 hW 3 2 [] 3 [(46,io c)] ?_;refine CG.pg (vU hW c) rfl k_ ?_;refine s1 hW 0 1 [] 3 [(48,bo (aZ c))] ?_;refine sp (aZ c) (fun rO=>?_ ) (fun rO=>?_ );rw[rO];refine s1 hW 2 0 [] 0 [(2,bo (!aS 12 (Int.ofNat (ts.map Cf.aa).length)))] ?_;refine CG.rt (bo (!aS 12 (Int.ofNat (ts.map Cf.aa).length))) ?_;rotate_left;rw[rO];refine s1 hW 2 0 [] 2 [] ?_;refine CG.rt (bF) ?_;rotate_left
   ·rw[bc,hv,show aZ c=true by assumption,fe,aar,V.d.injEq,D.bool.injEq,aaT];simp[cN];omega
   ·rw[bc,show aZ c=false by assumption];rfl
  ·intro i a x r hd hx bL aD;obtain⟨hv,h0,h1⟩:=aD;rw[cN]at hv;cases i with
    |zero=>cases h0 rfl;refine s1 hW 4 0 [] 31 [(9,bo (aS 0 (Int.ofNat (ts.map Cf.aa).length)))] ?_;refine CG.aB (show(aS 0 (Int.ofNat (ts.map Cf.aa).length))=true from mg) k_ ?_;refine s1 hW 5 1 [] 31 [(10,i0)] ?_;refine CG.ix (ay (aa:=Cf.aa) hx) rfl k_ ?_;refine s4 hW 3 0 [] 31 [(3,i0),(4,.ptr 1 2 0)] [(1,.cells [so x.var,io x.c])] ?_;refine CG.iC bE k_ k_ ?_;refine AO.rd 2 [(13,.ptr 1 2 0),(14,so x.var)] k_ ?_;refine AO.jM (mV hW x.var (dI x (aap hx))) rfl k_ k_ ?_;refine AO.rd 2 [(16,bo (!be x.var)),(17,bo (!be x.var))] k_ ?_;refine sp (be x.var) (fun kR=>?_ ) (fun kR=>?_ );rw[kR];refine AO.rd 5 [(18,.ptr 1 2 1),(19,io x.c),(20,bo (Cf.c x==0)),(21,bo (Cf.c x==0)),(22,bo (Cf.c x==0))] k_ ?_;refine zk x.c 0 (fun lO Pm=>?_ ) (fun lO Pm=>?_ );rw[lO];refine AO.rd 21 [(23,tE),(24,tE),(25,tE),(26,tE),(27,bT),(28,bT),(29,tE),(30,tE),(31,tE),(32,tE),(33,tE),(34,tE),(35,tE),(36,tE),(37,tE),(38,tE),(39,tE),(40,tE),(41,tE),(42,tE),(43,bT)] k_ ?_;refine AO.done [1,2,6,7,8,43] rfl rfl k_ ?_;refine s1 hW 5 0 [true] 31 [] ?_;refine CG.fx (bF) ?_;rotate_left;rw[lO];refine AO.rd 2 [(23,.ptr 1 2 1),(24,io x.c)] k_ ?_;refine AO.jM (vU hW x.c) rfl k_ k_ ?_;refine AO.rd 3 [(26,bo (!aZ x.c)),(27,bo (!aZ x.c)),(28,bo (!aZ x.c))] k_ ?_;refine sp (aZ x.c) (fun lN=>?_ ) (fun lN=>?_ );rw[lN];refine AO.rd 15 [(29,i0),(30,bF),(31,bF),(32,tE),(33,tE),(34,tE),(35,tE),(36,tE),(37,tE),(38,tE),(39,tE),(40,tE),(41,tE),(42,bF),(43,bF)] k_ ?_;refine AO.done [1,2,6,7,8,43] rfl rfl k_ ?_;refine s3 hW 5 2 [false] [(1,.ptr 0 2 0),(2,bF),(6,lo Cf.aa ts),(7,no (ts.map Cf.aa).length),(8,io 1)] ([some (.cells [io c,lo Cf.aa ts]),some (.cells [so x.var,io x.c])]) ?_;refine CG.bU rfl ?_;rotate_left;rw[lN];refine AO.rd 15 [(29,tE),(30,tE),(31,tE),(32,tE),(33,tE),(34,tE),(35,tE),(36,tE),(37,tE),(38,tE),(39,tE),(40,tE),(41,tE),(42,tE),(43,bT)] k_ ?_;refine AO.done [1,2,6,7,8,43] rfl rfl k_ ?_;refine s1 hW 5 0 [true] 31 [] ?_;refine CG.fx (bF) ?_;rotate_left;rw[kR];refine AO.rd 26 [(18,tE),(19,tE),(20,tE),(21,bT),(22,bT),(23,tE),(24,tE),(25,tE),(26,tE),(27,bT),(28,bT),(29,tE),(30,tE),(31,tE),(32,tE),(33,tE),(34,tE),(35,tE),(36,tE),(37,tE),(38,tE),(39,tE),(40,tE),(41,tE),(42,tE),(43,bT)] k_ ?_;refine AO.done [1,2,6,7,8,43] rfl rfl k_ ?_;refine s1 hW 5 0 [true] 31 [] ?_;refine CG.fx (bF) ?_;rotate_left;all_goals first|(simp only[bc,hv,gO];simp[*];done)|(refine⟨some x.var,⟨by rw[hv];simp[gO, *],fun h=>by omega,fun k hk=>⟨x,by rw[show k=0 by omega];exact hx,rfl⟩⟩,ar.trim 1 [1,2,6,7,8] rfl rfl rfl rfl rfl⟩;done)
    |succ k=>obtain⟨y,hy,rfl⟩:=h1 k rfl;refine s1 hW 4 0 [] 31 [(9,bo (aS (Int.ofNat (k+1)) (Int.ofNat (ts.map Cf.aa).length)))] ?_;refine CG.aB (eH (k+1) (ts.map Cf.aa).length) k_ ?_;refine s1 hW 5 1 [] 31 [(10,no (k+1))] ?_;refine CG.ix (ay (aa:=Cf.aa) hx) rfl k_ ?_;refine s4 hW 3 0 [] 31 [(3,no (k+1)),(4,.ptr 1 2 0)] [(1,.cells [so x.var,io x.c])] ?_;refine CG.iC bE k_ k_ ?_;refine AO.rd 2 [(13,.ptr 1 2 0),(14,so x.var)] k_ ?_;refine AO.jM (mV hW x.var (dI x (aap hx))) rfl k_ k_ ?_;refine AO.rd 2 [(16,bo (!be x.var)),(17,bo (!be x.var))] k_ ?_;refine sp (be x.var) (fun lN=>?_ ) (fun lN=>?_ );rw[lN];refine AO.rd 5 [(18,.ptr 1 2 1),(19,io x.c),(20,bo (Cf.c x==0)),(21,bo (Cf.c x==0)),(22,bo (Cf.c x==0))] k_ ?_;refine zk x.c 0 (fun jd Eh=>?_ ) (fun jd Eh=>?_ );rw[jd];refine AO.rd 21 [(23,tE),(24,tE),(25,tE),(26,tE),(27,bT),(28,bT),(29,tE),(30,tE),(31,tE),(32,tE),(33,tE),(34,tE),(35,tE),(36,tE),(37,tE),(38,tE),(39,tE),(40,tE),(41,tE),(42,tE),(43,bT)] k_ ?_;refine AO.done [1,2,6,7,8,43] rfl rfl k_ ?_;refine s1 hW 5 0 [true] 31 [] ?_;refine CG.fx (bF) ?_;rotate_left;rw[jd];refine AO.rd 2 [(23,.ptr 1 2 1),(24,io x.c)] k_ ?_;refine AO.jM (vU hW x.c) rfl k_ k_ ?_;refine AO.rd 3 [(26,bo (!aZ x.c)),(27,bo (!aZ x.c)),(28,bo (!aZ x.c))] k_ ?_;refine sp (aZ x.c) (fun kg=>?_ ) (fun kg=>?_ );rw[kg];refine AO.rd 3 [(29,no (k+1)),(30,bo (decide (0<Int.ofNat (k+1)))),(31,bo (decide (0<Int.ofNat (k+1))))] k_ ?_;have pG:(decide (0<Int.ofNat (k+1)))=true:=aaK (by(try simp only[zz]at*)<;>omega);rw[pG];refine AO.rd 4 [(32,.ptr 0 2 1),(33,lo Cf.aa ts),(34,no (k+1)),(35,io (IntKind.wrap IntKind.i64 (Int.ofNat (k+1) - 1)))] k_ ?_;rw[nt (by omega)];refine AO.idx (ay (aa:=Cf.aa) hy) rfl k_ k_ k_ rfl ?_;refine AO.rd 7 [(37,.cA [.str y.var]),(38,so y.var),(39,.ptr 1 2 0),(40,so x.var),(41,bo (!bytesLess y.var x.var)),(42,bo (!bytesLess y.var x.var)),(43,bo (!bytesLess y.var x.var))] k_ ?_;refine AO.done [1,2,6,7,8,43] rfl rfl k_ ?_;refine s1 hW 1 0 [] 63 [] ?_;refine sp (bytesLess y.var x.var) (fun mc=>?_ ) (fun mc=>?_ );refine CG.aF (b:=(!bytesLess y.var x.var)) (by rw[mc];rfl) k_ ?_;refine s3 hW 3 2 [] [(1,.ptr 0 2 0),(2,bF),(6,lo Cf.aa ts),(7,no (ts.map Cf.aa).length),(8,io (aN IntKind.i64 (bp (Int.ofNat (k+1)) 1)))] ([some (.cells [io c,lo Cf.aa ts]),some (.cells [so x.var,io x.c])]) ?_;refine CG.bU rfl ?_;rw[a7 (by omega)];rotate_left;refine CG.aB (b:=(!bytesLess y.var x.var)) (by rw[mc];rfl) k_ ?_;refine s1 hW 3 0 [] 31 [] ?_;refine CG.fx (bF) ?_;rotate_left;rw[kg];refine AO.rd 15 [(29,tE),(30,tE),(31,tE),(32,tE),(33,tE),(34,tE),(35,tE),(36,tE),(37,tE),(38,tE),(39,tE),(40,tE),(41,tE),(42,tE),(43,bT)] k_ ?_;refine AO.done [1,2,6,7,8,43] rfl rfl k_ ?_;refine s1 hW 5 0 [true] 31 [] ?_;refine CG.fx (bF) ?_;rotate_left;rw[lN];refine AO.rd 26 [(18,tE),(19,tE),(20,tE),(21,bT),(22,bT),(23,tE),(24,tE),(25,tE),(26,tE),(27,bT),(28,bT),(29,tE),(30,tE),(31,tE),(32,tE),(33,tE),(34,tE),(35,tE),(36,tE),(37,tE),(38,tE),(39,tE),(40,tE),(41,tE),(42,tE),(43,bT)] k_ ?_;refine AO.done [1,2,6,7,8,43] rfl rfl k_ ?_;refine s1 hW 5 0 [true] 31 [] ?_;refine CG.fx (bF) ?_;rotate_left;all_goals first|(simp only[bc,hv,gO];simp[*];done)|(refine⟨some x.var,⟨by rw[hv];simp[gO, *],fun h=>by omega,fun k2 hk=>⟨x,by rw[show k2=k+1 by omega];exact hx,rfl⟩⟩,ar.trim 1 [1,2,6,7,8] rfl rfl rfl rfl rfl⟩;done)
theorem HU(hW:W0 W)(c:Int)(ts:List Cf)(hl:ts.length<1099511627776)(dI:∀t∈ts,t.var.length<1099511627776):PC P (gl W) 89 [.agg [.d (.int .i64 c),.d (.list (ts.map Cf.aa))]] (.d (.bool (bc c ts))):=ny hW c ts hl (fun t ht=>by have:=dI t ht;omega)
end Fw.Tz.Va
/-
  Shapes and types that are valid; what the program and the reference say of any.
-/
namespace Fw.Tz.Vb
open Go Go.Proofs Fw.X Fw.Tz Fw.Nu Fw.Tz.Sd Fw.Tz.Na Fw.Tz.El Fw.Tz.Va
variable {W:World}
def iU:Option Nat→V|some i=>.d (.int .i64 (.ofNat i))|none=>.d (.int .i64 (-1))
def aj.sm(x:aj):Prop:=x.ts.length<1099511627776∧∀t∈x.ts,t.var.length<1099511627776
def bad(x:aj):Bool:= !bc x.c x.ts
def fT(s:List UInt8):Bool:=Fw.ai s []||be s
def cV(row:List UInt8)(ae:List aj):Bool:=fT row&&decide (ae.length≤6)&&ae.all aj.ok
def Ei:List UInt8:=[105,110,116]
def vW:List UInt8:=[98,111,111,108]
def j7(e:List UInt8):Bool:=Fw.ai e Ei||Fw.ai e vW||cJ e
def yn(t:Ty):Bool:=j7 t.elem&&cV t.row t.ae
theorem fy(l:List aj):l.any bad= !l.all aj.ok:=by
 induction l with
  |nil=>rfl
  |cons x l ih=>rw[List.any_cons,aaF,ih,Bool.not_and];rfl
theorem xL(hW:W0 W)(row:List UInt8)(ae:List aj)(hl:ae.length<1099511627776)(hd:∀x∈ae,aj.sm x):PC P (gl W) 63 [.agg [.d (.str row),.d (.list (ae.map aj.aa))]] (.d (.bool (cV row ae))):=by
 refine CG.start Q_ Ra rfl ?_;refine s4 hW 8 0 [] 0 [(1,.ptr 0 2 0),(2,bF),(3,i0)] [(0,.cells [so row,lo aj.aa ae])] ?_;rotate_left;refine CG.bV ae (fun i u=>[(1,.ptr 0 2 0),(2,bF),(3,.d (.int .i64 (.ofNat i)))]) (fun i u=>[some (.cells [so row,lo aj.aa ae])]) (fun i u r=>(ae.all aj.ok=r.all aj.ok)) () ?_ (ar.refl _ _) ?_ ?_
 ·rfl
 ·intro i u hi hd aD;refine s1 hW 4 0 [] 7 [(8,bo (aS (Int.ofNat i) (Int.ofNat (ae.map aj.aa).length)))] ?_;refine CG.aF (fP i (ae.map aj.aa).length) k_ ?_;refine CG.bl (by decide) ?_;refine s1 hW 3 5 [] 3 [(22,bo (!aS 6 (Int.ofNat (ae.map aj.aa).length)))] ?_;refine dT 6 (ae.map aj.aa).length (fun rQ LV=>?_ ) (fun rQ LV=>?_ )<;>simp only[zz]at LV;have BH:(aS 6 (Int.ofNat (ae.map aj.aa).length))=true:=mg;rw[BH];refine s1 hW 2 0 [] 2 [] ?_;refine CG.rt (bF) ?_;rotate_left;have kR:(aS 6 (Int.ofNat (ae.map aj.aa).length))=false:=nU;rw[kR];refine s1 hW 0 4 [] 7 [(26,bo (ai row []))] ?_;refine sp (ai row []) (fun jF=>?_ ) (fun jF=>?_ );rw[jF];refine s1 hW 2 0 [] 0 [(2,bT)] ?_;refine CG.rt (bT) ?_;rotate_left;rw[jF];refine s1 hW 0 2 [] 14 [(28,so row)] ?_;refine CG.pg (cZ hW row) rfl k_ ?_;refine s1 hW 2 0 [] 0 [(2,bo (be row))] ?_;refine CG.rt (bo (be row)) ?_;rotate_left;all_goals first
   |(
    have h6:ae.length≤6:=by omega
    simp[cV,fT,fy, *];done)
   |(
    have h6:¬ae.length≤6:=by omega
    simp[cV,fT,fy, *];done)
   |(simp[cV,fT,fy, *];done)
 ·intro i u x r dn hx bL aD;have hs:=hd x (aap hx);rw[aaF]at aD;refine s1 hW 4 0 [] 7 [(8,bo (aS (Int.ofNat i) (Int.ofNat (ae.map aj.aa).length)))] ?_;refine CG.aB (eH i (ae.map aj.aa).length) k_ ?_;refine s1 hW 5 3 [] 7 [(12,lo aj.aa ae),(13,no i)] ?_;refine CG.ix (ay (aa:=aj.aa) hx) rfl k_ ?_;refine s1 hW 0 1 [] 7 [(15,.agg x.ce)] ?_;refine CG.pg (dx hW x.c x.ts (And.left hs)) rfl k_ ?_;refine s1 hW 2 0 [] 7 [(17,bo (!bc x.c x.ts))] ?_;refine sp (bc x.c x.ts) (fun jF=>?_ ) (fun jF=>?_ );refine CG.aF (b:=(!bc x.c x.ts)) (by rw[jF];rfl) k_ ?_;refine s3 hW 3 3 [] [(1,.ptr 0 2 0),(2,bF),(3,io (aN IntKind.i64 (bp (Int.ofNat i) 1)))] ([some (.cells [so row,lo aj.aa ae])]) ?_;refine CG.bU rfl ?_;rw[a7 (by omega)];rotate_left;refine CG.aB (b:=(!bc x.c x.ts)) (by rw[jF];rfl) k_ ?_;refine s1 hW 3 0 [] 7 [] ?_;refine CG.fx (bF) ?_;rotate_left
  ·exact⟨(),by rw[aD,show aj.ok x=true by assumption];rfl,ar.refl _ _⟩
  ·rw[cV,aD,show aj.ok x=false by assumption];simp
theorem N5(hW:W0 W)(x:aj)(hs:aj.sm x):PC P (gl W) 117 [.agg [.d (.int .i64 x.c),.d (.list (x.ts.map Cf.aa))]] (.d (.bool (bad x))):=by refine CG.start LN LO rfl ?_;refine s4 hW 4 1 [] 0 [(2,bF),(3,.agg x.ce)] [(0,.cells x.ce)] ?_;refine CG.pg (HU hW x.c x.ts (And.left hs) (And.right hs)) rfl k_ ?_;refine s1 hW 2 0 [] 0 [(2,bo (!bc x.c x.ts))] ?_;refine CG.rt (bo (!bc x.c x.ts)) ?_;rfl
theorem Ej(hW:W0 W)(l:List aj)(hl:l.length<1099511627776)(hd:∀x∈l,aj.sm x):PC P (gl W) 174 [.d (.list (l.map aj.aa)),.func 117 [] []] (iU (l.findIdx? bad)):=by
 refine CG.start LP LR rfl ?_;refine s1 hW 8 0 [] 3 [(4,i0),(7,no (l.map aj.aa).length),(8,i0)] ?_;rotate_left;refine CG.bV l (fun i u=>[(0,lo aj.aa l),(1,.func 117 [] []),(4,i0),(7,no (l.map aj.aa).length),(8,.d (.int .i64 (.ofNat i)))]) (fun i u=>[]) (fun i u r=>(iU (l.findIdx? bad)=iU ((r.findIdx? bad).map (·+i)))) () ?_ (ar.refl _ _) ?_ ?_
 ·cases l.findIdx? bad<;>rfl
 ·intro i u hi hd aD;refine s1 hW 4 0 [] 23 [(9,bo (aS (Int.ofNat i) (Int.ofNat (l.map aj.aa).length)))] ?_;refine CG.aF (fP i (l.map aj.aa).length) k_ ?_;refine CG.bl (by decide) ?_;refine s1 hW 5 0 [] 0 [(4,io (-1))] ?_;refine CG.rt (io (-1)) ?_;rotate_left;rw[aD];rfl
 ·intro i u x r dn hx bL aD;have hs:=hd x (aap hx);refine s1 hW 4 0 [] 31 [(9,bo (aS (Int.ofNat i) (Int.ofNat (l.map aj.aa).length)))] ?_;refine CG.aB (eH i (l.map aj.aa).length) k_ ?_;refine s1 hW 8 3 [] 31 [(5,no i),(11,.func 117 [] []),(12,lo aj.aa l),(13,no i)] ?_;refine CG.ix (ay (aa:=aj.aa) hx) rfl k_ ?_;refine s1 hW 0 1 [] 127 [(15,.agg x.ce)] ?_;refine CG.UW (first:=[]) (cap:=[]) (N5 hW x hs) rfl k_ k_ k_ rfl ?_;refine s1 hW 2 0 [] 319 [] ?_;refine sp (bad x) (fun kR=>?_ ) (fun kR=>?_ );refine CG.aB kR k_ ?_;refine s1 hW 3 0 [] 51 [(4,no i)] ?_;refine CG.fx (no i) ?_;rotate_left;refine CG.aF kR k_ ?_;refine s3 hW 3 2 [] [(0,lo aj.aa l),(1,.func 117 [] []),(4,i0),(7,no (l.map aj.aa).length),(8,io (aN IntKind.i64 (bp (Int.ofNat i) 1)))] ([]) ?_;refine CG.bU rfl ?_;rw[a7 (by omega)];rotate_left
  ·rw[aD,acd,show bad x=true by assumption];simp[iU]
  ·refine⟨(),?_,ar.refl _ _⟩;rw[aD,acd,show bad x=false by assumption];cases r.findIdx? bad<;>simp[iU];omega
theorem vX(hW:W0 W)(l:List aj)(hl:l.length<1099511627776)(hd:∀x∈l,aj.sm x):PC P (gl W) 116 [.d (.list (l.map aj.aa)),.func 117 [] []] (.d (.bool (l.any bad))):=by
 refine CG.start LL LM rfl ?_;refine s1 hW 4 2 [] 0 [(4,bF),(5,lo aj.aa l),(6,.func 117 [] [])] ?_;refine CG.pg (Ej hW _ hl hd) rfl k_ ?_;rotate_left;have:l.any bad=(l.findIdx? bad).isSome:=by rw[acU]
 rw[this];cases l.findIdx? bad with
  |none=>refine s1 hW 2 0 [] 1 [] ?_;refine CG.rt (bF) ?_;rfl
  |some i=>refine s1 hW 2 0 [] 0 [(4,bT)] ?_;refine CG.rt (bT) ?_;rfl
theorem xM(hW:W0 W)(row:List UInt8)(ae:List aj)(hr:row.length<1099511627776)(hl:ae.length<1099511627776)(hd:∀x∈ae,aj.sm x):PC P (gl W) 59 [.agg [.d (.str row),.d (.list (ae.map aj.aa))]] (.d (.bool (cV row ae))):=by
 refine CG.start Q8 Q9 rfl ?_;refine s4 hW 4 4 [] 0 [(1,.ptr 0 2 0),(2,bF),(6,bo (ai row []))] [(0,.cells [so row,lo aj.aa ae])] ?_;refine sp (ai row []) (fun q8=>?_ ) (fun q8=>?_ );rw[q8];refine s1 hW 0 11 [] 3 [(17,bo (!aS 6 (Int.ofNat (ae.map aj.aa).length)))] ?_;refine dT 6 (ae.map aj.aa).length (fun uV N6=>?_ ) (fun uV N6=>?_ )<;>simp only[zz]at N6;have qL:(aS 6 (Int.ofNat (ae.map aj.aa).length))=true:=mg;rw[qL];refine s1 hW 2 0 [] 2 [] ?_;refine CG.rt (bF) ?_;rotate_left;have rO:(aS 6 (Int.ofNat (ae.map aj.aa).length))=false:=nU;rw[rO];refine s1 hW 0 2 [] 6 [(19,lo aj.aa ae)] ?_;refine CG.pg (vX hW _ hl hd) rfl k_ ?_;refine s1 hW 2 0 [] 0 [(2,bo (!List.any ae bad))] ?_;refine CG.rt (bo (!List.any ae bad)) ?_;rotate_left;rw[q8];refine s1 hW 0 2 [] 7 [(8,so row)] ?_;refine CG.pg (ic hW _ hr) rfl k_ ?_;refine s1 hW 0 2 [] 3 [(11,bo (be row))] ?_;refine sp (be row) (fun rQ=>?_ ) (fun rQ=>?_ );rw[rQ];refine s1 hW 0 6 [] 3 [(17,bo (!aS 6 (Int.ofNat (ae.map aj.aa).length)))] ?_;refine dT 6 (ae.map aj.aa).length (fun kR zY=>?_ ) (fun kR zY=>?_ )<;>simp only[zz]at zY;have jF:(aS 6 (Int.ofNat (ae.map aj.aa).length))=true:=mg;rw[jF];refine s1 hW 2 0 [] 2 [] ?_;refine CG.rt (bF) ?_;rotate_left;have lO:(aS 6 (Int.ofNat (ae.map aj.aa).length))=false:=nU;rw[lO];refine s1 hW 0 2 [] 6 [(19,lo aj.aa ae)] ?_;refine CG.pg (vX hW _ hl hd) rfl k_ ?_;refine s1 hW 2 0 [] 0 [(2,bo (!List.any ae bad))] ?_;refine CG.rt (bo (!List.any ae bad)) ?_;rotate_left;rw[rQ];refine s1 hW 2 0 [] 2 [] ?_;refine CG.rt (bF) ?_;rotate_left;all_goals first
  |(
   have h6:ae.length≤6:=by omega
   simp[cV,fT,fy, *];done)
  |(
   have h6:¬ae.length≤6:=by omega
   simp[cV,fT,fy, *];done)
  |(simp[cV,fT,fy, *];done)
theorem SH(hW:W0 W)(e row:List UInt8)(ae:List aj)(he:e.length<1099511627776)(hr:row.length<1099511627776)(hl:ae.length<1099511627776)(hd:∀x∈ae,aj.sm x):PC P (gl W) 51 [.agg [.d (.str e),.d (.str row),.d (.list (ae.map aj.aa))]] (.d (.bool (yn ⟨e,row,ae⟩))):=by refine CG.start V_ Wa rfl ?_;refine s4 hW 4 4 [] 0 [(1,.ptr 0 3 0),(2,bF),(6,bo (ai e [105,110,116]))] [(0,.cells [so e,so row,lo aj.aa ae])] ?_;refine sp (ai e [105,110,116]) (fun uV=>?_ ) (fun uV=>?_ );rw[uV];refine s1 hW 0 12 [] 2 [(16,bT),(18,.agg [so row,lo aj.aa ae])] ?_;refine CG.pg (xM hW _ _ hr hl hd) rfl k_ ?_;refine s1 hW 2 0 [] 0 [(2,bo (cV row ae))] ?_;refine CG.rt (bo (cV row ae)) ?_;rotate_left;rw[uV];refine s1 hW 0 5 [] 3 [(11,bo (ai e [98,111,111,108]))] ?_;refine sp (ai e [98,111,111,108]) (fun qL=>?_ ) (fun qL=>?_ );rw[qL];refine s1 hW 0 7 [] 2 [(16,bT),(18,.agg [so row,lo aj.aa ae])] ?_;refine CG.pg (xM hW _ _ hr hl hd) rfl k_ ?_;refine s1 hW 2 0 [] 0 [(2,bo (cV row ae))] ?_;refine CG.rt (bo (cV row ae)) ?_;rotate_left;rw[qL];refine s1 hW 0 2 [] 7 [(13,so e)] ?_;refine CG.pg (eg hW _ he) rfl k_ ?_;refine s1 hW 0 2 [] 3 [(16,bo (cJ e))] ?_;refine sp (cJ e) (fun rO=>?_ ) (fun rO=>?_ );rw[rO];refine s1 hW 0 2 [] 6 [(18,.agg [so row,lo aj.aa ae])] ?_;refine CG.pg (xM hW _ _ hr hl hd) rfl k_ ?_;refine s1 hW 2 0 [] 0 [(2,bo (cV row ae))] ?_;refine CG.rt (bo (cV row ae)) ?_;rotate_left;rw[rO];refine s1 hW 2 0 [] 2 [] ?_;refine CG.rt (bF) ?_;rotate_left;all_goals simp[yn,j7,Ei,vW, *]
theorem tX(hW:W0 W)(e:List UInt8)(he:e.length<1099511627776):PC P (gl W) 79 [.d (.str e)] (.d (.bool (j7 e))):=by refine CG.start Wn Wo rfl ?_;refine s1 hW 4 3 [] 1 [(2,bF),(5,bo (ai e [105,110,116]))] ?_;refine sp (ai e [105,110,116]) (fun q5=>?_ ) (fun q5=>?_ );rw[q5];refine s1 hW 2 0 [] 0 [(2,bT)] ?_;refine CG.rt (bT) ?_;rotate_left;rw[q5];refine s1 hW 0 4 [] 3 [(9,bo (ai e [98,111,111,108]))] ?_;refine sp (ai e [98,111,111,108]) (fun q6=>?_ ) (fun q6=>?_ );rw[q6];refine s1 hW 2 0 [] 0 [(2,bT)] ?_;refine CG.rt (bT) ?_;rotate_left;rw[q6];refine s1 hW 0 1 [] 6 [(10,so e)] ?_;refine CG.pg (gy hW _ he) rfl k_ ?_;refine s1 hW 2 0 [] 0 [(2,bo (cJ e))] ?_;refine CG.rt (bo (cJ e)) ?_;rotate_left;all_goals simp[j7,Ei,vW, *]
theorem tY(hW:W0 W)(e row:List UInt8)(ae:List aj)(he:e.length<1099511627776)(hl:ae.length<1099511627776)(hd:∀x∈ae,aj.sm x):PC P (gl W) 33 [.agg [.d (.str e),.d (.str row),.d (.list (ae.map aj.aa))]] (.d (.bool (yn ⟨e,row,ae⟩))):=by refine CG.start VX VY rfl ?_;refine s4 hW 4 2 [] 0 [(1,.ptr 0 3 0),(2,bF),(4,so e)] [(0,.cells [so e,so row,lo aj.aa ae])] ?_;refine CG.pg (tX hW _ he) rfl k_ ?_;refine s1 hW 0 1 [] 3 [(6,bo (j7 e))] ?_;refine sp (j7 e) (fun q9=>?_ ) (fun q9=>?_ );rw[q9];refine s1 hW 0 2 [] 6 [(8,.agg [so row,lo aj.aa ae])] ?_;refine CG.pg (xL hW row ae hl hd) rfl k_ ?_;refine s1 hW 2 0 [] 0 [(2,bo (cV row ae))] ?_;refine CG.rt (bo (cV row ae)) ?_;rotate_left;rw[q9];refine s1 hW 2 0 [] 2 [] ?_;refine CG.rt (bF) ?_;rotate_left;all_goals simp[yn, *]
end Fw.Tz.Vb
/-
  Equality of expressions, shapes and types as functions.
-/
namespace Fw.Tz.Eq
open Go Fw.Tz.Va Fw.Tz.Vb
def C3{α:Type}(f:α→α→Bool):List α→List α→Bool|[],[]=>true|a::l,b::m=>f a b&&C3 f l m|_,_=>false
theorem xN{α:Type}{f:α→α→Bool}(h:∀a b,f a b=true↔a=b):∀(l m:List α),C3 f l m=true↔l=m
 |[],[]=>by simp[C3]
 |[],_::_=>by simp[C3]
 |_::_,[]=>by simp[C3]
 |a::l,b::m=>by rw[C3,aac,h,xN h l m,acz]
theorem C4{α:Type}{f:α→α→Bool}:∀{l m:List α},l.length≠m.length→C3 f l m=false
 |[],[],h=>by simp at h
 |[],_::_,_=>rfl
 |_::_,[],_=>rfl
 |a::l,b::m,h=>by rw[C3,C4 (by simpa using h),abe]
def qM(a b:Cf):Bool:=Fw.ai a.var b.var&&decide (a.c=b.c)
def kT(a b:aj):Bool:=decide (a.c=b.c)&&C3 qM a.ts b.ts
def uW(r1:List UInt8)(d1:List aj)(r2:List UInt8)(d2:List aj):Bool:=Fw.ai r1 r2&&C3 kT d1 d2
def Ek(a b:Ty):Bool:=Fw.ai a.elem b.elem&&uW a.row a.ae b.row b.ae
theorem tZ(a b:Cf):qM a b=true↔a=b:=by cases a;cases b;simp[qM,Fw.fK]
theorem qN(a b:aj):kT a b=true↔a=b:=by cases a;cases b;simp[kT,xN tZ]
theorem HV(r1:List UInt8)(d1:List aj)(r2:List UInt8)(d2:List aj):uW r1 d1 r2 d2=true↔r1=r2∧d1=d2:=by simp[uW,xN qN,Fw.fK]
theorem HW(a b:Ty):Ek a b=true↔a=b:=by cases a;cases b;simp[Ek,HV,Fw.fK,and_assoc]
theorem Em(a:Ty):Ek a a=true:=(HW a a).2 rfl
end Fw.Tz.Eq
/-
  Binds, substitution and the schemes of primitives under binds: the plain law.
-/
namespace Fw.Tz.Yd
open Go Fw.Tz Fw.Nu Fw.Tz.Na Fw.Tz.El Fw.Tz.Va Fw.Tz.Vb Fw.Tz.Su
structure Bd where
 kind:Int
 var:List UInt8
 bh:aj
 row:List UInt8
 ae:List aj
 elem:List UInt8
@[simp,reducible] def Bd.ce(x:Bd):List V:=[Fw.io x.kind,Fw.so x.var,Fw.io x.bh.c,Fw.lo Cf.aa x.bh.ts,Fw.so x.row,Fw.lo aj.aa x.ae,Fw.so x.elem]
def Bd.aa(x:Bd):List D:=[.int .i64 x.kind,.str x.var,.int .i64 x.bh.c,.list (x.bh.ts.map Cf.aa),.str x.row,.list (x.ae.map aj.aa),.str x.elem]
def gP(k:Int)(s:List UInt8)(b:Bd):Bool:=decide (b.kind=k)&&Fw.ai b.var s
def cz(l:List Bd)(k:Int)(s:List UInt8):Option Nat:=l.findIdx? (gP k s)
def bn(l:List Bd)(k:Int)(s:List UInt8):Option Bd:=l.find? (gP k s)
def jG(x:aj):Bool:=decide (x.c=0)&&x.ts.isEmpty
def rr(b:Bd):Bool:=Fw.ai b.row []&&b.ae.isEmpty
def gz(b:Bd):Bool:=if b.kind=1 then be b.var&&b.bh.ok&&rr b&&Fw.ai b.elem []else if b.kind=2 then be b.var&&cV b.row b.ae&&jG b.bh&&Fw.ai b.elem []else if b.kind=3 then cJ b.var&&j7 b.elem&&jG b.bh&&rr b else false
def En:List Bd→List Bd→Bool|_,[]=>true|seen,b::r=>gz b&&(cz seen b.kind b.var).isNone&&En (seen++[b]) r
def ru(l:List Bd):Bool:=En [] l
abbrev Gt:=Int→List UInt8→Option Bd
def BK(g:Gt):List Cf→Es
 |[]=>[]
 |t::ts=>
  (match g 1 t.var with
   |none=>[(t.var,t.c)]
   |some b=>b.bh.ts.map fun u=>(u.var,t.c*u.c))++BK g ts
def z7(g:Gt):Int→List Cf→Int
 |n,[]=>n
 |n,t::ts=>
  z7 g (match g 1 t.var with
   |none=>n
   |some b=>n+t.c*b.bh.c) ts
def z8(g:Gt)(ts:List Cf):Bool:=ts.all fun t=>
 match g 1 t.var with
  |none=>true
  |some b=>b.bh.ok
def ye(e:List UInt8×Int):Cf:=⟨e.1,e.2⟩
def qO(es:Es):List Cf:=es.map ye
def xO:aj:=⟨0,[]⟩
def mW(x:aj):aj×Int:=if x.ok=true then(x,0)else(xO,3)
def dB(g:Gt)(x:aj):aj×Int:=if x.ok=true∧z8 g x.ts=true then mW ⟨z7 g x.c x.ts,qO (pD (BK g x.ts) [])⟩else(xO,1)
def fH(g:Gt):List aj→List aj→List aj×Int|acc,[]=>(acc,0)|acc,x::xs=>if(dB g x).2=0 then fH g (acc++[(dB g x).1]) xs else([],(dB g x).2)
def ry(row:List UInt8)(a b:List aj):(List UInt8×List aj)×Int:=if a.length+b.length≤6 then((row,a++b),0)else(([],[]),3)
def mX(g:Gt)(ok:Bool)(row:List UInt8)(ae:List aj):(List UInt8×List aj)×Int:=if cV row ae=true∧ok=true then
 if(fH g [] ae).2=0 then
  match(if row=[]then none else g 2 row)with
   |none=>ry row [] (fH g [] ae).1
   |some b=>ry b.row b.ae (fH g [] ae).1
 else(([],[]),(fH g [] ae).2)else(([],[]),1)
def vY:Ty:=⟨[],[],[]⟩
def cI(g:Gt)(ok:Bool)(t:Ty):Ty×Int:=if yn t=true∧ok=true then
 if(mX g ok t.row t.ae).2=0 then
  (⟨match g 3 t.elem with
   |none=>t.elem
   |some b=>b.elem,(mX g ok t.row t.ae).1.1,(mX g ok t.row t.ae).1.2⟩,0)
 else(vY,(mX g ok t.row t.ae).2)else(vY,1)
structure bz where
 ps:List Ty
 r:Ty
 wh:List aj
@[simp,reducible] def bz.ce(s:bz):List V:=[Fw.lo Ty.aa s.ps,Fw.so s.r.elem,Fw.so s.r.row,Fw.lo aj.aa s.r.ae,Fw.lo aj.aa s.wh]
def uX:bz:=⟨[],vY,[]⟩
def pH(s:bz):Bool:=decide (s.ps.length≤12)&&decide (s.wh.length≤60)&&s.ps.all yn&&yn s.r&&s.wh.all aj.ok
def iF(g:Gt)(ok:Bool):List Ty→List Ty→List Ty×Int|acc,[]=>(acc,0)|acc,x::xs=>if(cI g ok x).2=0 then iF g ok (acc++[(cI g ok x).1]) xs else([],(cI g ok x).2)
def ff(g:Gt)(ok:Bool)(s:bz):bz×Int:=if pH s=true∧ok=true then
 if(iF g ok [] s.ps).2=0 then
  if(cI g ok s.r).2=0 then
   if(fH g [] s.wh).2=0 then(⟨(iF g ok [] s.ps).1,(cI g ok s.r).1,(fH g [] s.wh).1⟩,0)
   else(uX,(fH g [] s.wh).2)
  else(uX,(cI g ok s.r).2)
 else(uX,(iF g ok [] s.ps).2)else(uX,1)
abbrev Ky:=Int×List UInt8
def key(b:Bd):Ky:=(b.kind,b.var)
theorem C5(k:Int)(s:List UInt8)(b:Bd):gP k s b=true↔key b=(k,s):=by
 have:Fw.ai b.var s=true↔b.var=s:=by rw[Fw.cS];simp
 simp only[gP,aac,aam,key,aae,this]
theorem BL{l:List Bd}{k:Int}{s:List UInt8}:(cz l k s).isNone=true↔∀b∈l,key b≠(k,s):=by
 unfold cz;rw[Option.isNone_iff_eq_none,List.findIdx?_eq_none_iff];refine ac4 fun b=>ac4 fun _=>?_
 rw[←Bool.not_eq_true,C5]
theorem Eo{l:List Bd}{k:Int}{s:List UInt8}:bn l k s=none↔∀b∈l,key b≠(k,s):=by
 unfold bn;rw[List.find?_eq_none];refine ac4 fun b=>ac4 fun _=>?_
 rw[C5]
def kS:List UInt8:=[107]
def kK:Ky:=(1,kS)
def uY(ig:List (List UInt8))(a8:List aj):List Bd:=(ig.zip a8).map fun p=>⟨1,p.1,p.2,[],[],[]⟩
def xP(all vars:List Bd):Bool:=decide (all.length=vars.length)&&vars.all fun v=>all.any (gP v.kind v.var)
def iN(s:bz)(ig:List (List UInt8))(vars:List Bd)(a8:List aj)(binds:List Bd):bz×Int:=if a8.length=ig.length∧a8.all aj.ok=true∧xP (binds++uY ig a8) vars=true then ff (bn (binds++uY ig a8)) (ru (binds++uY ig a8)) s else(uX,1)
end Fw.Tz.Yd
/-
  Equal expressions, shapes and types, by the program and by the reference.
-/
namespace Fw.Tz.Ew
open Go Go.Proofs Fw.X Fw.Tz Fw.Nu Fw.Tz.Sd Fw.Tz.Na Fw.Tz.El Fw.Tz.Va Fw.Tz.Vb Fw.Tz.Eq
variable {W:World}
abbrev vL(x:aj):V:=.agg [.d (.int .i64 x.c),.d (.list (x.ts.map Cf.aa))]
abbrev vS(row:List UInt8)(ae:List aj):V:=.agg [.d (.str row),.d (.list (ae.map aj.aa))]
abbrev vT(t:Ty):V:=.agg [.d (.str t.elem),.d (.str t.row),.d (.list (t.ae.map aj.aa))]
theorem z_(x y:Cf):jk [.str,.int] [.d (.str x.var),.d (.int .i64 x.c)] [.d (.str y.var),.d (.int .i64 y.c)]=some (qM x y):=by
 simp only[jk,eM,yd,aag,aan rfl,qM];cases ai x.var y.var with
  |false=>rfl
  |true=>
   simp only[aaE];by_cases h:x.c=y.c
   ·simp[h,jk]
   ·have e:(x.c==y.c)=false:=by simp[h]
    rw[e,aaZ h];simp
def me:List Cf→List Cf→Option Int|x::l,y::m=>if bytesLess x.var y.var=true∨(ai x.var y.var=true∧x.c<y.c)then some (-1)else if qM x y=false then some 1 else me l m|_,_=>none
def rT(a b:aj):Int:=match me a.ts b.ts with
 |some r=>r
 |none=>if a.ts.length<b.ts.length∨(a.ts.length=b.ts.length∧a.c<b.c)then -1 else if b.ts.length<a.ts.length∨b.c<a.c then 1 else 0
theorem vZ:∀{l m:List Cf},me l m=none→l.length=m.length→l=m
 |[],[],_,_=>rfl
 |[],_::_,_,h=>by simp at h
 |_::_,[],_,h=>by simp at h
 |x::l,y::m,h,hl=>by
  rw[me]at h;split at h
  ·cases h
  ·split at h
   ·cases h
   ·rename_i h1 h2;rw[(tZ x y).1 (by simpa using h2),vZ h (by simpa using hl)]
theorem qP:∀(l:List Cf),me l l=none
 |[]=>rfl
 |x::l=>by
  have h1:bytesLess x.var x.var=false:=by rw[Fw.Tz.jc];simp
  rw[me,aal (by rw[h1];simp),aal (by rw[(tZ x x).2 rfl];simp)];exact qP l
theorem C6:∀{l m:List Cf}{r:Int},me l m=some r→r≠0∧l≠m
 |[],_,r,h=>by simp[me]at h
 |_::_,[],r,h=>by simp[me]at h
 |x::l,y::m,r,h=>by
  refine⟨?_,fun e=>by rw[e,qP]at h;cases h⟩;rw[me]at h;split at h
  ·simp only[aab]at h;omega
  ·split at h
   ·simp only[aab]at h;omega
   ·exact(C6 h).1
theorem KG(a b:aj):decide (rT a b=0)=kT a b:=by
 rw[aaT,aam,qN];constructor
 ·intro h;rw[rT]at h;cases hc:me a.ts b.ts with
   |some r=>rw[hc]at h;exact absurd h (C6 hc).1
   |none=>
    rw[hc]at h;simp only at h;split at h
    ·omega
    ·split at h
     ·omega
     ·rename_i h1 h2;have e1:a.ts.length=b.ts.length:=by omega
      have e2:a.c=b.c:=by omega
      have e3:=vZ hc e1;cases a;cases b;simp only at e2 e3;rw[e2,e3]
 ·rintro rfl;rw[rT,qP];simp
theorem N7(hW:W0 W)(a b:aj)(ha:a.ts.length<1099511627776)(hb:b.ts.length<1099511627776):PC P (gl W) 113 [vL a,vL b] (.d (.int .i64 (rT a b))):=by
 refine CG.start Rn Ro rfl ?_;refine s4 hW 8 0 [] 0 [(2,.ptr 0 2 0),(3,.ptr 1 2 0),(4,i0),(5,i0)] [(0,.cells a.ce),(1,.cells b.ce)] ?_;rotate_left;refine CG.bV a.ts (fun i u=>[(2,.ptr 0 2 0),(3,.ptr 1 2 0),(4,i0),(5,.d (.int .i64 (.ofNat i)))]) (fun i u=>[some (.cells a.ce),some (.cells b.ce)]) (fun i u r=>(me a.ts b.ts=me r (b.ts.drop i))) () ?_ (ar.refl _ _) ?_ ?_
 ·rfl
 ·intro i u hi hd aD;have hn:me a.ts b.ts=none:=by rw[aD];simp[me]
  refine s1 hW 2 6 [] 15 [(13,bo (aS (Int.ofNat i) (Int.ofNat (a.ts.map Cf.aa).length)))] ?_;have rQ:(aS (Int.ofNat i) (Int.ofNat (a.ts.map Cf.aa).length))=false:=nU;rw[rQ];refine s1 hW 3 0 [false] 15 [] ?_;refine CG.bl (by decide) ?_;refine s1 hW 5 8 [] 7 [(64,bo (aS (Int.ofNat (a.ts.map Cf.aa).length) (Int.ofNat (b.ts.map Cf.aa).length)))] ?_;refine dT (a.ts.map Cf.aa).length (b.ts.map Cf.aa).length (fun kR zY=>?_ ) (fun kR zY=>?_ )<;>simp only[zz]at zY;rw[kR];refine s1 hW 6 0 [true] 0 [(4,io (-1))] ?_;refine CG.rt (io (-1)) ?_;rotate_left;rw[kR];refine s1 hW 0 8 [] 15 [(72,bo (bf (Int.ofNat (a.ts.map Cf.aa).length) (Int.ofNat (b.ts.map Cf.aa).length)))] ?_;refine iD (a.ts.map Cf.aa).length (b.ts.map Cf.aa).length (fun lO Pm=>?_ ) (fun lO Pm=>?_ )<;>simp only[zz]at Pm;rw[lO];refine s1 hW 2 0 [] 7 [(56,bo (aS a.c b.c))] ?_;refine Hc a.c b.c (fun lN N3=>?_ ) (fun lN N3=>?_ );refine CG.aB lN k_ ?_;refine s1 hW 3 0 [] 0 [(4,io (-1))] ?_;refine CG.rt (io (-1)) ?_;rotate_left;refine CG.aF lN k_ ?_;refine s1 hW 1 8 [] 7 [(88,bo (aS (Int.ofNat (b.ts.map Cf.aa).length) (Int.ofNat (a.ts.map Cf.aa).length)))] ?_;have rP:(aS (Int.ofNat (b.ts.map Cf.aa).length) (Int.ofNat (a.ts.map Cf.aa).length))=false:=nU;rw[rP];refine s1 hW 2 0 [] 4 [(80,bo (aS b.c a.c))] ?_;refine Hc b.c a.c (fun jd Eh=>?_ ) (fun jd Eh=>?_ );refine CG.aB jd k_ ?_;refine s1 hW 3 0 [] 0 [(4,io 1)] ?_;refine CG.rt (io 1) ?_;rotate_left;refine CG.aF jd k_ ?_;refine s1 hW 6 0 [] 1 [] ?_;refine CG.rt (i0) ?_;rotate_left;rw[lO];refine s1 hW 4 8 [false] 7 [(88,bo (aS (Int.ofNat (b.ts.map Cf.aa).length) (Int.ofNat (a.ts.map Cf.aa).length)))] ?_;have kg:(aS (Int.ofNat (b.ts.map Cf.aa).length) (Int.ofNat (a.ts.map Cf.aa).length))=true:=mg;rw[kg];refine s1 hW 6 0 [true] 0 [(4,io 1)] ?_;refine CG.rt (io 1) ?_;rotate_left;all_goals (rw[rT,hn];simp only;first|(rw[aan (by omega)];done)|(rw[aal (by omega),aan (by omega)];done)|(rw[aal (by omega),aal (by omega)];done))
 ·intro i u x r dn hx bL aD;by_cases hi:i<b.ts.length
  ·obtain⟨y,hy⟩:∃y,b.ts[i]? =some y:=⟨_,aaf hi⟩;rw[drop_at hy,me]at aD;refine s1 hW 2 6 [] 15 [(13,bo (aS (Int.ofNat i) (Int.ofNat (a.ts.map Cf.aa).length)))] ?_;have lN:(aS (Int.ofNat i) (Int.ofNat (a.ts.map Cf.aa).length))=true:=mg;rw[lN];refine s1 hW 2 0 [] 15 [(19,bo (aS (Int.ofNat i) (Int.ofNat (b.ts.map Cf.aa).length)))] ?_;refine CG.aB (eH i (b.ts.map Cf.aa).length) k_ ?_;refine s1 hW 5 0 [] 15 [] ?_;refine CG.j3 bE k_ ?_;refine AW.rk 3 [(22,.ptr 0 2 1),(23,lo Cf.aa a.ts),(24,no i)] [] k_ ?_;refine AW.idx (ay (aa:=Cf.aa) hx) rfl k_ k_ k_ rfl ?_;refine AW.rk 4 [(26,.agg [so x.var,io x.c]),(27,.ptr 1 2 1),(28,lo Cf.aa b.ts),(29,no i)] [] k_ ?_;refine AW.idx (ay (aa:=Cf.aa) hy) rfl k_ k_ k_ rfl ?_;refine AW.rk 5 [(6,.ptr 12 2 0),(7,.ptr 13 2 0),(31,.agg [so y.var,io y.c])] [(12,.cells [so x.var,io x.c]),(13,.cells [so y.var,io y.c])] k_ ?_;refine AW.nil rfl ⟨k_,AW.fin 14 [2,3,4,5,6,7] k_ rfl k_ rfl k_ ?_⟩;refine s1 hW 3 6 [] 63 [(38,bo (bytesLess x.var y.var))] ?_;refine sp (bytesLess x.var y.var) (fun rP=>?_ ) (fun rP=>?_ );rw[rP];refine s1 hW 6 0 [true] 11 [(4,io (-1))] ?_;refine CG.fx (io (-1)) ?_;rotate_left;rw[rP];refine s1 hW 0 6 [] 127 [(44,bo (ai x.var y.var))] ?_;refine sp (ai x.var y.var) (fun jd=>?_ ) (fun jd=>?_ );rw[jd];refine s1 hW 2 0 [] 63 [(32,bo (aS x.c y.c))] ?_;refine Hc x.c y.c (fun kg Pn=>?_ ) (fun kg Pn=>?_ );refine CG.aB kg k_ ?_;refine s1 hW 3 0 [] 11 [(4,io (-1))] ?_;refine CG.fx (io (-1)) ?_;rotate_left;refine CG.aF kg k_ ?_;refine s1 hW 1 2 [] 15 [(53,.agg [so x.var,io x.c]),(54,.agg [so y.var,io y.c])] ?_;rotate_left;rw[jd];refine s1 hW 4 2 [false] 15 [(53,.agg [so x.var,io x.c]),(54,.agg [so y.var,io y.c])] ?_;rotate_left
   ·rw[rT,aD,aan (.inl (by assumption))]
   ·rw[rT,aD,aan (.inr ⟨by assumption,by omega⟩)]
   ·have Z8:¬(bytesLess x.var y.var=true∨ai x.var y.var=true∧x.c<y.c):=by
     rintro(h|⟨_,h⟩)
     ·rw[show bytesLess x.var y.var=false by assumption]at h;cases h
     ·omega
    rw[aal Z8]at aD;refine CG.FJ (xs:=[so x.var,io x.c]) (ys:=[so y.var,io y.c]) (r:=(qM x y)) rfl k_ (z_ x y) ?_;cases hc:qM x y with
     |true=>rw[hc,aal (by simp)]at aD;refine s3 hW 7 3 [false] [(2,.ptr 0 2 0),(3,.ptr 1 2 0),(4,i0),(5,io (aN IntKind.i64 (bp (Int.ofNat i) 1)))] ([some (.cells a.ce),some (.cells b.ce)]++nn 10 ([some (.cells [so x.var,io x.c]),some (.cells [so y.var,io y.c])])) ?_;refine CG.bU rfl ?_;rw[a7 (by omega)];rotate_left;exact⟨(),aD,ar.trim 2 [2,3,4,5] rfl rfl rfl rfl rfl⟩
     |false=>rw[hc,aan rfl]at aD;refine s1 hW 6 0 [true] 11 [(4,io 1)] ?_;refine CG.fx (io 1) ?_;rotate_left;rw[rT,aD]
   ·have hc:qM x y=false:=by rw[qM,show ai x.var y.var=false by assumption];rfl
    rw[hc,aal (by rw[show bytesLess x.var y.var=false by assumption,show ai x.var y.var=false by assumption];simp),aan rfl]at aD;refine CG.FJ (xs:=[so x.var,io x.c]) (ys:=[so y.var,io y.c]) (r:=(qM x y)) rfl k_ (z_ x y) ?_;refine s1 hW 2 0 [] 15 [(52,bo (!qM x y))] ?_;refine CG.aB (b:=(!qM x y)) (by rw[hc];rfl) k_ ?_;refine s1 hW 3 0 [] 11 [(4,io 1)] ?_;refine CG.fx (io 1) ?_;rotate_left;rw[rT,aD]
  ·have hn:me a.ts b.ts=none:=by rw[aD,acL (by omega)];simp[me]
   refine s1 hW 2 6 [] 15 [(13,bo (aS (Int.ofNat i) (Int.ofNat (a.ts.map Cf.aa).length)))] ?_;have lO:(aS (Int.ofNat i) (Int.ofNat (a.ts.map Cf.aa).length))=true:=mg;rw[lO];refine s1 hW 2 0 [] 15 [(19,bo (aS (Int.ofNat i) (Int.ofNat (b.ts.map Cf.aa).length)))] ?_;refine CG.aF (fP i (b.ts.map Cf.aa).length) k_ ?_;refine CG.bl (by decide) ?_;refine s1 hW 5 8 [] 7 [(64,bo (aS (Int.ofNat (a.ts.map Cf.aa).length) (Int.ofNat (b.ts.map Cf.aa).length)))] ?_;have lN:(aS (Int.ofNat (a.ts.map Cf.aa).length) (Int.ofNat (b.ts.map Cf.aa).length))=false:=nU;rw[lN];refine s1 hW 0 8 [] 15 [(72,bo (bf (Int.ofNat (a.ts.map Cf.aa).length) (Int.ofNat (b.ts.map Cf.aa).length)))] ?_;have rP:(bf (Int.ofNat (a.ts.map Cf.aa).length) (Int.ofNat (b.ts.map Cf.aa).length))=false:=pq;rw[rP];refine s1 hW 4 8 [false] 7 [(88,bo (aS (Int.ofNat (b.ts.map Cf.aa).length) (Int.ofNat (a.ts.map Cf.aa).length)))] ?_;have jd:(aS (Int.ofNat (b.ts.map Cf.aa).length) (Int.ofNat (a.ts.map Cf.aa).length))=true:=mg;rw[jd];refine s1 hW 6 0 [true] 0 [(4,io 1)] ?_;refine CG.rt (io 1) ?_;rotate_left;all_goals (rw[rT,hn];simp only;first|(rw[aan (by omega)];done)|(rw[aal (by omega),aan (by omega)];done)|(rw[aal (by omega),aal (by omega)];done))
theorem C7(hW:W0 W)(a b:aj)(ha:a.ts.length<1099511627776)(hb:b.ts.length<1099511627776):PC P (gl W) 56 [vL a,vL b] (.d (.bool (kT a b))):=by refine CG.start Wb Wc rfl ?_;refine s4 hW 4 2 [] 0 [(4,bF),(5,.agg a.ce),(6,.agg b.ce)] [(0,.cells a.ce),(1,.cells b.ce)] ?_;refine CG.pg (N7 hW a b ha hb) rfl k_ ?_;refine s1 hW 2 0 [] 0 [(4,bo (bf (rT a b) 0))] ?_;refine CG.rt (bo (bf (rT a b) 0)) ?_;rotate_left;rw[←KG,lB,V.d.injEq,D.bool.injEq,aaT];simp
def Je(l:List aj):Prop:=l.length<1099511627776∧∀x∈l,x.ts.length<1099511627776
theorem N8(hW:W0 W)(r1 r2:List UInt8)(d1 d2:List aj)(h1:Je d1)(h2:Je d2):PC P (gl W) 20 [vS r1 d1,vS r2 d2] (.d (.bool (uW r1 d1 r2 d2))):=by
 refine CG.start VR VS rfl ?_;have Ts:=h1.1;have I8:=h2.1;refine s4 hW 5 6 [] 0 [(2,.ptr 0 2 0),(3,.ptr 1 2 0),(4,bF),(11,bo (!ai r1 r2))] [(0,.cells [so r1,lo aj.aa d1]),(1,.cells [so r2,lo aj.aa d2])] ?_;refine sp (ai r1 r2) (fun qL=>?_ ) (fun qL=>?_ );rw[qL];refine s1 hW 2 0 [] 7 [(19,bo (!bf (Int.ofNat (d1.map aj.aa).length) (Int.ofNat (d2.map aj.aa).length)))] ?_;refine iD (d1.map aj.aa).length (d2.map aj.aa).length (fun rQ LV=>?_ ) (fun rQ LV=>?_ )<;>simp only[zz]at LV;refine CG.aF (b:=(!bf (Int.ofNat (d1.map aj.aa).length) (Int.ofNat (d2.map aj.aa).length))) (by rw[rQ];rfl) k_ ?_;refine s1 hW 7 0 [] 7 [(5,i0)] ?_;rotate_left;refine CG.aB (b:=(!bf (Int.ofNat (d1.map aj.aa).length) (Int.ofNat (d2.map aj.aa).length))) (by rw[rQ];rfl) k_ ?_;refine s1 hW 3 0 [] 7 [] ?_;refine CG.rt (bF) ?_;rotate_left;rw[qL];refine s1 hW 6 0 [true] 7 [] ?_;refine CG.rt (bF) ?_;rotate_left
 ·refine CG.bV d1 (fun i u=>[(2,.ptr 0 2 0),(3,.ptr 1 2 0),(4,bF),(5,.d (.int .i64 (.ofNat i)))]) (fun i u=>[some (.cells [so r1,lo aj.aa d1]),some (.cells [so r2,lo aj.aa d2])]) (fun i u r=>(C3 kT d1 d2=C3 kT r (d2.drop i))) () ?_ (ar.refl _ _) ?_ ?_
  ·rfl
  ·intro i u hi hd aD;rw[acL (by omega),C3]at aD;refine s1 hW 4 0 [] 15 [(24,bo (aS (Int.ofNat i) (Int.ofNat (d1.map aj.aa).length)))] ?_;refine CG.aF (fP i (d1.map aj.aa).length) k_ ?_;refine CG.bl (by decide) ?_;refine s1 hW 5 0 [] 0 [(4,bT)] ?_;refine CG.rt (bT) ?_;rotate_left;rw[uW,aD,show ai r1 r2=true by assumption];rfl
  ·intro i u x r dn hx bL aD;obtain⟨y,hy⟩:∃y,d2[i]? =some y:=⟨_,aaf (by omega)⟩;have F6:=h1.2 x (aap hx);have F0:=h2.2 y (aap hy);rw[drop_at hy,C3]at aD;refine s1 hW 4 0 [] 15 [(24,bo (aS (Int.ofNat i) (Int.ofNat (d1.map aj.aa).length)))] ?_;refine CG.aB (eH i (d1.map aj.aa).length) k_ ?_;refine s1 hW 5 0 [] 15 [] ?_;refine CG.iC bE k_ k_ ?_;refine AO.rd 3 [(27,.ptr 0 2 1),(28,lo aj.aa d1),(29,no i)] k_ ?_;refine AO.idx (ay (aa:=aj.aa) hx) rfl k_ k_ k_ rfl ?_;refine AO.rd 4 [(31,.agg x.ce),(32,.ptr 1 2 1),(33,lo aj.aa d2),(34,no i)] k_ ?_;refine AO.idx (ay (aa:=aj.aa) hy) rfl k_ k_ k_ rfl ?_;refine AO.rd 1 [(36,.agg y.ce)] k_ ?_;refine AO.jM (C7 hW x y F6 F0) rfl k_ k_ ?_;refine AO.rd 1 [(38,bo (!kT x y))] k_ ?_;refine AO.done [2,3,4,5,38] rfl rfl k_ ?_;refine s1 hW 1 0 [] 31 [] ?_;refine sp (kT x y) (fun KA=>?_ ) (fun KA=>?_ );refine CG.aF (b:=(!kT x y)) (by rw[KA];rfl) k_ ?_;refine s3 hW 3 3 [] [(2,.ptr 0 2 0),(3,.ptr 1 2 0),(4,bF),(5,io (aN IntKind.i64 (bp (Int.ofNat i) 1)))] ([some (.cells [so r1,lo aj.aa d1]),some (.cells [so r2,lo aj.aa d2])]) ?_;refine CG.bU rfl ?_;rw[a7 (by omega)];rotate_left;refine CG.aB (b:=(!kT x y)) (by rw[KA];rfl) k_ ?_;refine s1 hW 3 0 [] 15 [] ?_;refine CG.fx (bF) ?_;rotate_left
   ·exact⟨(),by rw[aD,show kT x y=true by assumption];rfl,ar.refl _ _⟩
   ·rw[uW,aD,show kT x y=false by assumption];simp
 ·rw[uW,C4 (by omega),abe]
 ·rw[uW,show ai r1 r2=false by assumption,abl]
theorem tY(hW:W0 W)(a b:Ty)(h1:Je a.ae)(h2:Je b.ae):PC P (gl W) 65 [vT a,vT b] (.d (.bool (Ek a b))):=by
 refine CG.start Wd We rfl ?_;refine s4 hW 4 6 [] 0 [(2,.ptr 0 3 0),(3,.ptr 1 3 0),(4,bF),(10,bo (ai a.elem b.elem))] [(0,.cells a.ce),(1,.cells b.ce)] ?_;refine sp (ai a.elem b.elem) (fun q7=>?_ ) (fun q7=>?_ );rw[q7];refine s1 hW 0 4 [] 12 [(12,.agg [so a.row,lo aj.aa a.ae]),(14,.agg [so b.row,lo aj.aa b.ae])] ?_;refine CG.pg (N8 hW a.row b.row a.ae b.ae h1 h2) rfl k_ ?_;refine s1 hW 2 0 [] 0 [(4,bo (uW a.row a.ae b.row b.ae))] ?_;refine CG.rt (bo (uW a.row a.ae b.row b.ae)) ?_;rotate_left;rw[q7];refine s1 hW 2 0 [] 4 [] ?_;refine CG.rt (bF) ?_;rotate_left
 ·rw[Ek,show ai a.elem b.elem=true by assumption,aaE]
 ·rw[Ek,show ai a.elem b.elem=false by assumption,abl]
end Fw.Tz.Ew
