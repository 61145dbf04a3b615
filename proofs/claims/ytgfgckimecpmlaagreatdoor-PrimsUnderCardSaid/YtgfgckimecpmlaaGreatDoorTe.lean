/-
  Sums of terms: a map's content and a sorted list.
-/
import Derived.Test.YtgfgckimecpmlaaGreatDoorTb
import Derived.Test.YtgfgckimecpmlaaGreatDoorFh
import Derived.Lib.AtoiAll
import Derived.Lib.ItoaNum
import Derived.Test.YtgfgckimecpmlaaGreatDoorTc
import Derived.Test.YtgfgckimecpmlaaGreatDoorFg
import Derived.Test.YtgfgckimecpmlaaGreatDoorTd
set_option linter.unusedSimpArgs false
set_option linter.unusedVariables false
set_option maxRecDepth 1000000
set_option maxHeartbeats 4000000
namespace Fw.Tz.Su
open Go Go.Proofs Fw.X Fw.Tz
def gg:Es→List UInt8→Int→Es|[],k,c=>[(k,c)]|e::r,k,c=>if e.1==k then(k,e.2+c)::r else e::gg r k c
def gV:Es→List UInt8→Int→Es|[],k,c=>if c=0 then[]else[(k,c)]|e::r,k,c=>if e.1=k then(if e.2+c=0 then r else(k,e.2+c)::r)else if k<e.1 then(if c=0 then e::r else(k,c)::e::r)else e::gV r k c
def yB(l:Es):Prop:=l.Pairwise fun a b=>a.1<b.1
def Nz(l:Es):Prop:=∀e∈l,e.2≠0
def Nd(l:Es):Prop:=(l.map (·.1)).Nodup
theorem pU(x:List UInt8):bp [] x=0:=rfl
theorem cx(e:List UInt8×Int)(l:Es)(x:List UInt8):bp (e::l) x=if e.1=x then e.2 else bp l x:=by
 by_cases h:e.1=x
 ·simp[bp,h]
 ·have h2:(e.1==x)=false:=by simp[h]
  simp[bp,h,adn,h2]
theorem Ae{l:Es}{x:List UInt8}(h:∀e∈l,e.1≠x):bp l x=0:=by
 induction l with
  |nil=>rfl
  |cons e l ih=>rw[cx,aaL (h e (by simp)),ih fun a ha=>h a (by simp[ha])]
theorem wg(l:Es)(k:List UInt8)(c:Int)(x:List UInt8):bp (gg l k c) x=bp l x+if k=x then c else 0:=by
 induction l with
  |nil=>simp only[gg,cx,pU];split<;>omega
  |cons e l ih=>
   simp only[gg];by_cases h:e.1=k
   ·rw[aaP (by simp[h]),cx,cx];subst h;dsimp only;split<;>omega
   ·rw[aaL (by simp[h]),cx,cx,ih];by_cases h2:e.1=x
    ·rw[aaP h2,aaP h2,aaL (fun h3=>h (h2.trans h3.symm))];omega
    ·rw[aaL h2,aaL h2]
theorem E6(l:Es)(k:List UInt8)(c:Int):∀x∈(gg l k c).map (·.1),x=k∨x∈l.map (·.1):=by
 induction l with
  |nil=>simp[gg]
  |cons e l ih=>
   simp only[gg];intro x hx;split at hx
   ·simp only[aaY,aa']at hx⊢;rcases hx with h|h
    ·exact Or.inl h
    ·exact Or.inr (Or.inr h)
   ·simp only[aaY,aa']at hx⊢;rcases hx with h|h
    ·exact Or.inr (Or.inl h)
    ·rcases ih x h with h|h
     ·exact Or.inl h
     ·exact Or.inr (Or.inr h)
theorem LI{l:Es}(h:Nd l)(k:List UInt8)(c:Int):Nd (gg l k c):=by
 induction l with
  |nil=>simp[gg,Nd]
  |cons e l ih=>
   simp only[Nd,aaY,acn]at h;simp only[gg];split
   ·rename_i h2;have h3:e.1=k:=by simpa using h2
    simp only[Nd,aaY,acn];rw[←h3];exact h
   ·rename_i h2;have h3:e.1≠k:=by simpa using h2
    simp only[Nd,aaY,acn];refine⟨fun hm=>?_,ih h.2⟩;rcases E6 l k c _ hm with h4|h4
    ·exact h3 h4
    ·exact h.1 h4
theorem E7(l:Es)(k:List UInt8)(c:Int):∀x∈gV l k c,x.1=k∨x∈l:=by
 induction l with
  |nil=>intro x hx;simp only[gV]at hx;split at hx<;>simp_all
  |cons e l ih=>
   intro x hx;simp only[gV]at hx;split at hx
   ·split at hx
    ·exact Or.inr (by simp[hx])
    ·rcases aa'.1 hx with h|h
     ·exact Or.inl (by rw[h])
     ·exact Or.inr (by simp[h])
   ·split at hx
    ·split at hx
     ·exact Or.inr hx
     ·rcases aa'.1 hx with h|h
      ·exact Or.inl (by rw[h])
      ·exact Or.inr h
    ·rcases aa'.1 hx with h|h
     ·exact Or.inr (by simp[h])
     ·rcases ih x h with h|h
      ·exact Or.inl h
      ·exact Or.inr (by simp[h])
theorem pV{l:Es}(h:yB l)(k:List UInt8)(c:Int):yB (gV l k c):=by
 induction l with
  |nil=>simp only[gV];split<;>simp[yB]
  |cons e l ih=>
   have h0:=h;simp only[yB,abJ]at h;simp only[gV];split
   ·rename_i h1;split
    ·exact h.2
    ·exact abJ.2 ⟨fun b hb=>by have:=h.1 b hb;rw[h1]at this;exact this,h.2⟩
   ·rename_i h1;split
    ·rename_i h2;split
     ·exact h0
     ·refine abJ.2 ⟨fun b hb=>?_,h0⟩;rcases aa'.1 hb with h3|h3
      ·rw[h3];exact h2
      ·exact ady h2 (h.1 b h3)
    ·rename_i h2;refine abJ.2 ⟨fun b hb=>?_,ih h.2⟩;rcases E7 l k c b hb with h3|h3
     ·rw[h3];exact Decidable.byContradiction fun h4=>h1 (acw (ads.1 h2) (ads.1 h4))
     ·exact h.1 b h3
theorem sR{l:Es}(h:Nz l)(k:List UInt8)(c:Int):Nz (gV l k c):=by
 induction l with
  |nil=>intro x hx;simp only[gV]at hx;split at hx<;>simp_all
  |cons e l ih=>
   have h1:Nz l:=fun x hx=>h x (by simp[hx])
   have h2:=h e (by simp);intro x hx;simp only[gV]at hx;split at hx
   ·split at hx
    ·exact h1 x hx
    ·rcases aa'.1 hx with h|h
     ·rw[h];assumption
     ·exact h1 x h
   ·split at hx
    ·split at hx
     ·exact h x hx
     ·rcases aa'.1 hx with h3|h3
      ·rw[h3];assumption
      ·exact h x h3
    ·rcases aa'.1 hx with h3|h3
     ·rw[h3];exact h2
     ·exact ih h1 x h3
theorem E8{l:Es}(h:yB l)(k:List UInt8)(c:Int)(x:List UInt8):bp (gV l k c) x=bp l x+if k=x then c else 0:=by
 induction l with
  |nil=>
   simp only[gV];split
   ·rename_i h1;rw[pU,h1];split<;>rfl
   ·simp only[cx,pU];split<;>omega
  |cons e l ih=>
   simp only[yB,abJ]at h;have bS:∀{y:List UInt8},y<e.1∨y=e.1→∀b∈l,b.1≠y:=fun hy b hb he=>by
    have h5:=h.1 b hb;rw[he]at h5;rcases hy with hy|hy
    ·exact ab1 _ (ady hy h5)
    ·rw[hy]at h5;exact ab1 _ h5
   simp only[gV];split
   ·rename_i h1;by_cases hx:k=x
    ·have h0:bp l x=0:=Ae (bS (Or.inr (by rw[←hx,h1])));rw[aaP hx,cx,aaP (h1.trans hx)];split
     ·rw[h0];omega
     ·rw[cx,aaP hx]
    ·rw[aaL hx,cx,aaL (fun h4=>hx (h1.symm.trans h4))];split
     ·omega
     ·rw[cx,aaL hx];omega
   ·rename_i h1;split
    ·rename_i h2;split
     ·rename_i h3;rw[h3];split<;>omega
     ·rw[cx];by_cases hx:k=x
      ·rw[aaP hx,aaP hx,cx,aaL (fun h4=>h1 (h4.trans hx.symm)),Ae (bS (Or.inl (hx▸h2)))];omega
      ·rw[aaL hx,aaL hx];omega
    ·rw[cx,cx,ih h.2];by_cases hx:e.1=x
     ·rw[aaP hx,aaP hx,aaL (fun h4=>h1 (hx.trans h4.symm))];omega
     ·rw[aaL hx,aaL hx]
theorem B3{l:Es}(h:yB l):Nd l:=by refine List.Pairwise.map _ (fun a b Pf=>?_ ) h;intro he;rw[he]at Pf;exact ab1 _ Pf
theorem Af{l:Es}(h:Nd l):∀e∈l,bp l e.1=e.2:=by
 induction l with
  |nil=>intro e he;cases he
  |cons a l ih=>
   simp only[Nd,aaY,acn]at h;intro e he;rw[cx];rcases aa'.1 he with h1|h1
   ·rw[h1,aaP rfl]
   ·rw[aaL (fun h2:a.1=e.1=>h.1 (by rw[h2];exact acZ h1)),ih h.2 e h1]
theorem LJ{l:Es}{x:List UInt8}(h:bp l x≠0):∃e∈l,e.1=x∧e.2=bp l x:=by
 induction l with
  |nil=>exact absurd rfl h
  |cons a l ih=>
   rw[cx]at h⊢;by_cases h1:a.1=x
   ·rw[aaP h1];exact⟨a,by simp,h1,rfl⟩
   ·rw[aaL h1]at h⊢;obtain⟨e,k1,k2,k3⟩:=ih h;exact⟨e,by simp[k1],k2,k3⟩
theorem Ag{l:Es}(h:Nd l)(x:List UInt8):x∈bW l↔bp l x≠0:=by
 simp only[bW,aa8,aaZ,aaN];constructor
 ·rintro⟨e,⟨h1,h2⟩,rfl⟩;rw[Af h e h1];exact h2
 ·intro h1;obtain⟨e,k1,k2,k3⟩:=LJ h1;exact⟨e,⟨k1,by rw[k3];exact h1⟩,k2⟩
theorem LK{l:Es}(h:Nz l):bW l=l.map (·.1):=by rw[bW,ab5.2 fun e he=>by simpa using h e he]
theorem DM{l:Es}(h:Nd l):(bW l).Nodup:=List.Nodup.sublist (List.Sublist.map _ List.filter_sublist) h
theorem Pg{es ts:Es}(h1:Nd es)(h2:yB ts)(h3:Nz ts)(h4:∀x,bp es x=bp ts x):be es=ts:=by
 have hp:(bW es).Perm (ts.map (·.1)):=by
  rw[←LK h3];refine(List.perm_ext_iff_of_nodup (DM h1) (DM (B3 h2))).2 fun x=>?_
  rw[Ag h1,Ag (B3 h2),h4]
 have hs:dF (bW es)=ts.map (·.1):=by
  have QL:∀(x y:List UInt8),(decide (x≤y)||decide (y≤x))=true:=fun x y=>by rcases adw x y with h|h<;>simp[h]
  have QM:∀(x y z:List UInt8),decide (x≤y)=true→decide (y≤z)=true→decide (x≤z)=true:=fun x y z h1 h2=>by simp only[aaN]at*;exact adx h1 h2
  refine ac6 (le:=fun x y=>decide (x≤y)=true) (fun x y _ _ k1 k2=>?_ ) (acA QM QL _) ?_ ((acz _ _).trans hp)
  ·simp only[aaN]at k1 k2;exact acw k1 k2
  ·refine List.Pairwise.map _ (fun a b Pf=>?_ ) h2;simp only[aaN];exact List.le_of_lt Pf
 rw[be,hs,List.map_map];refine(List.map_congr_left fun e he=>?_ ).trans (List.map_id _);simp only[Function.comp,id,h4];rw[Af (B3 h2) e he]
def lf(ops:Es)(es:Es):Es:=ops.foldl (fun l o=>gg l o.1 o.2) es
def pW(ops:Es)(ts:Es):Es:=ops.foldl (fun l o=>gV l o.1 o.2) ts
theorem LL(ops:Es):∀{es ts:Es},Nd es→yB ts→Nz ts→(∀x,bp es x=bp ts x)→be (lf ops es)=pW ops ts:=by
 induction ops with
  |nil=>intro es ts h1 h2 h3 h4;exact Pg h1 h2 h3 h4
  |cons o ops ih=>intro es ts h1 h2 h3 h4;exact ih (LI h1 _ _) (pV h2 _ _) (sR h3 _ _) fun x=>by rw[wg,E8 h2,h4]
theorem Ph(ops:Es):be (lf ops [])=pW ops []:=LL ops (by simp[Nd]) (by simp[yB]) (by simp[Nz]) fun _=>rfl
def sj(k:List UInt8)(c:Int):Bool→Es→Es|true,[]=>[]|false,[]=>[(k,c)]|true,e::r=>(if e.1=k then(e.1,e.2+c)else e)::sj k c true r|false,e::r=>if k<e.1 then(k,c)::e::sj k c true r else if e.1=k then(e.1,e.2+c)::sj k c true r else e::sj k c false r
def Nc(l:Es):Es:=l.filter fun e=>decide (e.2≠0)
theorem wi{k:List UInt8}{c:Int}{l:Es}(h:∀e∈l,e.1≠k):sj k c true l=l:=by
 induction l with
  |nil=>rfl
  |cons e l ih=>rw[sj,aaL (h e (by simp)),ih fun a ha=>h a (by simp[ha])]
theorem IJ{l:Es}(h:Nz l):Nc l=l:=ab5.2 fun e he=>by simpa using h e he
theorem pX(e:List UInt8×Int)(l:Es):Nc (e::l)=if e.2=0 then Nc l else e::Nc l:=by by_cases h:e.2=0<;>simp[Nc,h]
theorem E9{k:List UInt8}{c:Int}{l:Es}(h:yB l)(hz:Nz l):Nc (sj k c false l)=gV l k c:=by
 induction l with
  |nil=>rw[sj,pX,gV];rfl
  |cons e l ih=>
   have Qd:Nz l:=fun x hx=>hz x (by simp[hx])
   have NA:=hz e (by simp);simp only[yB,abJ]at h;have bS:∀{y:List UInt8},y<e.1∨y=e.1→∀b∈l,b.1≠y:=fun hy b hb he=>by
    have h5:=h.1 b hb;rw[he]at h5;rcases hy with hy|hy
    ·exact ab1 _ (ady hy h5)
    ·rw[hy]at h5;exact ab1 _ h5
   rw[sj,gV];by_cases h1:e.1=k
   ·rw[aaL (by rw[h1];exact ab1 _),aaP h1,aaP h1,wi (bS (Or.inr h1.symm)),pX,IJ Qd,h1]
   ·rw[aaL h1,aaL h1];by_cases h2:k<e.1
    ·rw[aaP h2,aaP h2,wi (bS (Or.inl h2)),pX,IJ hz]
    ·rw[aaL h2,aaL h2,pX,aaL NA,ih h.2 Qd]
end Fw.Tz.Su
/-
  Maps of numbers at open keys: looked up and written.
-/
namespace Fw.Tz.Su
open Go Go.Proofs Fw.X Fw.Tz
def qV:Es→List UInt8→Int→Es|[],k,c=>[(k,c)]|e::r,k,c=>if e.1==k then(k,c)::r else e::qV r k c
theorem qW(k:List UInt8)(c:Int):∀(es:Es),qV es k (bp es k+c)=gg es k c
 |[]=>by simp[qV,gg,pU]
 |e::r=>by
  rw[qV,gg,cx];by_cases h:e.1=k
  ·simp[h]
  ·simp[h,qW k c r]
theorem wj(k:List UInt8)(c:Int):∀(es:Es)(j:Nat),∃r,kP (.str k) (db es) j=some r∧match r with
  |some (i,_)=>j≤i∧(db es).set (i - j) (.str k,.d (.int .i64 c))=db (qV es k c)
  |none=>db es++[(.str k,.d (.int .i64 c))]=db (qV es k c)
 |[],j=>⟨none,rfl,rfl⟩
 |(a,x)::es,j=>by
  simp only[db,aaY,kP,yr];rw[Fw.cZ];by_cases h:k=a
  ·subst h;simp only[beq_self_eq_true];exact⟨_,rfl,by simp[qV]⟩
  ·have e1:(k==a)=false:=by simpa using h
   have e2:(a==k)=false:=by simpa using acM h
   rw[e1];obtain⟨r,h1,h2⟩:=wj k c es (j+1);refine⟨r,h1,?_⟩;cases r with
    |none=>simp only[db,qV,e2,abQ,aaY,abB,abT]at h2⊢;rw[h2]
    |some p=>obtain⟨i,v⟩:=p;simp only[db,qV,e2,aaY,abB,abT]at h2⊢;refine⟨by omega,?_ ⟩;rw[show i - j=(i - (j+1))+1 by omega,acg,h2.2]
section
variable {P:Program}{GL:cj}
theorem Ah{GL:cj}{tm:List (Nat×V)}{H:ai}{m k:ba}{z:V}{b ns:Nat}{es:Es}{s:List UInt8}(h2:aX GL tm m=.map b)(h3:aE H b=some (.map (db es)))(h4:aX GL tm k=.d (.str s))(hz:z=.d (.int .i64 0)):bw (aX GL tm) H ns (.lookup .str z false m k)=some (.d (.int .i64 (bp es s)),none):=by
 subst hz;have hl:=rO s es;simp only[bw,h2,h4,eW,lV,h3,aaH];split at hl
 ·rename_i v hm;rw[hm];simpa using hl
 ·rename_i hm;rw[hm];simpa using hl
 ·cases hl
theorem DN{GL:cj}{tm:List (Nat×V)}{H:ai}{m k x:ba}{b ns:Nat}{es:Es}{s:List UInt8}{c:Int}(h2:aX GL tm m=.map b)(h3:aE H b=some (.map (db es)))(h4:aX GL tm k=.d (.str s))(h5:aX GL tm x=.d (.int .i64 c)):bw (aX GL tm) H ns (.gj .str m k x)=some (.any,some (b,.map (db (qV es s c)))):=by
 obtain⟨r,k1,k2⟩:=wj s c es 0;simp only[bw,h2,h4,h5,eW,h3,aaH,k1];cases r with
  |none=>simp only at k2⊢;rw[k2]
  |some p=>obtain⟨i,v⟩:=p;simp only[ach]at k2⊢;rw[k2.2]
theorem Um{d:Nat}{z:V}{m k:ba}{g:Option (Nat×Bool)}{af:List Nat}{l:List ad}{K:List Fr}{n:Nat}{tm:List (Nat×V)}{H:ai}{Q:Ex→St→Prop}(b:Nat)(es:Es)(s:List UInt8)(ho:l.head?=some ⟨some d,.lookup .str z false m k,g,af⟩)(hc:(ar g tm,aX GL tm m,aE H b,aX GL tm k,z,Nat.blt d n)=(some true,.map b,some (.map (db es)),.d (.str s),.d (.int .i64 0),true))(hq:CG P GL (.ops (l.drop 1)) K n (put tm d (.d (.int .i64 (bp es s)))) H Q):CG P GL (.ops l) K n tm H Q:=by simp only[aaF]at hc;obtain⟨h1,h2,h3,h4,h5,h6⟩:=hc;exact CG.iL ho h1 (Ah h2 h3 h4 h5) rfl h6 hq
theorem YY{m k x:ba}{g:Option (Nat×Bool)}{af:List Nat}{l:List ad}{K:List Fr}{n:Nat}{tm:List (Nat×V)}{H:ai}{Q:Ex→St→Prop}(b:Nat)(es:Es)(s:List UInt8)(c:Int)(ho:l.head?=some ⟨none,.gj .str m k x,g,af⟩)(hc:(ar g tm,aX GL tm m,aE H b,aX GL tm k,aX GL tm x)=(some true,.map b,some (.map (db es)),.d (.str s),.d (.int .i64 c)))(hq:CG P GL (.ops (l.drop 1)) K n tm (bn H b (.map (db (qV es s c)))) Q):CG P GL (.ops l) K n tm H Q:=by simp only[aaF]at hc;obtain⟨h1,h2,h3,h4,h5⟩:=hc;exact CG.Ib ho h1 (DN h2 h3 h4 h5) rfl hq
theorem Un{d base i:Nat}{z:V}{m k:ba}{g:Option (Nat×Bool)}{af:List Nat}{l:List ad}{tm:List (Nat×V)}{H:ai}{Q:RS→List (Nat×V)→ai→Prop}(b:Nat)(es:Es)(s:List UInt8)(ho:l.head?=some ⟨some d,.lookup .str z false m k,g,af⟩)(hc:(ar g tm,aX GL tm m,aE H b,aX GL tm k,z)=(some true,.map b,some (.map (db es)),.d (.str s),.d (.int .i64 0)))(hq:AW P GL base (i+1) (l.drop 1) (put tm d (.d (.int .i64 (bp es s)))) H (fun rs t k'=>Q (((.d (.int .i64 (bp es s)),none),lC (aX GL tm) (.lookup .str z false m k))::rs) t k')):AW P GL base i l tm H Q:=by simp only[aaF]at hc;obtain⟨h1,h2,h3,h4,h5⟩:=hc;exact AW.iL ho h1 rfl (Ah h2 h3 h4 h5) hq
theorem YZ{base i:Nat}{m k x:ba}{g:Option (Nat×Bool)}{af:List Nat}{l:List ad}{tm:List (Nat×V)}{H:ai}{Q:RS→List (Nat×V)→ai→Prop}(b:Nat)(es:Es)(s:List UInt8)(c:Int)(ho:l.head?=some ⟨none,.gj .str m k x,g,af⟩)(hc:(ar g tm,aX GL tm m,aE H b,aX GL tm k,aX GL tm x)=(some true,.map b,some (.map (db es)),.d (.str s),.d (.int .i64 c)))(hq:AW P GL base (i+1) (l.drop 1) tm (bn H b (.map (db (qV es s c)))) (fun rs t k'=>Q (((.any,some (b,.map (db (qV es s c)))),lC (aX GL tm) (.gj .str m k x))::rs) t k')):AW P GL base i l tm H Q:=by simp only[aaF]at hc;obtain⟨h1,h2,h3,h4,h5⟩:=hc;exact AW.Ib ho h1 rfl (DN h2 h3 h4 h5) hq
end
end Fw.Tz.Su
/-
  Numerals: which strings of digits are the decimal digits of a positive number.
-/
namespace Fw.Nu
open Go.Lib
def ck(b:UInt8):Bool:=decide (48≤b.toNat∧b.toNat≤57)
def lP(b:UInt8):Bool:=decide (97≤b.toNat∧b.toNat≤122)
def B4:List UInt8→Bool|[]=>false|d::u=>decide (u.length≤8)&& !(Nat.beq d.toNat 48)&&(d::u).all ck
def val(acc:Nat)(l:List UInt8):Nat:=l.foldl (fun a b=>a*10+(b.toNat - 48)) acc
theorem sS(acc:Nat):val acc []=acc:=adr
theorem m_(acc:Nat)(b:UInt8)(l:List UInt8):val acc (b::l)=val (acc*10+(b.toNat - 48)) l:=abP ..
theorem IK(l:List UInt8)(b:UInt8)(acc:Nat):val acc (l++[b])=val acc l*10+(b.toNat - 48):=by unfold val;rw[adD];rw[abP,adr]
theorem IL:∀(l:List UInt8)(acc:Nat),l.all ck=true→val acc l<(acc+1)*10^l.length
 |[],acc,_=>by rw[sS,abl,Nat.pow_zero];omega
 |b::l,acc,h=>by simp only[aa4,aaD,ck,aaN]at h;have:=IL l (acc*10+(b.toNat - 48)) h.2;rw[m_,aaS,adF];refine abr this ?_;rw[Nat.mul_comm (10^l.length) 10,←Nat.mul_assoc];exact abg _ (by omega)
theorem xS:∀(l:List UInt8)(acc:Nat),0<acc→0<val acc l
 |[],acc,h=>by rw[sS];exact h
 |b::l,acc,h=>by rw[m_];exact xS l _ (by omega)
theorem wk:∀(l:List UInt8)(acc:Nat),l.all ck=true→(acc+1)*10^l.length≤1000000000000000000→parseUint10 acc l=.ok (val acc l)
 |[],acc,_,_=>by rw[sS];rfl
 |b::l,acc,h,hl=>by
  simp only[aa4,aaD,ck,aaN]at h;simp only[aaS,adF]at hl;have h1:0<10^l.length:=Nat.pow_pos (by omega);have h3:(acc+1)*10*10^l.length≤1000000000000000000:=by rw[Nat.mul_assoc,Nat.mul_comm 10];exact hl
  have h2:(acc+1)*10≤(acc+1)*10*10^l.length:=ac9 _ h1;have h4:(acc+1)*10≤1000000000000000000:=aby h2 h3;rw[m_,parseUint10];rw[aaP h.1,aaL (by omega),aaL (by omega)];refine wk l _ h.2 (aby (abg _ ?_ ) h3);omega
theorem B5:∀(u:Nat),(decDigits u).all ck=true:=by
 intro u;induction u using Nat.strongRecOn with
  |_ u ih=>
   rw[decDigits];split
   ·rename_i h;simp only[aa4,adH,acU,ck,aaN];rw[adu,Nat.mod_eq_of_lt (by omega)];omega
   ·rename_i h;simp only[ac2,ih (u / 10) (by omega),aa4,adH,acU,aa2,ck,aaN];rw[adu,Nat.mod_eq_of_lt (by omega)];omega
theorem IM:∀(u:Nat),0<u→∃d r,decDigits u=d::r∧d.toNat≠48:=by
 intro u;induction u using Nat.strongRecOn with
  |_ u ih=>
   intro hu;rw[decDigits];split
   ·rename_i h;refine⟨_,_,rfl,?_⟩;rw[adu,Nat.mod_eq_of_lt (by omega)];omega
   ·rename_i h;obtain⟨d,r,h1,h2⟩:=ih (u / 10) (by omega) (by omega);exact⟨d,r++[UInt8.ofNat (48+u%10)],by rw[h1];rfl,h2⟩
theorem wm{b:UInt8}(h:ck b=true):UInt8.ofNat (48+(b.toNat - 48))=b:=by simp only[ck,aaN]at h;rw[show 48+(b.toNat - 48)=b.toNat by omega,UInt8.ofNat_toNat]
theorem LM:∀(n:Nat)(l:List UInt8),l.length=n→l.all ck=true→(∀d r,l=d::r→d.toNat≠48)→l≠[]→decDigits (val 0 l)=l:=by
 intro n;induction n using Nat.strongRecOn with
  |_ n ih=>
   intro l hn hd h0 et;obtain⟨l',b,rfl⟩:∃l' b,l=l'++[b]:=⟨l.dropLast,l.getLast et,(List.dropLast_concat_getLast et).symm⟩;simp only[ac2,aa4,adH,acU,aaD]at hd;have hb:=hd.2;have QZ:=hb;simp only[ck,aaN]at QZ;rw[IK];cases l' with
    |nil=>rw[sS,adG,aaU];rw[decDigits,dif_pos (by omega),wm hb];rfl
    |cons d r=>
     have Hb:d.toNat≠48:=h0 d (r++[b]) rfl;have hdd:=hd.1;simp only[aa4,aaD,ck,aaN]at hdd;have hp:0<val 0 (d::r):=by rw[m_];exact xS r _ (by omega)
     have:=ih (d::r).length (by simp at hn⊢;omega) (d::r) rfl hd.1 (fun d' r' e=>by cases e;exact Hb) (by simp);rw[decDigits,dif_neg (by omega),show(val 0 (d::r)*10+(b.toNat - 48)) / 10=val 0 (d::r) by omega,show(val 0 (d::r)*10+(b.toNat - 48))%10=b.toNat - 48 by omega,this,wm hb]
theorem Nf{t:List UInt8}(h:B4 t=true):∃v:Nat,0<v∧v<1000000000∧atoiAll t=.ok (v:Int)∧t.length≤9∧itoa (v:Int)=t:=by
 cases t with
  |nil=>simp[B4]at h
  |cons d u=>
   simp only[B4,aaD,aaN,abj]at h;obtain⟨⟨h1,h2⟩,h3⟩:=h;have Y0:d.toNat≠48:=fun e=>by rw[e]at h2;cases h2
   have hd:=h3;simp only[aa4,aaD,ck,aaN]at hd;have hlen:(d::u).length≤9:=by simp;omega
   have aaA:10^(d::u).length≤1000000000:=by have:10^(d::u).length≤10^9:=Nat.pow_le_pow_right (by omega) hlen;simpa using this
   have bS:=IL (d::u) 0 h3;simp only[aaU,Nat.one_mul]at bS;refine⟨val 0 (d::u),?_,by omega,?_,hlen,?_ ⟩
   ·rw[m_];exact xS u _ (by omega)
   ·unfold atoiAll;simp only;rw[aaL (by omega)];unfold parseMag;rw[aaL (by simp),wk _ 0 h3 (by omega)];simp only;rw[aaL (by omega),aaL (by omega),aaL (by omega)]
   ·unfold itoa;rw[aaL (by omega),Int.toNat_natCast];exact LM _ (d::u) rfl h3 (fun d' r' e=>by cases e;exact Y0) (by simp)
theorem Uo{t:List UInt8}{v:Int}(h0:0<v)(hl:t.length≤9)(h:itoa v=t):B4 t=true:=by
 unfold itoa at h;rw[aaL (by omega)]at h;obtain⟨d,r,e1,e2⟩:=IM v.toNat (by omega);have hd:=B5 v.toNat;rw[e1]at hd h;subst h;have:Nat.beq d.toNat 48=false:=by
  cases hb:Nat.beq d.toNat 48 with
   |false=>rfl
   |true=>exact absurd (aaI hb) e2
 simp only[B4,aaD,aaN,this,hd];simp at hl⊢;omega
end Fw.Nu
/-
  Digits cut off at both ends.
-/
namespace Fw.Nu
def iM(s:List UInt8):List UInt8:=(s.reverse.dropWhile ck).reverse
def ma(s:List UInt8):List UInt8:=s.dropWhile ck
theorem qX{p:UInt8→Bool}:∀(l:List UInt8),l.dropWhile p=[]↔l.all p=true
 |[]=>by simp
 |a::l=>by
  rw[ab6];cases h:p a with
   |true=>simp only[abv,aa4,h,aa2];exact qX l
   |false=>simp[h]
theorem uo{p:UInt8→Bool}(a:UInt8)(ha:p a=false):∀(l:List UInt8),(l++[a]).dropWhile p≠[]
 |[]=>by simp[ha]
 |b::l=>by
  rw[abQ,ab6];cases p b with
   |true=>simp only[abv];exact uo a ha l
   |false=>simp
theorem uq{p:UInt8→Bool}:∀(l:List UInt8)(a:UInt8)(r:List UInt8),l.dropWhile p=a::r→p a=false
 |[],_,_,h=>by simp at h
 |b::l,a,r,h=>by
  rw[ab6]at h;cases hb:p b with
   |true=>rw[hb]at h;exact uq l a r (by simpa using h)
   |false=>rw[hb]at h;simp at h;rw[←h.1];exact hb
theorem IN(s:List UInt8):ma (iM s)=[]↔s.all ck=true:=by
 unfold ma iM;cases h:s.reverse.dropWhile ck with
  |nil=>have:=(qX s.reverse).1 h;simp only[List.reverse_nil,List.dropWhile_nil,true_iff];simpa using this
  |cons a r=>
   have ha:=uq _ _ _ h;rw[List.reverse_cons];constructor
   ·intro h2;exact absurd h2 (uo a ha _)
   ·intro h2;have h3:s.reverse.all ck=true:=by simpa using h2
    rw[(qX _).2 h3]at h;cases h
theorem ur(l:List UInt8)(a:UInt8):iM (l++[a])=if ck a=true then iM l else l++[a]:=by
 unfold iM;rw[List.reverse_append];simp only[List.reverse_cons,List.reverse_nil,abV,List.singleton_append,ab6];split
 ·rfl
 ·simp
def cQ:List UInt8→Bool|[]=>false|c::t=>decide (t.length≤29)&&decide (65≤c.toNat∧c.toNat≤90)&&t.all ck
end Fw.Nu
/-
  Names and small numbers, of the program and of the reference, for any string.
-/
namespace Fw.Tz.Na
open Go Go.Proofs Fw.X Fw.Tz Fw.Nu Fw.Tz.Sd
variable {W:World}
theorem drop_at{α:Type}{l:List α}{i:Nat}{x:α}(h:l[i]? =some x):l.drop i=x::l.drop (i+1):=by obtain⟨bS,he⟩:=aaK.1 h;rw[abz bS,he]
def a8(n:Int):Bool:=decide (-1000000≤n∧n≤1000000)
def qY:Nat→List UInt8→Bool|_,[]=>true|i,b::r=>(lP b||(!Nat.beq i 0&&ck b))&&qY (i+1) r
def bj:List UInt8→Bool|[]=>false|c::t=>bif Nat.beq c.toNat 95 then B4 t else decide (t.length≤29)&&qY 0 (c::t)
theorem Ai{c:UInt8}{t:List UInt8}(h:(c.toNat:Int)=95):bj (c::t)=B4 t:=by
 have:Nat.beq c.toNat 95=true:=by rw[show c.toNat=95 by omega];rfl
 rw[bj,this];rfl
theorem Aj{c:UInt8}{t:List UInt8}(h:(c.toNat:Int)≠95):bj (c::t)=(decide (t.length≤29)&&qY 0 (c::t)):=by
 have:Nat.beq c.toNat 95=false:=by cases hb:Nat.beq c.toNat 95 with|false=>rfl|true=>exact absurd (by have:=aaI hb;omega) h
 rw[bj,this];rfl
theorem fj(hW:W0 W)(n:Int):PC P (gl W) 153 [.d (.int .i64 n)] (.d (.bool (a8 n))):=by
 refine CG.start TF TG rfl ?_;refine s1 hW 4 3 [] 1 [(2,bF),(5,bo (!aP n (-1000000)))] ?_;refine zD n (-1000000) (fun q5 p5=>?_ ) (fun q5 p5=>?_ );rw[q5];refine s1 hW 2 0 [] 2 [] ?_;refine CG.rt (bF) ?_;rotate_left;rw[q5];refine s1 hW 2 0 [] 0 [(2,bo (!aP 1000000 n))] ?_;refine CG.rt (bo (!aP 1000000 n)) ?_;rotate_left
 ·simp only[V.d.injEq,D.bool.injEq,a8];symm;rw[abx];omega
 ·have h:aP 1000000 n=decide ((1000000:Int)<n):=fv _ _;simp only[V.d.injEq,D.bool.injEq,a8,h];rw[aa_];simp;omega
theorem wo(hW:W0 W)(n:Int):PC P (gl W) 142 [.d (.int .i64 n)] (.d (.bool (a8 n))):=by
 refine CG.start Tr Ts rfl ?_;refine s1 hW 4 3 [] 1 [(2,bF),(5,bo (!aP n (-1000000)))] ?_;refine zD n (-1000000) (fun q5 p5=>?_ ) (fun q5 p5=>?_ );rw[q5];refine s1 hW 2 0 [] 2 [] ?_;refine CG.rt (bF) ?_;rotate_left;rw[q5];refine s1 hW 2 0 [] 0 [(2,bo (!aP 1000000 n))] ?_;refine CG.rt (bo (!aP 1000000 n)) ?_;rotate_left
 ·simp only[V.d.injEq,D.bool.injEq,a8];symm;rw[abx];omega
 ·have h:aP 1000000 n=decide ((1000000:Int)<n):=fv _ _;simp only[V.d.injEq,D.bool.injEq,a8,h];rw[aa_];simp;omega
theorem Ak{t:List UInt8}(h:9<t.length):B4 t=false:=by
 cases t with
  |nil=>rfl
  |cons d u=>simp only[aaS]at h;rw[B4,aa5 (by omega)];rfl
theorem IP{c:UInt8}{t:List UInt8}(h:(c.toNat:Int)=95):Lib.hasPrefix (c::t) [95]=true:=by have:c=95:=acC.1 (by simpa using(by omega:c.toNat=95));subst this;simp[Lib.hasPrefix]
theorem E'{s:List UInt8}(h:Lib.hasPrefix s [95]=false):bj s=(!Fw.ae s []&& !aP 30 (.ofNat s.length)&&qY 0 s):=by
 cases s with
  |nil=>rfl
  |cons c t=>
   have hc:(c.toNat:Int)≠95:=fun e=>by rw[IP e]at h;cases h
   rw[Aj hc];have e1:Fw.ae (c::t) []=false:=rfl;have e2:(!aP 30 (.ofNat (c::t).length))=decide (t.length≤29):=by rw[fv,aa_];simp;omega
   rw[e1,e2];rfl
theorem DO{t:List UInt8}(h:∀v,Lib.atoiAll t≠ .ok v):B4 t=false:=by
 cases hb:B4 t with
  |false=>rfl
  |true=>obtain⟨v,_,_,h2,_⟩:=Nf hb;exact absurd h2 (h v)
theorem rV:∀(x:List UInt8),Fw.ae x x=true|[]=>rfl|a::x=>by simp only[Fw.ae,aa0,aaH];exact rV x
theorem LN{t:List UInt8}{v:Int}(hv:Lib.atoiAll t=.ok v):B4 t=(decide (0<v)&&decide (t.length≤9)&&Fw.ae (Lib.itoa v) t):=by
 cases hb:B4 t with
  |true=>
   obtain⟨u,h0,h1,h2,h3,h4⟩:=Nf hb;rw[hv]at h2;injection h2 with h2
   subst h2;rw[aa9 (by omega),aa9 h3,h4,rV];rfl
  |false=>
   symm;by_cases h0:0<v
   ·by_cases hl:t.length≤9
    ·rw[aa9 h0,aa9 hl];cases he:Fw.ae (Lib.itoa v) t with
      |false=>rfl
      |true=>rw[Uo h0 hl (cZ he)]at hb;cases hb
    ·rw[aa5 hl,abH];rfl
   ·rw[aa5 h0];rfl
theorem B6{t:List UInt8}{v:Int}(h:Lib.atoiAll t=.ok v): -9223372036854775808≤v∧v≤9223372036854775807:=by
 unfold Lib.atoiAll at h;cases t with
  |nil=>cases h
  |cons c r=>
   simp only at h;split at h
   ·cases h
   ·cases h
   ·split at h
    ·cases h
    ·split at h
     ·cases h
     ·injection h with h
      subst h;split<;>omega
theorem pY(hW:W0 W)(b:UInt8):PC P (gl W) 177 [.d (.int .u8 b.toNat)] (.d (.bool (ck b))):=by refine CG.start TR TS rfl ?_;refine s1 hW 4 3 [] 1 [(2,bF),(5,bo (!aP (Int.ofNat (UInt8.toNat b)) 48))] ?_;refine dh (UInt8.toNat b) 48 (fun q5 p5=>?_ ) (fun q5 p5=>?_ );have q6:(aP (Int.ofNat (UInt8.toNat b)) 48)=true:=ki;rw[q6];refine s1 hW 2 0 [] 2 [] ?_;refine CG.rt (bF) ?_;rotate_left;have q7:(aP (Int.ofNat (UInt8.toNat b)) 48)=false:=lZ;rw[q7];refine s1 hW 2 0 [] 0 [(2,bo (!aP 57 (Int.ofNat (UInt8.toNat b))))] ?_;refine CG.rt (bo (!aP 57 (Int.ofNat (UInt8.toNat b)))) ?_;rotate_left;all_goals simp only[V.d.injEq,D.bool.injEq,ck];first|(symm;rw[abx];omega)|(rw[fv,aa_];simp;omega)
theorem vf(hW:W0 W)(b:UInt8):PC P (gl W) 178 [.d (.int .u8 b.toNat)] (.d (.bool (lP b))):=by refine CG.start TT TU rfl ?_;refine s1 hW 4 3 [] 1 [(2,bF),(5,bo (!aP (Int.ofNat (UInt8.toNat b)) 97))] ?_;refine dh (UInt8.toNat b) 97 (fun q5 p5=>?_ ) (fun q5 p5=>?_ );have q6:(aP (Int.ofNat (UInt8.toNat b)) 97)=true:=ki;rw[q6];refine s1 hW 2 0 [] 2 [] ?_;refine CG.rt (bF) ?_;rotate_left;have q7:(aP (Int.ofNat (UInt8.toNat b)) 97)=false:=lZ;rw[q7];refine s1 hW 2 0 [] 0 [(2,bo (!aP 122 (Int.ofNat (UInt8.toNat b))))] ?_;refine CG.rt (bo (!aP 122 (Int.ofNat (UInt8.toNat b)))) ?_;rotate_left;all_goals simp only[V.d.injEq,D.bool.injEq,lP];first|(symm;rw[abx];omega)|(rw[fv,aa_];simp;omega)
theorem di(hW:W0 W)(s:List UInt8):PC P (gl W) 120 [.d (.str s)] (.d (.bool (bj s))):=by
 refine CG.start Td Te rfl ?_;cases s with
  |nil=>refine s1 hW 11 0 [true] 1 [(2,bF)] ?_;refine CG.rt (bF) ?_;rfl
  |cons c t=>
   by_cases hc:(c.toNat:Int)=95
   ·rw[Ai hc];cases t with
     |nil=>refine s1 hW 14 0 [false] 1 [(2,bF),(15,bo (a_ (Int.ofNat (UInt8.toNat c)) 95))] ?_;refine CG.aD (show(a_ (Int.ofNat (UInt8.toNat c)) 95)=true from nP) k_ ?_;refine s1 hW 8 0 [true] 3 [] ?_;refine CG.rt (bF) ?_;rfl
     |cons d u=>
      refine s1 hW 7 0 [] 1 [(2,bF),(12,bo (aP 30 (Int.ofNat (c::d::u).length)))] ?_;refine dh 30 (c::d::u).length (fun q7 p7=>?_ ) (fun q7 p7=>?_ )<;>simp only[zz]at p7;refine CG.aD (show(aP 30 (Int.ofNat (c::d::u).length))=true from ki) k_ ?_;refine s1 hW 3 0 [] 3 [] ?_;refine CG.rt (bF) ?_;rotate_left;refine CG.ay (show(aP 30 (Int.ofNat (c::d::u).length))=false from lZ) k_ ?_;refine s1 hW 6 0 [] 3 [(15,bo (a_ (Int.ofNat (UInt8.toNat c)) 95))] ?_;refine CG.aD (show(a_ (Int.ofNat (UInt8.toNat c)) 95)=true from nP) k_ ?_;refine s1 hW 2 9 [] 3 [(24,bo (aP 10 (Int.ofNat (c::d::u).length)))] ?_;refine dh 10 (c::d::u).length (fun q9 p9=>?_ ) (fun q9 p9=>?_ )<;>simp only[zz]at p9;have sk:(aP 10 (Int.ofNat (c::d::u).length))=true:=ki;rw[sk];refine s1 hW 6 0 [true] 3 [] ?_;refine CG.rt (bF) ?_;rotate_left;have qZ:(aP 10 (Int.ofNat (c::d::u).length))=false:=lZ;rw[qZ];refine s1 hW 2 0 [] 3 [(28,bo (a_ (Int.ofNat (UInt8.toNat d)) 48))] ?_;refine iX (UInt8.toNat d) 48 (fun sn QN=>?_ ) (fun sn QN=>?_ );refine CG.aD (show(a_ (Int.ofNat (UInt8.toNat d)) 48)=true from nP) k_ ?_;refine s1 hW 3 0 [] 3 [] ?_;refine CG.rt (bF) ?_;rotate_left;refine CG.ay (show(a_ (Int.ofNat (UInt8.toNat d)) 48)=false from mr) k_ ?_;refine s1 hW 7 0 [] 3 [(3,io 1)] ?_;rotate_left
      ·rw[Ak (by simp only[aaS];omega)]
      ·rw[Ak (by simp only[aaS];omega)]
      ·rw[B4,show Nat.beq d.toNat 48=true by rw[show d.toNat=48 by omega];rfl,abp,abH,abi]
      ·have Y0:Nat.beq d.toNat 48=false:=cG (by omega);rw[B4,Y0,aa9 (by omega),abD,abk,aa2];refine CG.bI (d::u) (fun i u2=>[(0,so (c::d::u)),(2,bF),(3,.d (.int .i64 (.ofNat (i+1))))]) (fun i u2=>[]) (fun i u2 r=>((d::u).all ck=r.all ck)) () ?_ (au.refl _ _) ?_ ?_
       ·rfl
       ·intro i u2 hi hd aF;simp only[aaS]at hi;refine s1 hW 4 0 [] 7 [(32,bo (aP (Int.ofNat (i+1)) (Int.ofNat (c::d::u).length)))] ?_;refine CG.ay (fw (i+1) (c::d::u).length) k_ ?_;refine CG.bg (by decide) ?_;refine s1 hW 5 0 [] 1 [(2,bT)] ?_;refine CG.rt (bT) ?_;rotate_left;rw[aF];rfl
       ·intro i u2 x r hd hx bS aF;have g_:(c::d::u)[i+1]? =some x:=by simpa using hx
        rw[show(x::r).all ck=(ck x&&r.all ck)from aa4 ..]at aF;simp only[aaS]at bS;refine s1 hW 4 0 [] 7 [(32,bo (aP (Int.ofNat (i+1)) (Int.ofNat (c::d::u).length)))] ?_;refine CG.aD (eC (i+1) (c::d::u).length) k_ ?_;refine s1 hW 5 2 [] 7 [(35,so (c::d::u)),(36,no (i+1))] ?_;refine CG.Qv g_ rfl k_ ?_;refine CG.pg (pY hW x) rfl k_ ?_;refine s1 hW 2 0 [] 7 [(39,bo (!ck x))] ?_;refine sp (ck x) (fun vg=>?_ ) (fun vg=>?_ );refine CG.ay (b:=(!ck x)) (by rw[vg];rfl) k_ ?_;refine s3 hW 3 3 [] [(0,so (c::d::u)),(2,bF),(3,io (aO IntKind.i64 (bl (Int.ofNat (i+1)) 1)))] ([]) ?_;refine CG.bM rfl ?_;rw[a6 (by omega)];rotate_left;refine CG.aD (b:=(!ck x)) (by rw[vg];rfl) k_ ?_;refine s1 hW 3 0 [] 7 [] ?_;refine CG.e9 (bF) ?_;rotate_left
        ·exact⟨(),by rw[aF,show ck x=true by assumption];rfl,au.refl _ _⟩
        ·rw[aF,show ck x=false by assumption];rfl
   ·rw[Aj hc];refine s1 hW 7 0 [] 1 [(2,bF),(12,bo (aP 30 (Int.ofNat (c::t).length)))] ?_;refine dh 30 (c::t).length (fun q6 p6=>?_ ) (fun q6 p6=>?_ )<;>simp only[zz]at p6;refine CG.aD (show(aP 30 (Int.ofNat (c::t).length))=true from ki) k_ ?_;refine s1 hW 3 0 [] 3 [] ?_;refine CG.rt (bF) ?_;rotate_left;refine CG.ay (show(aP 30 (Int.ofNat (c::t).length))=false from lZ) k_ ?_;refine s1 hW 6 0 [] 3 [(15,bo (a_ (Int.ofNat (UInt8.toNat c)) 95))] ?_;refine CG.ay (show(a_ (Int.ofNat (UInt8.toNat c)) 95)=false from mr) k_ ?_;refine s1 hW 7 0 [] 3 [(4,i0)] ?_;rotate_left
    ·rw[aa5 (by omega)];rfl
    ·rw[aa9 (by omega),aa2];refine CG.bI (c::t) (fun i u=>[(0,so (c::t)),(2,bF),(4,.d (.int .i64 (.ofNat i)))]) (fun i u=>[]) (fun i u r=>(qY 0 (c::t)=qY i r)) () ?_ (au.refl _ _) ?_ ?_
     ·rfl
     ·intro i u hi hd aF;refine s1 hW 4 0 [] 7 [(43,bo (aP (Int.ofNat i) (Int.ofNat (c::t).length)))] ?_;refine CG.ay (fw i (c::t).length) k_ ?_;refine CG.bg (by decide) ?_;refine s1 hW 5 0 [] 0 [(2,bT)] ?_;refine CG.rt (bT) ?_;rotate_left;rw[aF];rfl
     ·intro i u x r hd hx bS aF;rw[show qY i (x::r)=((lP x||(!Nat.beq i 0&&ck x))&&qY (i+1) r)from rfl]at aF;simp only[aaS]at bS;refine s1 hW 4 0 [] 7 [(43,bo (aP (Int.ofNat i) (Int.ofNat (c::t).length)))] ?_;refine CG.aD (eC i (c::t).length) k_ ?_;refine s1 hW 5 2 [] 7 [(46,so (c::t)),(47,no i)] ?_;refine CG.Qv hx rfl k_ ?_;refine CG.pg (vf hW x) rfl k_ ?_;refine s1 hW 0 2 [] 7 [(51,bo (!lP x))] ?_;refine sp (lP x) (fun jM=>?_ ) (fun jM=>?_ );rw[jM];refine s3 hW 6 3 [false] [(0,so (c::t)),(2,bF),(4,io (aO IntKind.i64 (bl (Int.ofNat i) 1)))] ([]) ?_;refine CG.bM rfl ?_;rw[a6 (by omega)];rotate_left;rw[jM];refine s1 hW 0 3 [] 15 [(54,bo (a_ (Int.ofNat i) 0))] ?_;refine iX i 0 (fun ji DQ=>?_ ) (fun ji DQ=>?_ );have o8:(a_ (Int.ofNat i) 0)=true:=nP;rw[o8];refine s1 hW 6 0 [true] 7 [] ?_;refine CG.e9 (bF) ?_;rotate_left;have jN:(a_ (Int.ofNat i) 0)=false:=mr;rw[jN];refine s1 hW 0 2 [] 31 [(55,so (c::t)),(56,no i)] ?_;refine CG.Qv hx rfl k_ ?_;refine CG.pg (pY hW x) rfl k_ ?_;refine s1 hW 2 0 [] 7 [(61,bo (!ck x))] ?_;refine sp (ck x) (fun na=>?_ ) (fun na=>?_ );refine CG.ay (b:=(!ck x)) (by rw[na];rfl) k_ ?_;refine s3 hW 3 3 [] [(0,so (c::t)),(2,bF),(4,io (aO IntKind.i64 (bl (Int.ofNat i) 1)))] ([]) ?_;refine CG.bM rfl ?_;rw[a6 (by omega)];rotate_left;refine CG.aD (b:=(!ck x)) (by rw[na];rfl) k_ ?_;refine s1 hW 3 0 [] 7 [] ?_;refine CG.e9 (bF) ?_;rotate_left
      ·exact⟨(),by rw[aF,show lP x=true by assumption];rfl,au.refl _ _⟩
      ·rw[aF,show lP x=false by assumption,show Nat.beq i 0=true by rw[show i=0 by omega];rfl];rfl
      ·exact⟨(),by rw[aF,show lP x=false by assumption,show Nat.beq i 0=false from cG (by omega),show ck x=true by assumption];rfl,au.refl _ _⟩
      ·rw[aF,show lP x=false by assumption,show ck x=false by assumption,abH];rfl
theorem nb(hW:W0 W)(s:List UInt8)(hs:s.length≤281474976710656):PC P (gl W) 115 [.d (.str s)] (.d (.bool (bj s))):=by
 refine CG.start Tb Tc rfl ?_;cases hp:Lib.hasPrefix s [95]with
  |true=>
   cases s with
    |nil=>cases hp
    |cons c t=>
     have hc:(c.toNat:Int)=95:=by
      have:(95:UInt8)=c:=by simpa[Lib.hasPrefix]using hp
      subst this;rfl
     rw[Ai hc];have hA:=Iq hW t (by simp only[aaS]at hs;omega);have hd:List.drop 1 (List.take (c::t).length (c::t))=t:=by rw[ab9];rfl
     refine s1 hW 7 0 [] 1 [(2,bF),(8,bo (Lib.hasPrefix (c::t) [95]))] ?_;refine CG.aD hp k_ ?_;refine s1 hW 1 1 [] 3 [(10,so (c::t))] ?_;refine CG.Qo 1 (c::t).length (s:=(c::t)) rfl k_ k_ k_ k_ (by(try simp only[zz]at*)<;>omega) rfl ?_;rotate_left;rw[hd];unfold DF at hA;rcases hv:Lib.atoiAll t with v|_|_
     ·have hr:=B6 hv;rw[LN hv];rw[hv]at hA;dsimp only at hA;refine CG.pg (hA) rfl k_ ?_;refine s1 hW 3 0 [] 3 [(3,io v),(4,.gX)] ?_;refine CG.gF bG k_ k_ ?_;refine AO.rd 7 [(15,.gX),(16,bT),(17,bT),(18,io v),(19,bo (decide (0<v))),(20,bo (decide (0<v))),(21,bo (decide (0<v)))] k_ ?_;refine R5 (0<v) (fun Al Y1=>?_ ) (fun Al Y1=>?_ );rw[Al];refine AO.rd 5 [(22,so (c::t)),(23,no (c::t).length),(24,bo (decide (Int.ofNat (c::t).length≤10))),(25,bo (decide (Int.ofNat (c::t).length≤10))),(26,bo (decide (Int.ofNat (c::t).length≤10)))] k_ ?_;refine R5 (Int.ofNat (c::t).length≤10) (fun jM Kk=>?_ ) (fun jM Kk=>?_ )<;>simp only[zz]at Kk;rw[jM];refine AO.rd 1 [(27,io v)] k_ ?_;refine AO.kL ((BX hW v) (by first|assumption|exact(by(try simp only[zz]at*)<;>omega)) (by first|assumption|exact(by(try simp only[zz]at*)<;>omega))) rfl k_ k_ ?_;refine AO.rd 1 [(29,so (c::t))] k_ ?_;refine AO.Qo 1 (c::t).length (s:=(c::t)) rfl k_ k_ k_ k_ (by(try simp only[zz]at*)<;>omega) ?_;refine AO.rd 3 [(2,bo (ae (Lib.itoa v) (List.drop 1 (List.take (c::t).length (c::t))))),(31,bo (ae (Lib.itoa v) (List.drop 1 (List.take (c::t).length (c::t))))),(32,bo (ae (Lib.itoa v) (List.drop 1 (List.take (c::t).length (c::t)))))] k_ ?_;refine AO.done [0,2] rfl rfl k_ ?_;refine s1 hW 1 0 [] 3 [] ?_;refine CG.rt (bo (ae (Lib.itoa v) (List.drop 1 (List.take (c::t).length (c::t))))) ?_;rotate_left;rw[jM];refine AO.rd 7 [(27,tE),(28,tE),(29,tE),(30,tE),(31,tE),(32,bF)] k_ ?_;refine AO.done [0,2] rfl rfl k_ ?_;refine s1 hW 1 0 [] 3 [] ?_;refine CG.rt (bF) ?_;rotate_left;rw[Al];refine AO.rd 12 [(22,tE),(23,tE),(24,tE),(25,bF),(26,bF),(27,tE),(28,tE),(29,tE),(30,tE),(31,tE),(32,bF)] k_ ?_;refine AO.done [0,2] rfl rfl k_ ?_;refine s1 hW 1 0 [] 3 [] ?_;refine CG.rt (bF) ?_;rfl;all_goals (simp only[aaS]at*)
      all_goals first
       |(rw[hd,aa9 (p:=t.length≤9) (by omega)];first|rfl|(rw[aa9 (p:=0<v) (by omega)];rfl))
       |(rw[aa5 (p:=t.length≤9) (by omega),abH];rfl)
       |(rw[aa5 (p:=0<v) (by omega)];rfl)
     ·rw[hv]at hA;dsimp only at hA;rw[DO (fun v h=>by rw[hv]at h;cases h)];refine CG.pg (hA) rfl k_ ?_;refine s2 hW 5 0 [] 3 [] (nn 19 ([])) ?_;refine CG.rt (bF) ?_;with_reducible rfl
     ·rw[hv]at hA;dsimp only at hA;rw[DO (fun v h=>by rw[hv]at h;cases h)];refine CG.pg (hA) rfl k_ ?_;refine s2 hW 5 0 [] 3 [] (nn 19 ([])) ?_;refine CG.rt (bF) ?_;with_reducible rfl
  |false=>
   rw[E' hp];refine s1 hW 7 0 [] 1 [(2,bF),(8,bo (Lib.hasPrefix s [95]))] ?_;refine CG.ay hp k_ ?_;refine s1 hW 7 0 [] 3 [(34,lo (fun b=>[D.int IntKind.u8 (Int.ofNat (UInt8.toNat b))]) s),(35,no (List.length (List.map (fun b=>[D.int IntKind.u8 (Int.ofNat (UInt8.toNat b))]) s))),(36,i0)] ?_;rotate_left;refine CG.bI s (fun i u=>[(0,so s),(2,bF),(34,lo (fun b=>[D.int IntKind.u8 (Int.ofNat (UInt8.toNat b))]) s),(35,no (List.length (List.map (fun b=>[D.int IntKind.u8 (Int.ofNat (UInt8.toNat b))]) s))),(36,.d (.int .i64 (.ofNat i)))]) (fun i u=>[]) (fun i u r=>(qY 0 s=qY i r)) () ?_ (au.refl _ _) ?_ ?_
   ·rfl
   ·intro i u hi hd aF;rw[aF];refine s1 hW 4 0 [] 23 [(37,bo (aP (Int.ofNat i) (Int.ofNat (List.length (List.map (fun b=>[D.int IntKind.u8 (Int.ofNat (UInt8.toNat b))]) s)))))] ?_;refine CG.ay (fw i (List.length (List.map (fun b=>[D.int IntKind.u8 (Int.ofNat (UInt8.toNat b))]) s))) k_ ?_;refine CG.bg (by decide) ?_;refine s1 hW 3 3 [] 3 [(62,bo (!ae s []))] ?_;refine sp (ae s []) (fun qZ=>?_ ) (fun qZ=>?_ );rw[qZ];refine s1 hW 2 0 [] 2 [] ?_;refine CG.rt (bF) ?_;rfl;rw[qZ];refine s1 hW 2 0 [] 0 [(2,bo (!aP 30 (Int.ofNat s.length)))] ?_;refine CG.rt (bo (!aP 30 (Int.ofNat s.length))) ?_;rotate_left;simp[qY]
   ·intro i u x r hd hx bS aF;rw[show qY i (x::r)=((lP x||(!Nat.beq i 0&&ck x))&&qY (i+1) r)from rfl]at aF;refine s1 hW 4 0 [] 31 [(37,bo (aP (Int.ofNat i) (Int.ofNat (List.length (List.map (fun b=>[D.int IntKind.u8 (Int.ofNat (UInt8.toNat b))]) s)))))] ?_;refine CG.aD (eC i (List.length (List.map (fun b=>[D.int IntKind.u8 (Int.ofNat (UInt8.toNat b))]) s))) k_ ?_;refine s1 hW 5 1 [] 31 [(38,no i)] ?_;refine CG.ix (ax (aa:=(fun b=>[D.int IntKind.u8 (Int.ofNat (UInt8.toNat b))])) hx) rfl k_ ?_;refine s1 hW 3 3 [] 31 [(5,no i),(6,.d (.int .u8 (.ofNat (UInt8.toNat x)))),(43,bo (aP (Int.ofNat (UInt8.toNat x)) 97))] ?_;refine dh (UInt8.toNat x) 97 (fun kE Am=>?_ ) (fun kE Am=>?_ );have jM:(aP (Int.ofNat (UInt8.toNat x)) 97)=true:=ki;rw[jM];refine s1 hW 0 7 [] 123 [(47,bT),(50,bo (a_ (Int.ofNat i) 0))] ?_;refine iX i 0 (fun ji DQ=>?_ ) (fun ji DQ=>?_ );have o8:(a_ (Int.ofNat i) 0)=true:=nP;rw[o8];refine s1 hW 6 0 [true] 59 [] ?_;refine CG.e9 (bF) ?_;rotate_left;have jN:(a_ (Int.ofNat i) 0)=false:=mr;rw[jN];refine s1 hW 0 4 [] 127 [(54,bo (aP (Int.ofNat (UInt8.toNat x)) 48))] ?_;refine dh (UInt8.toNat x) 48 (fun sq Kl=>?_ ) (fun sq Kl=>?_ );have nR:(aP (Int.ofNat (UInt8.toNat x)) 48)=true:=ki;rw[nR];refine s1 hW 6 0 [true] 59 [] ?_;refine CG.e9 (bF) ?_;rotate_left;have vg:(aP (Int.ofNat (UInt8.toNat x)) 48)=false:=lZ;rw[vg];refine s1 hW 2 0 [] 59 [(58,bo (aP 57 (Int.ofNat (UInt8.toNat x))))] ?_;refine dh 57 (UInt8.toNat x) (fun An p25=>?_ ) (fun An p25=>?_ );refine CG.aD (show(aP 57 (Int.ofNat (UInt8.toNat x)))=true from ki) k_ ?_;refine s1 hW 3 0 [] 31 [] ?_;refine CG.e9 (bF) ?_;rotate_left;refine CG.ay (show(aP 57 (Int.ofNat (UInt8.toNat x)))=false from lZ) k_ ?_;refine s3 hW 3 2 [] [(0,so s),(2,bF),(34,lo (fun b=>[D.int IntKind.u8 (Int.ofNat (UInt8.toNat b))]) s),(35,no (List.length (List.map (fun b=>[D.int IntKind.u8 (Int.ofNat (UInt8.toNat b))]) s))),(36,io (aO IntKind.i64 (bl (Int.ofNat i) 1)))] ([]) ?_;refine CG.bM rfl ?_;rw[a6 (by omega)];rotate_left;have LO:(aP (Int.ofNat (UInt8.toNat x)) 97)=false:=lZ;rw[LO];refine s1 hW 0 4 [] 127 [(47,bo (aP 122 (Int.ofNat (UInt8.toNat x))))] ?_;refine dh 122 (UInt8.toNat x) (fun LP p28=>?_ ) (fun LP p28=>?_ );have B7:(aP 122 (Int.ofNat (UInt8.toNat x)))=true:=ki;rw[B7];refine s1 hW 0 3 [] 251 [(50,bo (a_ (Int.ofNat i) 0))] ?_;refine iX i 0 (fun LR p31=>?_ ) (fun LR p31=>?_ );have IQ:(a_ (Int.ofNat i) 0)=true:=nP;rw[IQ];refine s1 hW 6 0 [true] 59 [] ?_;refine CG.e9 (bF) ?_;rotate_left;have E_:(a_ (Int.ofNat i) 0)=false:=mr;rw[E_];refine s1 hW 0 4 [] 127 [(54,bo (aP (Int.ofNat (UInt8.toNat x)) 48))] ?_;have xT:(aP (Int.ofNat (UInt8.toNat x)) 48)=false:=lZ;rw[xT];refine s1 hW 2 0 [] 59 [(58,bo (aP 57 (Int.ofNat (UInt8.toNat x))))] ?_;refine CG.aD (show(aP 57 (Int.ofNat (UInt8.toNat x)))=true from ki) k_ ?_;refine s1 hW 3 0 [] 31 [] ?_;refine CG.e9 (bF) ?_;rotate_left;have IS:(aP 122 (Int.ofNat (UInt8.toNat x)))=false:=lZ;rw[IS];refine s3 hW 6 2 [false] [(0,so s),(2,bF),(34,lo (fun b=>[D.int IntKind.u8 (Int.ofNat (UInt8.toNat b))]) s),(35,no (List.length (List.map (fun b=>[D.int IntKind.u8 (Int.ofNat (UInt8.toNat b))]) s))),(36,io (aO IntKind.i64 (bl (Int.ofNat i) 1)))] ([]) ?_;refine CG.bM rfl ?_;rw[a6 (by omega)];rotate_left;all_goals first
     |exact⟨(),by rw[aF,show lP x=true from by simp only[lP,aaN];omega];rfl,au.refl _ _⟩
     |exact⟨(),by rw[aF,show lP x=false from by simp only[lP,abx];omega,show Nat.beq i 0=false from cG (by omega),show ck x=true from by simp only[ck,aaN];omega];rfl,au.refl _ _⟩
     |(rw[aF,show lP x=false from by simp only[lP,abx];omega,show Nat.beq i 0=true from by rw[show i=0 by omega];rfl];simp;done)
     |(rw[aF,show lP x=false from by simp only[lP,abx];omega,show ck x=false from by simp only[ck,abx];omega];simp;done)
theorem iC(hW:W0 W)(s:List UInt8)(hs:s.length<1099511627776):PC P (gl W) 115 [.d (.str s)] (.d (.bool (bj s))):=nb hW s (by omega)
end Fw.Tz.Na
/-
  Names of element types, of the program and of the reference; digits cut off.
-/
namespace Fw.Tz.El
open Go Go.Proofs Fw.X Fw.Tz Fw.Nu Fw.Tz.Sd Fw.Tz.Na
variable {W:World}
theorem B8(x:List UInt8):x=[]∨∃t c,x=t++[c]:=by
 rcases List.eq_nil_or_concat x with h|⟨t,c,h⟩
 ·exact .inl h
 ·exact .inr ⟨t,c,by rw[h,List.concat_eq_append]⟩
theorem gK(hW:W0 W)(s:List UInt8)(hs:s.length<1099511627776):PC P (gl W) 138 [.d (.str s)] (.d (.bool (cQ s))):=by
 refine CG.start Tp Tq rfl ?_;cases s with
  |nil=>refine s1 hW 22 0 [false] 0 [(2,bF)] ?_;refine CG.rt (bF) ?_;rfl
  |cons c t=>
   simp only[aaS]at hs;refine s1 hW 8 0 [] 1 [(2,bF),(3,io 1)] ?_;rotate_left;refine CG.bI t (fun i u=>[(0,so (c::t)),(2,bF),(3,.d (.int .i64 (.ofNat (i+1))))]) (fun i u=>[]) (fun i u r=>(t.all ck=r.all ck)) () ?_ (au.refl _ _) ?_ ?_
   ·rfl
   ·intro i u hi hd aF;refine s1 hW 4 0 [] 7 [(7,bo (aP (Int.ofNat (i+1)) (Int.ofNat (c::t).length)))] ?_;refine CG.ay (fw (i+1) (c::t).length) k_ ?_;refine CG.bg (by decide) ?_;refine s1 hW 3 9 [] 3 [(28,bo (!aP 30 (Int.ofNat (c::t).length)))] ?_;refine dh 30 (c::t).length (fun sn QN=>?_ ) (fun sn QN=>?_ )<;>simp only[zz]at QN;have q0:(aP 30 (Int.ofNat (c::t).length))=true:=ki;rw[q0];refine s1 hW 2 0 [] 2 [] ?_;refine CG.rt (bF) ?_;rotate_left;have Al:(aP 30 (Int.ofNat (c::t).length))=false:=lZ;rw[Al];refine s1 hW 0 5 [] 3 [(33,bo (!aP (Int.ofNat (UInt8.toNat c)) 65))] ?_;refine dh (UInt8.toNat c) 65 (fun jM Kk=>?_ ) (fun jM Kk=>?_ );have kF:(aP (Int.ofNat (UInt8.toNat c)) 65)=true:=ki;rw[kF];refine s1 hW 2 0 [] 2 [] ?_;refine CG.rt (bF) ?_;rotate_left;have ji:(aP (Int.ofNat (UInt8.toNat c)) 65)=false:=lZ;rw[ji];refine s1 hW 2 0 [] 0 [(2,bo (!aP 90 (Int.ofNat (UInt8.toNat c))))] ?_;refine CG.rt (bo (!aP 90 (Int.ofNat (UInt8.toNat c)))) ?_;rotate_left;all_goals
     simp only[V.d.injEq,D.bool.injEq,cQ,aF,adH,acU];simp only[aaS]at*;first
      |(rw[aa5 (by omega),abi];done)
      |(rw[show decide (65≤c.toNat∧c.toNat≤90)=false from aa5 (by omega),abH];done)
      |(rw[fv,aa_];simp;omega)
   ·intro i u x r hd hx bS aF;have g_:(c::t)[i+1]? =some x:=by simpa using hx
    rw[aa4]at aF;refine s1 hW 4 0 [] 7 [(7,bo (aP (Int.ofNat (i+1)) (Int.ofNat (c::t).length)))] ?_;refine CG.aD (eC (i+1) (c::t).length) k_ ?_;refine s1 hW 5 2 [] 7 [(10,so (c::t)),(11,no (i+1))] ?_;refine CG.Qv g_ rfl k_ ?_;refine s1 hW 0 2 [] 7 [(14,bo (aP (Int.ofNat (UInt8.toNat x)) 48))] ?_;refine dh (UInt8.toNat x) 48 (fun jM Kk=>?_ ) (fun jM Kk=>?_ );have kF:(aP (Int.ofNat (UInt8.toNat x)) 48)=true:=ki;rw[kF];refine s1 hW 6 0 [true] 7 [] ?_;refine CG.e9 (bF) ?_;rotate_left;have ji:(aP (Int.ofNat (UInt8.toNat x)) 48)=false:=lZ;rw[ji];refine s1 hW 0 2 [] 15 [(15,so (c::t)),(16,no (i+1))] ?_;refine CG.Qv g_ rfl k_ ?_;refine s1 hW 2 0 [] 7 [(19,bo (aP 57 (Int.ofNat (UInt8.toNat x))))] ?_;refine dh 57 (UInt8.toNat x) (fun o8 Pj=>?_ ) (fun o8 Pj=>?_ );refine CG.aD (show(aP 57 (Int.ofNat (UInt8.toNat x)))=true from ki) k_ ?_;refine s1 hW 3 0 [] 7 [] ?_;refine CG.e9 (bF) ?_;rotate_left;refine CG.ay (show(aP 57 (Int.ofNat (UInt8.toNat x)))=false from lZ) k_ ?_;refine s3 hW 3 3 [] [(0,so (c::t)),(2,bF),(3,io (aO IntKind.i64 (bl (Int.ofNat (i+1)) 1)))] ([]) ?_;refine CG.bM rfl ?_;rw[a6 (by omega)];rotate_left;all_goals first
     |(rw[cQ,aF,show ck x=false from by simp only[ck,abx];omega];simp;done)
     |(rw[a6 (by omega) (by omega)];exact⟨(),by rw[aF,show ck x=true from by simp only[ck,aaN];omega];rfl,au.refl _ _⟩)
     |exact⟨(),by rw[aF,show ck x=true from by simp only[ck,aaN];omega];rfl,au.refl _ _⟩
def LS(n:Nat):Bool:=Nat.ble 48 n&&Nat.ble n 57
def uv:eG:=.cells ((List.range 256).map fun n=>.d (.bool (LS n)))
def hD:ai:=[some uv]
theorem Y2(W:World):((List.range 256).map fun n=>pT W uW .e 40 282 [.ptr 0 256 0,.d (.int .u8 (.ofNat n))] hD)=((List.range 256).map fun n=>some (.d (.bool (LS n)),hD)):=k_
theorem LU(b:UInt8):LS b.toNat=ck b:=by unfold LS ck;rw[aa_];simp[ab8]
theorem IT(hW:W0 W)(b:UInt8):WF P (gl W) 282 [.ptr 0 256 0,.d (.int .u8 b.toNat)] hD (iR (.d (.bool (ck b))) hD):=by have h:=adh (fun l=>l[b.toNat]? ) (Y2 W);have hb:b.toNat<256:=UInt8.toNat_lt b;simp only[abf,List.getElem?_range hb,aaV,aaC]at h;rw[LU]at h;exact eT hW rU 40 _ _ _ _ _ h
theorem IU(hW:W0 W)(s:List UInt8)(hs:s.length<1099511627776):WF P (gl W) 241 [.d (.str s),.ptr 0 256 0] hD (iR (.d (.str (ma s))) hD):=by
 refine CG.gD Ud Ue rfl ?_;refine s1 hW 5 0 [] 3 [(4,sE)] ?_;rotate_left;refine CG.H4 (α:=List UInt8) (fun x=>[(0,.d (.str x)),(1,.ptr 0 256 0),(4,.d (.str []))]) (fun _=>[some uv]) (fun x=>ma s=ma x∧x.length<1099511627776) List.length s ⟨rfl,hs⟩ (au.refl _ _) ?_;rintro x ⟨hx,yv⟩;cases x with
  |nil=>refine s1 hW 5 0 [false] 7 [] ?_;refine CG.bg (by decide) ?_;refine s1 hW 5 0 [] 4 [] ?_;refine CG.uU (sE) ?_;rotate_left;exact⟨by rw[hx];rfl,rfl⟩
  |cons c t=>
   refine s1 hW 10 3 [true] 7 [(8,.ptr 0 256 0),(10,.d (.int .u8 (.ofNat (UInt8.toNat c))))] ?_;refine CG.wf (IT hW c) rfl rfl k_ rfl ?_;refine s1 hW 2 0 [] 7 [(12,bo (!ck c))] ?_;refine sp (ck c) (fun q9=>?_ ) (fun q9=>?_ );refine CG.ay (b:=(!ck c)) (by rw[q9];rfl) k_ ?_;refine s1 hW 2 1 [] 7 [(13,so (c::t))] ?_;refine CG.R3 ?_;refine CG.Qo 1 (c::t).length (s:=(c::t)) rfl k_ k_ k_ k_ (by(try simp only[zz]at*)<;>omega) rfl ?_;refine s3 hW 0 1 [] [(0,so (List.drop 1 (List.take (c::t).length (c::t)))),(1,.ptr 0 256 0),(4,sE)] ([some uv]) ?_;refine CG.bM rfl ?_;rotate_left;refine CG.aD (b:=(!ck c)) (by rw[q9];rfl) k_ ?_;refine CG.bg (by decide) ?_;refine s1 hW 5 0 [] 0 [(4,so (c::t))] ?_;refine CG.uU (so (c::t)) ?_;rotate_left
   ·rw[show List.drop 1 (List.take (c::t).length (c::t))=t from by rw[ab9];rfl];exact⟨t,⟨by rw[hx,ma,ab6,show ck c=true by assumption];rfl,by simp only[aaS]at yv;omega⟩,by simp,au.refl _ _⟩
   ·exact⟨by rw[hx,ma,ab6,show ck c=false by assumption];rfl,rfl⟩
theorem IV(hW:W0 W)(s:List UInt8)(hs:s.length<1099511627776):WF P (gl W) 242 [.d (.str s),.ptr 0 256 0] hD (iR (.d (.str (iM s))) hD):=by
 refine CG.gD Uf Ug rfl ?_;refine s1 hW 5 0 [] 3 [(4,sE)] ?_;rotate_left;refine CG.H4 (α:=List UInt8) (fun x=>[(0,.d (.str x)),(1,.ptr 0 256 0),(4,.d (.str []))]) (fun _=>[some uv]) (fun x=>iM s=iM x∧x.length<1099511627776) List.length s ⟨rfl,hs⟩ (au.refl _ _) ?_;rintro x ⟨hx,yv⟩;rcases B8 x with rfl|⟨t,c,rfl⟩
 ·refine s1 hW 5 0 [false] 7 [] ?_;refine CG.bg (by decide) ?_;refine s1 hW 5 0 [] 4 [] ?_;refine CG.uU (sE) ?_;rotate_left;exact⟨by rw[hx];rfl,rfl⟩
 ·have hl:(t++[c]).length=t.length+1:=by simp
  have hc:(t++[c])[t.length]? =some c:=by simp
  refine s1 hW 4 0 [] 7 [(7,bo (aP 0 (Int.ofNat (t++[c]).length)))] ?_;refine CG.aD (show(aP 0 (Int.ofNat (t++[c]).length))=true from ki) k_ ?_;refine s1 hW 5 5 [] 7 [(8,.ptr 0 256 0),(9,so (t++[c])),(12,io (aO IntKind.i64 (Int.ofNat (t++[c]).length - 1)))] ?_;rotate_left;rw[hl,zC (by omega)];refine CG.Qv hc rfl k_ ?_;refine CG.wf (IT hW c) rfl rfl k_ rfl ?_;refine s1 hW 2 0 [] 7 [(15,bo (!ck c))] ?_;refine sp (ck c) (fun qZ=>?_ ) (fun qZ=>?_ );refine CG.ay (b:=(!ck c)) (by rw[qZ];rfl) k_ ?_;refine s1 hW 2 4 [] 7 [(16,so (t++[c])),(19,io (aO IntKind.i64 (Int.ofNat (t++[c]).length - 1)))] ?_;refine CG.R3 ?_;rotate_left;refine CG.aD (b:=(!ck c)) (by rw[qZ];rfl) k_ ?_;refine CG.bg (by decide) ?_;refine s1 hW 5 0 [] 0 [(4,so (t++[c]))] ?_;refine CG.uU (so (t++[c])) ?_;rotate_left
  ·rw[hl,zC (by omega)];refine CG.Qo 0 t.length (s:=(t++[c])) rfl k_ k_ k_ k_ (by(try simp only[zz]at*)<;>omega) rfl ?_;refine s3 hW 0 1 [] [(0,so (List.drop 0 (List.take t.length (t++[c])))),(1,.ptr 0 256 0),(4,sE)] ([some uv]) ?_;refine CG.bM rfl ?_;rotate_left;rw[show List.drop 0 (List.take t.length (t++[c]))=t by simp];exact⟨t,⟨by rw[hx,ur,show ck c=true by assumption];rfl,by omega⟩,by omega,au.refl _ _⟩
  ·exact⟨by rw[hx,ur,show ck c=false by assumption];rfl,rfl⟩
theorem wq{p:UInt8→Bool}:∀(l:List UInt8),(l.dropWhile p).length≤l.length
 |[]=>aaQ _
 |a::l=>by
  rw[ab6];split
  ·exact aby (wq l) (Nat.le_succ _)
  ·exact aaQ _
theorem Fa(s:List UInt8):(iM s).length≤s.length:=by unfold iM;rw[List.length_reverse];exact aby (wq _) (by rw[List.length_reverse];exact aaQ _)
theorem Ao(l:List UInt8):Fw.ae l []=decide (l=[]):=by cases l<;>rfl
theorem LV(hW:W0 W)(s:List UInt8)(hs:s.length<1099511627776):PC P (gl W) 171 [.d (.str s),.d (.str [48,49,50,51,52,53,54,55,56,57])] (.d (.str (ma (iM s)))):=by
 have hl:=Fa s;have hr:(iM s).length<1099511627776:=by omega
 refine CG.start TN TO rfl ?_;cases s with
  |nil=>refine s1 hW 11 0 [true] 3 [(4,sE)] ?_;refine CG.rt (sE) ?_;rfl
  |cons c t=>refine s4 hW 26 1 [false,false,true] 3 [(4,sE),(5,.ptr 0 256 0),(35,so (c::t))] [(0,.cells [bF,bF,bF,bF,bF,bF,bF,bF,bF,bF,bF,bF,bF,bF,bF,bF,bF,bF,bF,bF,bF,bF,bF,bF,bF,bF,bF,bF,bF,bF,bF,bF,bF,bF,bF,bF,bF,bF,bF,bF,bF,bF,bF,bF,bF,bF,bF,bF,bT,bT,bT,bT,bT,bT,bT,bT,bT,bT,bF,bF,bF,bF,bF,bF,bF,bF,bF,bF,bF,bF,bF,bF,bF,bF,bF,bF,bF,bF,bF,bF,bF,bF,bF,bF,bF,bF,bF,bF,bF,bF,bF,bF,bF,bF,bF,bF,bF,bF,bF,bF,bF,bF,bF,bF,bF,bF,bF,bF,bF,bF,bF,bF,bF,bF,bF,bF,bF,bF,bF,bF,bF,bF,bF,bF,bF,bF,bF,bF,bF,bF,bF,bF,bF,bF,bF,bF,bF,bF,bF,bF,bF,bF,bF,bF,bF,bF,bF,bF,bF,bF,bF,bF,bF,bF,bF,bF,bF,bF,bF,bF,bF,bF,bF,bF,bF,bF,bF,bF,bF,bF,bF,bF,bF,bF,bF,bF,bF,bF,bF,bF,bF,bF,bF,bF,bF,bF,bF,bF,bF,bF,bF,bF,bF,bF,bF,bF,bF,bF,bF,bF,bF,bF,bF,bF,bF,bF,bF,bF,bF,bF,bF,bF,bF,bF,bF,bF,bF,bF,bF,bF,bF,bF,bF,bF,bF,bF,bF,bF,bF,bF,bF,bF,bF,bF,bF,bF,bF,bF,bF,bF,bF,bF,bF,bF,bF,bF,bF,bF,bF,bF,bF,bF,bF,bF,bF,bF])] ?_;refine CG.wf (IV hW (c::t) hs) rfl rfl k_ rfl ?_;refine CG.wf (IU hW (iM (c::t)) hr) rfl rfl k_ rfl ?_;refine s1 hW 2 0 [] 3 [(4,so (ma (iM (c::t))))] ?_;refine CG.rt (so (ma (iM (c::t)))) ?_;with_reducible rfl
theorem eD(hW:W0 W)(s:List UInt8)(hs:s.length<1099511627776):PC P (gl W) 111 [.d (.str s)] (.d (.bool (cQ s))):=by
 refine CG.start S9 S' rfl ?_;cases s with
  |nil=>refine s1 hW 11 0 [true] 1 [(2,bF)] ?_;refine CG.rt (bF) ?_;rfl
  |cons c t=>
   have ht:t.length<1099511627776:=by simp only[aaS]at hs;omega
   refine s1 hW 5 9 [] 1 [(2,bF),(11,bo (aP 30 (Int.ofNat (c::t).length)))] ?_;refine dh 30 (c::t).length (fun q8 p8=>?_ ) (fun q8 p8=>?_ )<;>simp only[zz]at p8;have q9:(aP 30 (Int.ofNat (c::t).length))=true:=ki;rw[q9];refine s1 hW 6 0 [true] 3 [] ?_;refine CG.rt (bF) ?_;rotate_left;have sk:(aP 30 (Int.ofNat (c::t).length))=false:=lZ;rw[sk];refine s1 hW 0 5 [] 3 [(16,bo (aP (Int.ofNat (UInt8.toNat c)) 65))] ?_;refine dh (UInt8.toNat c) 65 (fun sn QN=>?_ ) (fun sn QN=>?_ );have q0:(aP (Int.ofNat (UInt8.toNat c)) 65)=true:=ki;rw[q0];refine s1 hW 6 0 [true] 3 [] ?_;refine CG.rt (bF) ?_;rotate_left;have Al:(aP (Int.ofNat (UInt8.toNat c)) 65)=false:=lZ;rw[Al];refine s1 hW 2 0 [] 3 [(20,bo (aP 90 (Int.ofNat (UInt8.toNat c))))] ?_;refine dh 90 (UInt8.toNat c) (fun kE Am=>?_ ) (fun kE Am=>?_ );refine CG.aD (show(aP 90 (Int.ofNat (UInt8.toNat c)))=true from ki) k_ ?_;refine s1 hW 3 0 [] 3 [] ?_;refine CG.rt (bF) ?_;rotate_left;refine CG.ay (show(aP 90 (Int.ofNat (UInt8.toNat c)))=false from lZ) k_ ?_;refine s1 hW 3 1 [] 2 [(21,so (c::t))] ?_;refine CG.Qo 1 (c::t).length (s:=(c::t)) rfl k_ k_ k_ k_ (by(try simp only[zz]at*)<;>omega) rfl ?_;rotate_left
   ·rw[cQ,aa5 (by simp only[aaS]at*;omega)];rfl
   ·rw[cQ,show decide (65≤c.toNat∧c.toNat≤90)=false from aa5 (by omega),abH];rfl
   ·rw[cQ,show decide (65≤c.toNat∧c.toNat≤90)=false from aa5 (by omega),abH];rfl
   ·rw[show List.drop 1 (List.take (c::t).length (c::t))=t from by rw[ab9];rfl];refine CG.pg (LV hW _ ht) rfl k_ ?_;refine s1 hW 2 0 [] 0 [(2,bo (ae (ma (iM t)) []))] ?_;refine CG.rt (bo (ae (ma (iM t)) [])) ?_;rotate_left;rw[cQ,aa9 (by simp only[aaS]at*;omega),aa9 (by omega),Ao,aa2,aa2,V.d.injEq,D.bool.injEq,aa_,aaN];exact IN t
end Fw.Tz.El
/-
  Expressions, shapes and types that are valid; what the program and the reference say of any.
-/
namespace Fw.Tz.Va
open Go Go.Proofs Fw.X Fw.Tz Fw.Nu Fw.Tz.Sd Fw.Tz.Na
variable {W:World}
structure Cf where
 var:List UInt8
 c:Int
def Cf.aa(x:Cf):List D:=[.str x.var,.int .i64 x.c]
structure aj where
 c:Int
 ts:List Cf
def aj.aa(x:aj):List D:=[.int .i64 x.c,.list (x.ts.map Cf.aa)]
structure Ty where
 elem:List UInt8
 row:List UInt8
 ah:List aj
def Ty.aa(x:Ty):List D:=[.str x.elem,.str x.row,.list (x.ah.map aj.aa)]
@[simp,reducible] def aj.ce(x:aj):List V:=[Fw.io x.c,Fw.lo Cf.aa x.ts]
@[simp,reducible] def Ty.ce(x:Ty):List V:=[Fw.so x.elem,Fw.so x.row,Fw.lo aj.aa x.ah]
def gW:Option (List UInt8)→List UInt8→Bool|none,_=>true|some q,v=>Fw.bytesLess q v
def cU:Option (List UInt8)→List Cf→Bool|_,[]=>true|p,t::r=>bj t.var&& !(t.c==0)&&a8 t.c&&gW p t.var&&cU (some t.var) r
def bc(c:Int)(ts:List Cf):Bool:=a8 c&&decide (ts.length≤12)&&cU none ts
def aj.ok(x:aj):Bool:=bc x.c x.ts
theorem dd(hW:W0 W)(c:Int)(ts:List Cf)(hl:ts.length<1099511627776):PC P (gl W) 97 [.agg [.d (.int .i64 c),.d (.list (ts.map Cf.aa))]] (.d (.bool (bc c ts))):=by
 refine CG.start SX SY rfl ?_;refine s4 hW 5 2 [] 0 [(1,.ptr 0 2 0),(2,bF),(6,io c)] [(0,.cells [io c,lo Cf.aa ts])] ?_;refine CG.pg (fj hW c) rfl k_ ?_;refine s1 hW 0 2 [] 3 [(9,bo (!a8 c))] ?_;refine sp (a8 c) (fun q6=>?_ ) (fun q6=>?_ );rw[q6];refine s1 hW 2 0 [] 3 [(14,bo (aP 12 (Int.ofNat (ts.map Cf.aa).length)))] ?_;refine dh 12 (ts.map Cf.aa).length (fun q7 p7=>?_ ) (fun q7 p7=>?_ )<;>simp only[zz]at p7;refine CG.aD (show(aP 12 (Int.ofNat (ts.map Cf.aa).length))=true from ki) k_ ?_;refine s1 hW 3 0 [] 3 [] ?_;refine CG.rt (bF) ?_;rotate_left;refine CG.ay (show(aP 12 (Int.ofNat (ts.map Cf.aa).length))=false from lZ) k_ ?_;refine s1 hW 7 0 [] 3 [(3,i0)] ?_;rotate_left;rw[q6];refine s1 hW 6 0 [true] 3 [] ?_;refine CG.rt (bF) ?_;rotate_left
 ·rw[bc,aa5 (by omega),abH,abi]
 ·skip;refine CG.bI ts (fun i a=>[(1,.ptr 0 2 0),(2,bF),(3,.d (.int .i64 (.ofNat i)))]) (fun i a=>[some (.cells [io c,lo Cf.aa ts])]) (fun i a r=>(cU none ts=cU a r∧(i=0→a=none)∧∀k,i=k+1→∃y,ts[k]? =some y∧a=some y.var)) none ?_ (au.refl _ _) ?_ ?_
  ·exact⟨rfl,fun _=>rfl,fun k hk=>by omega⟩
  ·intro i a hi hd aF;obtain⟨hv,-,-⟩:=aF;refine s1 hW 4 0 [] 7 [(19,bo (aP (Int.ofNat i) (Int.ofNat (ts.map Cf.aa).length)))] ?_;refine CG.ay (fw i (ts.map Cf.aa).length) k_ ?_;refine CG.bg (by decide) ?_;refine s1 hW 5 0 [] 0 [(2,bT)] ?_;refine CG.rt (bT) ?_;rotate_left;rw[bc,hv,aa9 (by omega)];simp[cU, *]
  ·intro i a x r hd hx bS aF;obtain⟨hv,h0,h1⟩:=aF;rw[cU]at hv;cases i with
    |zero=>cases h0 rfl;refine s1 hW 4 0 [] 7 [(19,bo (aP 0 (Int.ofNat (ts.map Cf.aa).length)))] ?_;refine CG.aD (show(aP 0 (Int.ofNat (ts.map Cf.aa).length))=true from ki) k_ ?_;refine s1 hW 5 3 [] 7 [(23,lo Cf.aa ts),(24,i0)] ?_;refine CG.ix (ax (aa:=Cf.aa) hx) rfl k_ ?_;refine s4 hW 3 0 [] 7 [(4,.ptr 1 2 0)] [(1,.cells [so x.var,io x.c])] ?_;refine CG.gF bG k_ k_ ?_;refine AO.rd 2 [(27,.ptr 1 2 0),(28,so x.var)] k_ ?_;refine AO.kL (di hW x.var) rfl k_ k_ ?_;refine AO.rd 2 [(30,bo (!bj x.var)),(31,bo (!bj x.var))] k_ ?_;refine sp (bj x.var) (fun kF=>?_ ) (fun kF=>?_ );rw[kF];refine AO.rd 5 [(32,.ptr 1 2 1),(33,io x.c),(34,bo (Cf.c x==0)),(35,bo (Cf.c x==0)),(36,bo (Cf.c x==0))] k_ ?_;refine va x.c 0 (fun o8 Pj=>?_ ) (fun o8 Pj=>?_ );rw[o8];refine AO.rd 21 [(37,tE),(38,tE),(39,tE),(40,tE),(41,bT),(42,bT),(43,tE),(44,tE),(45,tE),(46,tE),(47,tE),(48,tE),(49,tE),(50,tE),(51,tE),(52,tE),(53,tE),(54,tE),(55,tE),(56,tE),(57,bT)] k_ ?_;refine AO.done [1,2,3,57] rfl rfl k_ ?_;refine s1 hW 5 0 [true] 7 [] ?_;refine CG.e9 (bF) ?_;rotate_left;rw[o8];refine AO.rd 2 [(37,.ptr 1 2 1),(38,io x.c)] k_ ?_;refine AO.kL (fj hW x.c) rfl k_ k_ ?_;refine AO.rd 3 [(40,bo (!a8 x.c)),(41,bo (!a8 x.c)),(42,bo (!a8 x.c))] k_ ?_;refine sp (a8 x.c) (fun jN=>?_ ) (fun jN=>?_ );rw[jN];refine AO.rd 15 [(43,i0),(44,bF),(45,bF),(46,tE),(47,tE),(48,tE),(49,tE),(50,tE),(51,tE),(52,tE),(53,tE),(54,tE),(55,tE),(56,bF),(57,bF)] k_ ?_;refine AO.done [1,2,3,57] rfl rfl k_ ?_;refine s3 hW 5 3 [false] [(1,.ptr 0 2 0),(2,bF),(3,io 1)] ([some (.cells [io c,lo Cf.aa ts]),some (.cells [so x.var,io x.c])]) ?_;refine CG.bM rfl ?_;rotate_left;rw[jN];refine AO.rd 15 [(43,tE),(44,tE),(45,tE),(46,tE),(47,tE),(48,tE),(49,tE),(50,tE),(51,tE),(52,tE),(53,tE),(54,tE),(55,tE),(56,tE),(57,bT)] k_ ?_;refine AO.done [1,2,3,57] rfl rfl k_ ?_;refine s1 hW 5 0 [true] 7 [] ?_;refine CG.e9 (bF) ?_;rotate_left;rw[kF];refine AO.rd 26 [(32,tE),(33,tE),(34,tE),(35,bT),(36,bT),(37,tE),(38,tE),(39,tE),(40,tE),(41,bT),(42,bT),(43,tE),(44,tE),(45,tE),(46,tE),(47,tE),(48,tE),(49,tE),(50,tE),(51,tE),(52,tE),(53,tE),(54,tE),(55,tE),(56,tE),(57,bT)] k_ ?_;refine AO.done [1,2,3,57] rfl rfl k_ ?_;refine s1 hW 5 0 [true] 7 [] ?_;refine CG.e9 (bF) ?_;rotate_left;all_goals first|(simp only[bc,hv,gW];simp[*];done)|(refine⟨some x.var,⟨by rw[hv];simp[gW, *],fun h=>by omega,fun k hk=>⟨x,by rw[show k=0 by omega];exact hx,rfl⟩⟩,au.trim 1 [1,2,3] rfl rfl rfl rfl rfl⟩;done)
    |succ k=>obtain⟨y,hy,rfl⟩:=h1 k rfl;refine s1 hW 4 0 [] 7 [(19,bo (aP (Int.ofNat (k+1)) (Int.ofNat (ts.map Cf.aa).length)))] ?_;refine CG.aD (eC (k+1) (ts.map Cf.aa).length) k_ ?_;refine s1 hW 5 3 [] 7 [(23,lo Cf.aa ts),(24,no (k+1))] ?_;refine CG.ix (ax (aa:=Cf.aa) hx) rfl k_ ?_;refine s4 hW 3 0 [] 7 [(4,.ptr 1 2 0)] [(1,.cells [so x.var,io x.c])] ?_;refine CG.gF bG k_ k_ ?_;refine AO.rd 2 [(27,.ptr 1 2 0),(28,so x.var)] k_ ?_;refine AO.kL (di hW x.var) rfl k_ k_ ?_;refine AO.rd 2 [(30,bo (!bj x.var)),(31,bo (!bj x.var))] k_ ?_;refine sp (bj x.var) (fun jN=>?_ ) (fun jN=>?_ );rw[jN];refine AO.rd 5 [(32,.ptr 1 2 1),(33,io x.c),(34,bo (Cf.c x==0)),(35,bo (Cf.c x==0)),(36,bo (Cf.c x==0))] k_ ?_;refine va x.c 0 (fun sq Kl=>?_ ) (fun sq Kl=>?_ );rw[sq];refine AO.rd 21 [(37,tE),(38,tE),(39,tE),(40,tE),(41,bT),(42,bT),(43,tE),(44,tE),(45,tE),(46,tE),(47,tE),(48,tE),(49,tE),(50,tE),(51,tE),(52,tE),(53,tE),(54,tE),(55,tE),(56,tE),(57,bT)] k_ ?_;refine AO.done [1,2,3,57] rfl rfl k_ ?_;refine s1 hW 5 0 [true] 7 [] ?_;refine CG.e9 (bF) ?_;rotate_left;rw[sq];refine AO.rd 2 [(37,.ptr 1 2 1),(38,io x.c)] k_ ?_;refine AO.kL (fj hW x.c) rfl k_ k_ ?_;refine AO.rd 3 [(40,bo (!a8 x.c)),(41,bo (!a8 x.c)),(42,bo (!a8 x.c))] k_ ?_;refine sp (a8 x.c) (fun nR=>?_ ) (fun nR=>?_ );rw[nR];refine AO.rd 3 [(43,no (k+1)),(44,bo (decide (0<Int.ofNat (k+1)))),(45,bo (decide (0<Int.ofNat (k+1))))] k_ ?_;have vg:(decide (0<Int.ofNat (k+1)))=true:=aa9 (by(try simp only[zz]at*)<;>omega);rw[vg];refine AO.rd 4 [(46,.ptr 0 2 1),(47,lo Cf.aa ts),(48,no (k+1)),(49,io (IntKind.wrap IntKind.i64 (Int.ofNat (k+1) - 1)))] k_ ?_;rw[nG (by omega)];refine AO.idx (ax (aa:=Cf.aa) hy) rfl k_ k_ k_ rfl ?_;refine AO.rd 7 [(51,.ct [.str y.var]),(52,so y.var),(53,.ptr 1 2 0),(54,so x.var),(55,bo (!bytesLess y.var x.var)),(56,bo (!bytesLess y.var x.var)),(57,bo (!bytesLess y.var x.var))] k_ ?_;refine AO.done [1,2,3,57] rfl rfl k_ ?_;refine s1 hW 1 0 [] 15 [] ?_;refine sp (bytesLess y.var x.var) (fun An=>?_ ) (fun An=>?_ );refine CG.ay (b:=(!bytesLess y.var x.var)) (by rw[An];rfl) k_ ?_;refine s3 hW 3 3 [] [(1,.ptr 0 2 0),(2,bF),(3,io (aO IntKind.i64 (bl (Int.ofNat (k+1)) 1)))] ([some (.cells [io c,lo Cf.aa ts]),some (.cells [so x.var,io x.c])]) ?_;refine CG.bM rfl ?_;rw[a6 (by omega)];rotate_left;refine CG.aD (b:=(!bytesLess y.var x.var)) (by rw[An];rfl) k_ ?_;refine s1 hW 3 0 [] 7 [] ?_;refine CG.e9 (bF) ?_;rotate_left;rw[nR];refine AO.rd 15 [(43,tE),(44,tE),(45,tE),(46,tE),(47,tE),(48,tE),(49,tE),(50,tE),(51,tE),(52,tE),(53,tE),(54,tE),(55,tE),(56,tE),(57,bT)] k_ ?_;refine AO.done [1,2,3,57] rfl rfl k_ ?_;refine s1 hW 5 0 [true] 7 [] ?_;refine CG.e9 (bF) ?_;rotate_left;rw[jN];refine AO.rd 26 [(32,tE),(33,tE),(34,tE),(35,bT),(36,bT),(37,tE),(38,tE),(39,tE),(40,tE),(41,bT),(42,bT),(43,tE),(44,tE),(45,tE),(46,tE),(47,tE),(48,tE),(49,tE),(50,tE),(51,tE),(52,tE),(53,tE),(54,tE),(55,tE),(56,tE),(57,bT)] k_ ?_;refine AO.done [1,2,3,57] rfl rfl k_ ?_;refine s1 hW 5 0 [true] 7 [] ?_;refine CG.e9 (bF) ?_;rotate_left;all_goals first|(simp only[bc,hv,gW];simp[*];done)|(refine⟨some x.var,⟨by rw[hv];simp[gW, *],fun h=>by omega,fun k2 hk=>⟨x,by rw[show k2=k+1 by omega];exact hx,rfl⟩⟩,au.trim 1 [1,2,3] rfl rfl rfl rfl rfl⟩;done)
 ·rw[bc,show a8 c=false by assumption];rfl
theorem nI(hW:W0 W)(c:Int)(ts:List Cf)(hl:ts.length<1099511627776)(dX:∀t∈ts,t.var.length≤281474976710656):PC P (gl W) 89 [.agg [.d (.int .i64 c),.d (.list (ts.map Cf.aa))]] (.d (.bool (bc c ts))):=by
 refine CG.start SS SU rfl ?_;refine s4 hW 8 0 [] 0 [(1,.ptr 0 2 0),(2,bF),(6,lo Cf.aa ts),(7,no (ts.map Cf.aa).length),(8,i0)] [(0,.cells [io c,lo Cf.aa ts])] ?_;rotate_left
 ·skip;refine CG.bI ts (fun i a=>[(1,.ptr 0 2 0),(2,bF),(6,lo Cf.aa ts),(7,no (ts.map Cf.aa).length),(8,.d (.int .i64 (.ofNat i)))]) (fun i a=>[some (.cells [io c,lo Cf.aa ts])]) (fun i a r=>(cU none ts=cU a r∧(i=0→a=none)∧∀k,i=k+1→∃y,ts[k]? =some y∧a=some y.var)) none ?_ (au.refl _ _) ?_ ?_
  ·exact⟨rfl,fun _=>rfl,fun k hk=>by omega⟩
  ·intro i a hi hd aF;obtain⟨hv,-,-⟩:=aF;refine s1 hW 4 0 [] 23 [(9,bo (aP (Int.ofNat i) (Int.ofNat (ts.map Cf.aa).length)))] ?_;refine CG.ay (fw i (ts.map Cf.aa).length) k_ ?_;refine CG.bg (by decide) ?_;refine s1 hW 3 2 [] 3 [(46,io c)] ?_;refine CG.pg (wo hW c) rfl k_ ?_;refine s1 hW 0 1 [] 3 [(48,bo (a8 c))] ?_;refine sp (a8 c) (fun sn=>?_ ) (fun sn=>?_ );rw[sn];refine s1 hW 2 0 [] 0 [(2,bo (!aP 12 (Int.ofNat (ts.map Cf.aa).length)))] ?_;refine CG.rt (bo (!aP 12 (Int.ofNat (ts.map Cf.aa).length))) ?_;rotate_left;rw[sn];refine s1 hW 2 0 [] 2 [] ?_;refine CG.rt (bF) ?_;rotate_left
   ·rw[bc,hv,show a8 c=true by assumption,fv,aaW,V.d.injEq,D.bool.injEq,aa_];simp[cU];omega
   ·rw[bc,show a8 c=false by assumption];rfl
  ·intro i a x r hd hx bS aF;obtain⟨hv,h0,h1⟩:=aF;rw[cU]at hv;cases i with
    |zero=>cases h0 rfl;refine s1 hW 4 0 [] 31 [(9,bo (aP 0 (Int.ofNat (ts.map Cf.aa).length)))] ?_;refine CG.aD (show(aP 0 (Int.ofNat (ts.map Cf.aa).length))=true from ki) k_ ?_;refine s1 hW 5 1 [] 31 [(10,i0)] ?_;refine CG.ix (ax (aa:=Cf.aa) hx) rfl k_ ?_;refine s4 hW 3 0 [] 31 [(3,i0),(4,.ptr 1 2 0)] [(1,.cells [so x.var,io x.c])] ?_;refine CG.gF bG k_ k_ ?_;refine AO.rd 2 [(13,.ptr 1 2 0),(14,so x.var)] k_ ?_;refine AO.kL (nb hW x.var (dX x (aaO hx))) rfl k_ k_ ?_;refine AO.rd 2 [(16,bo (!bj x.var)),(17,bo (!bj x.var))] k_ ?_;refine sp (bj x.var) (fun kE=>?_ ) (fun kE=>?_ );rw[kE];refine AO.rd 5 [(18,.ptr 1 2 1),(19,io x.c),(20,bo (Cf.c x==0)),(21,bo (Cf.c x==0)),(22,bo (Cf.c x==0))] k_ ?_;refine va x.c 0 (fun kF QO=>?_ ) (fun kF QO=>?_ );rw[kF];refine AO.rd 21 [(23,tE),(24,tE),(25,tE),(26,tE),(27,bT),(28,bT),(29,tE),(30,tE),(31,tE),(32,tE),(33,tE),(34,tE),(35,tE),(36,tE),(37,tE),(38,tE),(39,tE),(40,tE),(41,tE),(42,tE),(43,bT)] k_ ?_;refine AO.done [1,2,6,7,8,43] rfl rfl k_ ?_;refine s1 hW 5 0 [true] 31 [] ?_;refine CG.e9 (bF) ?_;rotate_left;rw[kF];refine AO.rd 2 [(23,.ptr 1 2 1),(24,io x.c)] k_ ?_;refine AO.kL (wo hW x.c) rfl k_ k_ ?_;refine AO.rd 3 [(26,bo (!a8 x.c)),(27,bo (!a8 x.c)),(28,bo (!a8 x.c))] k_ ?_;refine sp (a8 x.c) (fun ji=>?_ ) (fun ji=>?_ );rw[ji];refine AO.rd 15 [(29,i0),(30,bF),(31,bF),(32,tE),(33,tE),(34,tE),(35,tE),(36,tE),(37,tE),(38,tE),(39,tE),(40,tE),(41,tE),(42,bF),(43,bF)] k_ ?_;refine AO.done [1,2,6,7,8,43] rfl rfl k_ ?_;refine s3 hW 5 2 [false] [(1,.ptr 0 2 0),(2,bF),(6,lo Cf.aa ts),(7,no (ts.map Cf.aa).length),(8,io 1)] ([some (.cells [io c,lo Cf.aa ts]),some (.cells [so x.var,io x.c])]) ?_;refine CG.bM rfl ?_;rotate_left;rw[ji];refine AO.rd 15 [(29,tE),(30,tE),(31,tE),(32,tE),(33,tE),(34,tE),(35,tE),(36,tE),(37,tE),(38,tE),(39,tE),(40,tE),(41,tE),(42,tE),(43,bT)] k_ ?_;refine AO.done [1,2,6,7,8,43] rfl rfl k_ ?_;refine s1 hW 5 0 [true] 31 [] ?_;refine CG.e9 (bF) ?_;rotate_left;rw[kE];refine AO.rd 26 [(18,tE),(19,tE),(20,tE),(21,bT),(22,bT),(23,tE),(24,tE),(25,tE),(26,tE),(27,bT),(28,bT),(29,tE),(30,tE),(31,tE),(32,tE),(33,tE),(34,tE),(35,tE),(36,tE),(37,tE),(38,tE),(39,tE),(40,tE),(41,tE),(42,tE),(43,bT)] k_ ?_;refine AO.done [1,2,6,7,8,43] rfl rfl k_ ?_;refine s1 hW 5 0 [true] 31 [] ?_;refine CG.e9 (bF) ?_;rotate_left;all_goals first|(simp only[bc,hv,gW];simp[*];done)|(refine⟨some x.var,⟨by rw[hv];simp[gW, *],fun h=>by omega,fun k hk=>⟨x,by rw[show k=0 by omega];exact hx,rfl⟩⟩,au.trim 1 [1,2,6,7,8] rfl rfl rfl rfl rfl⟩;done)
    |succ k=>obtain⟨y,hy,rfl⟩:=h1 k rfl;refine s1 hW 4 0 [] 31 [(9,bo (aP (Int.ofNat (k+1)) (Int.ofNat (ts.map Cf.aa).length)))] ?_;refine CG.aD (eC (k+1) (ts.map Cf.aa).length) k_ ?_;refine s1 hW 5 1 [] 31 [(10,no (k+1))] ?_;refine CG.ix (ax (aa:=Cf.aa) hx) rfl k_ ?_;refine s4 hW 3 0 [] 31 [(3,no (k+1)),(4,.ptr 1 2 0)] [(1,.cells [so x.var,io x.c])] ?_;refine CG.gF bG k_ k_ ?_;refine AO.rd 2 [(13,.ptr 1 2 0),(14,so x.var)] k_ ?_;refine AO.kL (nb hW x.var (dX x (aaO hx))) rfl k_ k_ ?_;refine AO.rd 2 [(16,bo (!bj x.var)),(17,bo (!bj x.var))] k_ ?_;refine sp (bj x.var) (fun ji=>?_ ) (fun ji=>?_ );rw[ji];refine AO.rd 5 [(18,.ptr 1 2 1),(19,io x.c),(20,bo (Cf.c x==0)),(21,bo (Cf.c x==0)),(22,bo (Cf.c x==0))] k_ ?_;refine va x.c 0 (fun jN Ng=>?_ ) (fun jN Ng=>?_ );rw[jN];refine AO.rd 21 [(23,tE),(24,tE),(25,tE),(26,tE),(27,bT),(28,bT),(29,tE),(30,tE),(31,tE),(32,tE),(33,tE),(34,tE),(35,tE),(36,tE),(37,tE),(38,tE),(39,tE),(40,tE),(41,tE),(42,tE),(43,bT)] k_ ?_;refine AO.done [1,2,6,7,8,43] rfl rfl k_ ?_;refine s1 hW 5 0 [true] 31 [] ?_;refine CG.e9 (bF) ?_;rotate_left;rw[jN];refine AO.rd 2 [(23,.ptr 1 2 1),(24,io x.c)] k_ ?_;refine AO.kL (wo hW x.c) rfl k_ k_ ?_;refine AO.rd 3 [(26,bo (!a8 x.c)),(27,bo (!a8 x.c)),(28,bo (!a8 x.c))] k_ ?_;refine sp (a8 x.c) (fun na=>?_ ) (fun na=>?_ );rw[na];refine AO.rd 3 [(29,no (k+1)),(30,bo (decide (0<Int.ofNat (k+1)))),(31,bo (decide (0<Int.ofNat (k+1))))] k_ ?_;have sq:(decide (0<Int.ofNat (k+1)))=true:=aa9 (by(try simp only[zz]at*)<;>omega);rw[sq];refine AO.rd 4 [(32,.ptr 0 2 1),(33,lo Cf.aa ts),(34,no (k+1)),(35,io (IntKind.wrap IntKind.i64 (Int.ofNat (k+1) - 1)))] k_ ?_;rw[nG (by omega)];refine AO.idx (ax (aa:=Cf.aa) hy) rfl k_ k_ k_ rfl ?_;refine AO.rd 7 [(37,.ct [.str y.var]),(38,so y.var),(39,.ptr 1 2 0),(40,so x.var),(41,bo (!bytesLess y.var x.var)),(42,bo (!bytesLess y.var x.var)),(43,bo (!bytesLess y.var x.var))] k_ ?_;refine AO.done [1,2,6,7,8,43] rfl rfl k_ ?_;refine s1 hW 1 0 [] 63 [] ?_;refine sp (bytesLess y.var x.var) (fun nR=>?_ ) (fun nR=>?_ );refine CG.ay (b:=(!bytesLess y.var x.var)) (by rw[nR];rfl) k_ ?_;refine s3 hW 3 2 [] [(1,.ptr 0 2 0),(2,bF),(6,lo Cf.aa ts),(7,no (ts.map Cf.aa).length),(8,io (aO IntKind.i64 (bl (Int.ofNat (k+1)) 1)))] ([some (.cells [io c,lo Cf.aa ts]),some (.cells [so x.var,io x.c])]) ?_;refine CG.bM rfl ?_;rw[a6 (by omega)];rotate_left;refine CG.aD (b:=(!bytesLess y.var x.var)) (by rw[nR];rfl) k_ ?_;refine s1 hW 3 0 [] 31 [] ?_;refine CG.e9 (bF) ?_;rotate_left;rw[na];refine AO.rd 15 [(29,tE),(30,tE),(31,tE),(32,tE),(33,tE),(34,tE),(35,tE),(36,tE),(37,tE),(38,tE),(39,tE),(40,tE),(41,tE),(42,tE),(43,bT)] k_ ?_;refine AO.done [1,2,6,7,8,43] rfl rfl k_ ?_;refine s1 hW 5 0 [true] 31 [] ?_;refine CG.e9 (bF) ?_;rotate_left;rw[ji];refine AO.rd 26 [(18,tE),(19,tE),(20,tE),(21,bT),(22,bT),(23,tE),(24,tE),(25,tE),(26,tE),(27,bT),(28,bT),(29,tE),(30,tE),(31,tE),(32,tE),(33,tE),(34,tE),(35,tE),(36,tE),(37,tE),(38,tE),(39,tE),(40,tE),(41,tE),(42,tE),(43,bT)] k_ ?_;refine AO.done [1,2,6,7,8,43] rfl rfl k_ ?_;refine s1 hW 5 0 [true] 31 [] ?_;refine CG.e9 (bF) ?_;rotate_left;all_goals first|(simp only[bc,hv,gW];simp[*];done)|(refine⟨some x.var,⟨by rw[hv];simp[gW, *],fun h=>by omega,fun k2 hk=>⟨x,by rw[show k2=k+1 by omega];exact hx,rfl⟩⟩,au.trim 1 [1,2,6,7,8] rfl rfl rfl rfl rfl⟩;done)
theorem IW(hW:W0 W)(c:Int)(ts:List Cf)(hl:ts.length<1099511627776)(dX:∀t∈ts,t.var.length<1099511627776):PC P (gl W) 89 [.agg [.d (.int .i64 c),.d (.list (ts.map Cf.aa))]] (.d (.bool (bc c ts))):=nI hW c ts hl (fun t ht=>by have:=dX t ht;omega)
end Fw.Tz.Va
/-
  Shapes and types that are valid; what the program and the reference say of any.
-/
namespace Fw.Tz.Vb
open Go Go.Proofs Fw.X Fw.Tz Fw.Nu Fw.Tz.Sd Fw.Tz.Na Fw.Tz.El Fw.Tz.Va
variable {W:World}
def iY:Option Nat→V|some i=>.d (.int .i64 (.ofNat i))|none=>.d (.int .i64 (-1))
def aj.sm(x:aj):Prop:=x.ts.length<1099511627776∧∀t∈x.ts,t.var.length<1099511627776
def bad(x:aj):Bool:= !bc x.c x.ts
def gf(s:List UInt8):Bool:=Fw.ae s []||bj s
def c8(row:List UInt8)(ah:List aj):Bool:=gf row&&decide (ah.length≤6)&&ah.all aj.ok
def Fb:List UInt8:=[105,110,116]
def wt:List UInt8:=[98,111,111,108]
def ku(e:List UInt8):Bool:=Fw.ae e Fb||Fw.ae e wt||cQ e
def yC(t:Ty):Bool:=ku t.elem&&c8 t.row t.ah
theorem fJ(l:List aj):l.any bad= !l.all aj.ok:=by
 induction l with
  |nil=>rfl
  |cons x l ih=>rw[List.any_cons,aa4,ih,Bool.not_and];rfl
theorem xU(hW:W0 W)(row:List UInt8)(ah:List aj)(hl:ah.length<1099511627776)(hd:∀x∈ah,aj.sm x):PC P (gl W) 63 [.agg [.d (.str row),.d (.list (ah.map aj.aa))]] (.d (.bool (c8 row ah))):=by
 refine CG.start SQ SR rfl ?_;refine s4 hW 8 0 [] 0 [(1,.ptr 0 2 0),(2,bF),(3,i0)] [(0,.cells [so row,lo aj.aa ah])] ?_;rotate_left;refine CG.bI ah (fun i u=>[(1,.ptr 0 2 0),(2,bF),(3,.d (.int .i64 (.ofNat i)))]) (fun i u=>[some (.cells [so row,lo aj.aa ah])]) (fun i u r=>(ah.all aj.ok=r.all aj.ok)) () ?_ (au.refl _ _) ?_ ?_
 ·rfl
 ·intro i u hi hd aF;refine s1 hW 4 0 [] 7 [(8,bo (aP (Int.ofNat i) (Int.ofNat (ah.map aj.aa).length)))] ?_;refine CG.ay (fw i (ah.map aj.aa).length) k_ ?_;refine CG.bg (by decide) ?_;refine s1 hW 3 5 [] 3 [(22,bo (!aP 6 (Int.ofNat (ah.map aj.aa).length)))] ?_;refine dh 6 (ah.map aj.aa).length (fun q0 Km=>?_ ) (fun q0 Km=>?_ )<;>simp only[zz]at Km;have Al:(aP 6 (Int.ofNat (ah.map aj.aa).length))=true:=ki;rw[Al];refine s1 hW 2 0 [] 2 [] ?_;refine CG.rt (bF) ?_;rotate_left;have kE:(aP 6 (Int.ofNat (ah.map aj.aa).length))=false:=lZ;rw[kE];refine s1 hW 0 4 [] 7 [(26,bo (ae row []))] ?_;refine sp (ae row []) (fun jM=>?_ ) (fun jM=>?_ );rw[jM];refine s1 hW 2 0 [] 0 [(2,bT)] ?_;refine CG.rt (bT) ?_;rotate_left;rw[jM];refine s1 hW 0 2 [] 14 [(28,so row)] ?_;refine CG.pg (di hW row) rfl k_ ?_;refine s1 hW 2 0 [] 0 [(2,bo (bj row))] ?_;refine CG.rt (bo (bj row)) ?_;rotate_left;all_goals first
   |(
    have h6:ah.length≤6:=by omega
    simp[c8,gf,fJ, *];done)
   |(
    have h6:¬ah.length≤6:=by omega
    simp[c8,gf,fJ, *];done)
   |(simp[c8,gf,fJ, *];done)
 ·intro i u x r dZ hx bS aF;have hs:=hd x (aaO hx);rw[aa4]at aF;refine s1 hW 4 0 [] 7 [(8,bo (aP (Int.ofNat i) (Int.ofNat (ah.map aj.aa).length)))] ?_;refine CG.aD (eC i (ah.map aj.aa).length) k_ ?_;refine s1 hW 5 3 [] 7 [(12,lo aj.aa ah),(13,no i)] ?_;refine CG.ix (ax (aa:=aj.aa) hx) rfl k_ ?_;refine s1 hW 0 1 [] 7 [(15,.agg x.ce)] ?_;refine CG.pg (dd hW x.c x.ts (And.left hs)) rfl k_ ?_;refine s1 hW 2 0 [] 7 [(17,bo (!bc x.c x.ts))] ?_;refine sp (bc x.c x.ts) (fun jM=>?_ ) (fun jM=>?_ );refine CG.ay (b:=(!bc x.c x.ts)) (by rw[jM];rfl) k_ ?_;refine s3 hW 3 3 [] [(1,.ptr 0 2 0),(2,bF),(3,io (aO IntKind.i64 (bl (Int.ofNat i) 1)))] ([some (.cells [so row,lo aj.aa ah])]) ?_;refine CG.bM rfl ?_;rw[a6 (by omega)];rotate_left;refine CG.aD (b:=(!bc x.c x.ts)) (by rw[jM];rfl) k_ ?_;refine s1 hW 3 0 [] 7 [] ?_;refine CG.e9 (bF) ?_;rotate_left
  ·exact⟨(),by rw[aF,show aj.ok x=true by assumption];rfl,au.refl _ _⟩
  ·rw[c8,aF,show aj.ok x=false by assumption];simp
theorem Pk(hW:W0 W)(x:aj)(hs:aj.sm x):PC P (gl W) 117 [.agg [.d (.int .i64 x.c),.d (.list (x.ts.map Cf.aa))]] (.d (.bool (bad x))):=by refine CG.start M9 M' rfl ?_;refine s4 hW 4 1 [] 0 [(2,bF),(3,.agg x.ce)] [(0,.cells x.ce)] ?_;refine CG.pg (IW hW x.c x.ts (And.left hs) (And.right hs)) rfl k_ ?_;refine s1 hW 2 0 [] 0 [(2,bo (!bc x.c x.ts))] ?_;refine CG.rt (bo (!bc x.c x.ts)) ?_;rfl
theorem Fc(hW:W0 W)(l:List aj)(hl:l.length<1099511627776)(hd:∀x∈l,aj.sm x):PC P (gl W) 174 [.d (.list (l.map aj.aa)),.func 117 [] []] (iY (l.findIdx? bad)):=by
 refine CG.start M_ Nb rfl ?_;refine s1 hW 8 0 [] 3 [(4,i0),(7,no (l.map aj.aa).length),(8,i0)] ?_;rotate_left;refine CG.bI l (fun i u=>[(0,lo aj.aa l),(1,.func 117 [] []),(4,i0),(7,no (l.map aj.aa).length),(8,.d (.int .i64 (.ofNat i)))]) (fun i u=>[]) (fun i u r=>(iY (l.findIdx? bad)=iY ((r.findIdx? bad).map (·+i)))) () ?_ (au.refl _ _) ?_ ?_
 ·cases l.findIdx? bad<;>rfl
 ·intro i u hi hd aF;refine s1 hW 4 0 [] 23 [(9,bo (aP (Int.ofNat i) (Int.ofNat (l.map aj.aa).length)))] ?_;refine CG.ay (fw i (l.map aj.aa).length) k_ ?_;refine CG.bg (by decide) ?_;refine s1 hW 5 0 [] 0 [(4,io (-1))] ?_;refine CG.rt (io (-1)) ?_;rotate_left;rw[aF];rfl
 ·intro i u x r dZ hx bS aF;have hs:=hd x (aaO hx);refine s1 hW 4 0 [] 31 [(9,bo (aP (Int.ofNat i) (Int.ofNat (l.map aj.aa).length)))] ?_;refine CG.aD (eC i (l.map aj.aa).length) k_ ?_;refine s1 hW 8 3 [] 31 [(5,no i),(11,.func 117 [] []),(12,lo aj.aa l),(13,no i)] ?_;refine CG.ix (ax (aa:=aj.aa) hx) rfl k_ ?_;refine s1 hW 0 1 [] 127 [(15,.agg x.ce)] ?_;refine CG.WW (first:=[]) (cap:=[]) (Pk hW x hs) rfl k_ k_ k_ rfl ?_;refine s1 hW 2 0 [] 319 [] ?_;refine sp (bad x) (fun kE=>?_ ) (fun kE=>?_ );refine CG.aD kE k_ ?_;refine s1 hW 3 0 [] 51 [(4,no i)] ?_;refine CG.e9 (no i) ?_;rotate_left;refine CG.ay kE k_ ?_;refine s3 hW 3 2 [] [(0,lo aj.aa l),(1,.func 117 [] []),(4,i0),(7,no (l.map aj.aa).length),(8,io (aO IntKind.i64 (bl (Int.ofNat i) 1)))] ([]) ?_;refine CG.bM rfl ?_;rw[a6 (by omega)];rotate_left
  ·rw[aF,acG,show bad x=true by assumption];simp[iY]
  ·refine⟨(),?_,au.refl _ _⟩;rw[aF,acG,show bad x=false by assumption];cases r.findIdx? bad<;>simp[iY];omega
theorem wu(hW:W0 W)(l:List aj)(hl:l.length<1099511627776)(hd:∀x∈l,aj.sm x):PC P (gl W) 116 [.d (.list (l.map aj.aa)),.func 117 [] []] (.d (.bool (l.any bad))):=by
 refine CG.start M7 M8 rfl ?_;refine s1 hW 4 2 [] 0 [(4,bF),(5,lo aj.aa l),(6,.func 117 [] [])] ?_;refine CG.pg (Fc hW _ hl hd) rfl k_ ?_;rotate_left;have:l.any bad=(l.findIdx? bad).isSome:=by rw[ado]
 rw[this];cases l.findIdx? bad with
  |none=>refine s1 hW 2 0 [] 1 [] ?_;refine CG.rt (bF) ?_;rfl
  |some i=>refine s1 hW 2 0 [] 0 [(4,bT)] ?_;refine CG.rt (bT) ?_;rfl
theorem xV(hW:W0 W)(row:List UInt8)(ah:List aj)(hr:row.length<1099511627776)(hl:ah.length<1099511627776)(hd:∀x∈ah,aj.sm x):PC P (gl W) 59 [.agg [.d (.str row),.d (.list (ah.map aj.aa))]] (.d (.bool (c8 row ah))):=by
 refine CG.start SO SP rfl ?_;refine s4 hW 4 4 [] 0 [(1,.ptr 0 2 0),(2,bF),(6,bo (ae row []))] [(0,.cells [so row,lo aj.aa ah])] ?_;refine sp (ae row []) (fun q8=>?_ ) (fun q8=>?_ );rw[q8];refine s1 hW 0 11 [] 3 [(17,bo (!aP 6 (Int.ofNat (ah.map aj.aa).length)))] ?_;refine dh 6 (ah.map aj.aa).length (fun sk Pm=>?_ ) (fun sk Pm=>?_ )<;>simp only[zz]at Pm;have qZ:(aP 6 (Int.ofNat (ah.map aj.aa).length))=true:=ki;rw[qZ];refine s1 hW 2 0 [] 2 [] ?_;refine CG.rt (bF) ?_;rotate_left;have sn:(aP 6 (Int.ofNat (ah.map aj.aa).length))=false:=lZ;rw[sn];refine s1 hW 0 2 [] 6 [(19,lo aj.aa ah)] ?_;refine CG.pg (wu hW _ hl hd) rfl k_ ?_;refine s1 hW 2 0 [] 0 [(2,bo (!List.any ah bad))] ?_;refine CG.rt (bo (!List.any ah bad)) ?_;rotate_left;rw[q8];refine s1 hW 0 2 [] 7 [(8,so row)] ?_;refine CG.pg (iC hW _ hr) rfl k_ ?_;refine s1 hW 0 2 [] 3 [(11,bo (bj row))] ?_;refine sp (bj row) (fun q0=>?_ ) (fun q0=>?_ );rw[q0];refine s1 hW 0 6 [] 3 [(17,bo (!aP 6 (Int.ofNat (ah.map aj.aa).length)))] ?_;refine dh 6 (ah.map aj.aa).length (fun kE Am=>?_ ) (fun kE Am=>?_ )<;>simp only[zz]at Am;have jM:(aP 6 (Int.ofNat (ah.map aj.aa).length))=true:=ki;rw[jM];refine s1 hW 2 0 [] 2 [] ?_;refine CG.rt (bF) ?_;rotate_left;have kF:(aP 6 (Int.ofNat (ah.map aj.aa).length))=false:=lZ;rw[kF];refine s1 hW 0 2 [] 6 [(19,lo aj.aa ah)] ?_;refine CG.pg (wu hW _ hl hd) rfl k_ ?_;refine s1 hW 2 0 [] 0 [(2,bo (!List.any ah bad))] ?_;refine CG.rt (bo (!List.any ah bad)) ?_;rotate_left;rw[q0];refine s1 hW 2 0 [] 2 [] ?_;refine CG.rt (bF) ?_;rotate_left;all_goals first
  |(
   have h6:ah.length≤6:=by omega
   simp[c8,gf,fJ, *];done)
  |(
   have h6:¬ah.length≤6:=by omega
   simp[c8,gf,fJ, *];done)
  |(simp[c8,gf,fJ, *];done)
theorem Up(hW:W0 W)(e row:List UInt8)(ah:List aj)(he:e.length<1099511627776)(hr:row.length<1099511627776)(hl:ah.length<1099511627776)(hd:∀x∈ah,aj.sm x):PC P (gl W) 51 [.agg [.d (.str e),.d (.str row),.d (.list (ah.map aj.aa))]] (.d (.bool (yC ⟨e,row,ah⟩))):=by refine CG.start X6 X7 rfl ?_;refine s4 hW 4 4 [] 0 [(1,.ptr 0 3 0),(2,bF),(6,bo (ae e [105,110,116]))] [(0,.cells [so e,so row,lo aj.aa ah])] ?_;refine sp (ae e [105,110,116]) (fun sk=>?_ ) (fun sk=>?_ );rw[sk];refine s1 hW 0 12 [] 2 [(16,bT),(18,.agg [so row,lo aj.aa ah])] ?_;refine CG.pg (xV hW _ _ hr hl hd) rfl k_ ?_;refine s1 hW 2 0 [] 0 [(2,bo (c8 row ah))] ?_;refine CG.rt (bo (c8 row ah)) ?_;rotate_left;rw[sk];refine s1 hW 0 5 [] 3 [(11,bo (ae e [98,111,111,108]))] ?_;refine sp (ae e [98,111,111,108]) (fun qZ=>?_ ) (fun qZ=>?_ );rw[qZ];refine s1 hW 0 7 [] 2 [(16,bT),(18,.agg [so row,lo aj.aa ah])] ?_;refine CG.pg (xV hW _ _ hr hl hd) rfl k_ ?_;refine s1 hW 2 0 [] 0 [(2,bo (c8 row ah))] ?_;refine CG.rt (bo (c8 row ah)) ?_;rotate_left;rw[qZ];refine s1 hW 0 2 [] 7 [(13,so e)] ?_;refine CG.pg (eD hW _ he) rfl k_ ?_;refine s1 hW 0 2 [] 3 [(16,bo (cQ e))] ?_;refine sp (cQ e) (fun sn=>?_ ) (fun sn=>?_ );rw[sn];refine s1 hW 0 2 [] 6 [(18,.agg [so row,lo aj.aa ah])] ?_;refine CG.pg (xV hW _ _ hr hl hd) rfl k_ ?_;refine s1 hW 2 0 [] 0 [(2,bo (c8 row ah))] ?_;refine CG.rt (bo (c8 row ah)) ?_;rotate_left;rw[sn];refine s1 hW 2 0 [] 2 [] ?_;refine CG.rt (bF) ?_;rotate_left;all_goals simp[yC,ku,Fb,wt, *]
theorem uw(hW:W0 W)(e:List UInt8)(he:e.length<1099511627776):PC P (gl W) 79 [.d (.str e)] (.d (.bool (ku e))):=by refine CG.start YG YH rfl ?_;refine s1 hW 4 3 [] 1 [(2,bF),(5,bo (ae e [105,110,116]))] ?_;refine sp (ae e [105,110,116]) (fun q5=>?_ ) (fun q5=>?_ );rw[q5];refine s1 hW 2 0 [] 0 [(2,bT)] ?_;refine CG.rt (bT) ?_;rotate_left;rw[q5];refine s1 hW 0 4 [] 3 [(9,bo (ae e [98,111,111,108]))] ?_;refine sp (ae e [98,111,111,108]) (fun q6=>?_ ) (fun q6=>?_ );rw[q6];refine s1 hW 2 0 [] 0 [(2,bT)] ?_;refine CG.rt (bT) ?_;rotate_left;rw[q6];refine s1 hW 0 1 [] 6 [(10,so e)] ?_;refine CG.pg (gK hW _ he) rfl k_ ?_;refine s1 hW 2 0 [] 0 [(2,bo (cQ e))] ?_;refine CG.rt (bo (cQ e)) ?_;rotate_left;all_goals simp[ku,Fb,wt, *]
theorem ux(hW:W0 W)(e row:List UInt8)(ah:List aj)(he:e.length<1099511627776)(hl:ah.length<1099511627776)(hd:∀x∈ah,aj.sm x):PC P (gl W) 33 [.agg [.d (.str e),.d (.str row),.d (.list (ah.map aj.aa))]] (.d (.bool (yC ⟨e,row,ah⟩))):=by refine CG.start XU XV rfl ?_;refine s4 hW 4 2 [] 0 [(1,.ptr 0 3 0),(2,bF),(4,so e)] [(0,.cells [so e,so row,lo aj.aa ah])] ?_;refine CG.pg (uw hW _ he) rfl k_ ?_;refine s1 hW 0 1 [] 3 [(6,bo (ku e))] ?_;refine sp (ku e) (fun q9=>?_ ) (fun q9=>?_ );rw[q9];refine s1 hW 0 2 [] 6 [(8,.agg [so row,lo aj.aa ah])] ?_;refine CG.pg (xU hW row ah hl hd) rfl k_ ?_;refine s1 hW 2 0 [] 0 [(2,bo (c8 row ah))] ?_;refine CG.rt (bo (c8 row ah)) ?_;rotate_left;rw[q9];refine s1 hW 2 0 [] 2 [] ?_;refine CG.rt (bF) ?_;rotate_left;all_goals simp[yC, *]
end Fw.Tz.Vb
/-
  Equality of expressions, shapes and types as functions.
-/
namespace Fw.Tz.Eq
open Go Fw.Tz.Va Fw.Tz.Vb
def DR{α:Type}(f:α→α→Bool):List α→List α→Bool|[],[]=>true|a::l,b::m=>f a b&&DR f l m|_,_=>false
theorem xW{α:Type}{f:α→α→Bool}(h:∀a b,f a b=true↔a=b):∀(l m:List α),DR f l m=true↔l=m
 |[],[]=>by simp[DR]
 |[],_::_=>by simp[DR]
 |_::_,[]=>by simp[DR]
 |a::l,b::m=>by rw[DR,aaD,h,xW h l m,acD]
theorem DS{α:Type}{f:α→α→Bool}:∀{l m:List α},l.length≠m.length→DR f l m=false
 |[],[],h=>by simp at h
 |[],_::_,_=>rfl
 |_::_,[],_=>rfl
 |a::l,b::m,h=>by rw[DR,DS (by simpa using h),abH]
def q_(a b:Cf):Bool:=Fw.ae a.var b.var&&decide (a.c=b.c)
def lg(a b:aj):Bool:=decide (a.c=b.c)&&DR q_ a.ts b.ts
def vh(r1:List UInt8)(d1:List aj)(r2:List UInt8)(d2:List aj):Bool:=Fw.ae r1 r2&&DR lg d1 d2
def Fe(a b:Ty):Bool:=Fw.ae a.elem b.elem&&vh a.row a.ah b.row b.ah
theorem uy(a b:Cf):q_ a b=true↔a=b:=by cases a;cases b;simp[q_,Fw.fS]
theorem ra(a b:aj):lg a b=true↔a=b:=by cases a;cases b;simp[lg,xW uy]
theorem IX(r1:List UInt8)(d1:List aj)(r2:List UInt8)(d2:List aj):vh r1 d1 r2 d2=true↔r1=r2∧d1=d2:=by simp[vh,xW ra,Fw.fS]
theorem IY(a b:Ty):Fe a b=true↔a=b:=by cases a;cases b;simp[Fe,IX,Fw.fS,and_assoc]
theorem Ff(a:Ty):Fe a a=true:=(IY a a).2 rfl
end Fw.Tz.Eq
/-
  Binds, substitution and the schemes of primitives under binds: the plain law.
-/
namespace Fw.Tz.Yd
open Go Fw.Tz Fw.Nu Fw.Tz.Na Fw.Tz.El Fw.Tz.Va Fw.Tz.Vb Fw.Tz.Su
structure Bd where
 kind:Int
 var:List UInt8
 bL:aj
 row:List UInt8
 ah:List aj
 elem:List UInt8
@[simp,reducible] def Bd.ce(x:Bd):List V:=[Fw.io x.kind,Fw.so x.var,Fw.io x.bL.c,Fw.lo Cf.aa x.bL.ts,Fw.so x.row,Fw.lo aj.aa x.ah,Fw.so x.elem]
def Bd.aa(x:Bd):List D:=[.int .i64 x.kind,.str x.var,.int .i64 x.bL.c,.list (x.bL.ts.map Cf.aa),.str x.row,.list (x.ah.map aj.aa),.str x.elem]
def fp(k:Int)(s:List UInt8)(b:Bd):Bool:=decide (b.kind=k)&&Fw.ae b.var s
def cI(l:List Bd)(k:Int)(s:List UInt8):Option Nat:=l.findIdx? (fp k s)
def br(l:List Bd)(k:Int)(s:List UInt8):Option Bd:=l.find? (fp k s)
def jO(x:aj):Bool:=decide (x.c=0)&&x.ts.isEmpty
def rW(b:Bd):Bool:=Fw.ae b.row []&&b.ah.isEmpty
def fk(b:Bd):Bool:=if b.kind=1 then bj b.var&&b.bL.ok&&rW b&&Fw.ae b.elem []else if b.kind=2 then bj b.var&&c8 b.row b.ah&&jO b.bL&&Fw.ae b.elem []else if b.kind=3 then cQ b.var&&ku b.elem&&jO b.bL&&rW b else false
def xX:List Bd→List Bd→Bool|_,[]=>true|seen,b::r=>fk b&&(cI seen b.kind b.var).isNone&&xX (seen++[b]) r
def rb(l:List Bd):Bool:=xX [] l
abbrev Gt:=Int→List UInt8→Option Bd
def B9(g:Gt):List Cf→Es
 |[]=>[]
 |t::ts=>
  (match g 1 t.var with
   |none=>[(t.var,t.c)]
   |some b=>b.bL.ts.map fun u=>(u.var,t.c*u.c))++B9 g ts
def Ap(g:Gt):Int→List Cf→Int
 |n,[]=>n
 |n,t::ts=>
  Ap g (match g 1 t.var with
   |none=>n
   |some b=>n+t.c*b.bL.c) ts
def Aq(g:Gt)(ts:List Cf):Bool:=ts.all fun t=>
 match g 1 t.var with
  |none=>true
  |some b=>b.bL.ok
def yu(e:List UInt8×Int):Cf:=⟨e.1,e.2⟩
def re(es:Es):List Cf:=es.map yu
def LW:aj:=⟨0,[]⟩
def nc(x:aj):aj×Int:=if x.ok=true then(x,0)else(LW,3)
def dJ(g:Gt)(x:aj):aj×Int:=if x.ok=true∧Aq g x.ts=true then nc ⟨Ap g x.c x.ts,re (pW (B9 g x.ts) [])⟩else(LW,1)
def fP(g:Gt):List aj→List aj→List aj×Int|acc,[]=>(acc,0)|acc,x::xs=>if(dJ g x).2=0 then fP g (acc++[(dJ g x).1]) xs else([],(dJ g x).2)
def rX(row:List UInt8)(a b:List aj):(List UInt8×List aj)×Int:=if a.length+b.length≤6 then((row,a++b),0)else(([],[]),3)
def nf(g:Gt)(ok:Bool)(row:List UInt8)(ah:List aj):(List UInt8×List aj)×Int:=if c8 row ah=true∧ok=true then
 if(fP g [] ah).2=0 then
  match(if row=[]then none else g 2 row)with
   |none=>rX row [] (fP g [] ah).1
   |some b=>rX b.row b.ah (fP g [] ah).1
 else(([],[]),(fP g [] ah).2)else(([],[]),1)
def wv:Ty:=⟨[],[],[]⟩
def cP(g:Gt)(ok:Bool)(t:Ty):Ty×Int:=if yC t=true∧ok=true then
 if(nf g ok t.row t.ah).2=0 then
  (⟨match g 3 t.elem with
   |none=>t.elem
   |some b=>b.elem,(nf g ok t.row t.ah).1.1,(nf g ok t.row t.ah).1.2⟩,0)
 else(wv,(nf g ok t.row t.ah).2)else(wv,1)
structure cl where
 ps:List Ty
 r:Ty
 wh:List aj
@[simp,reducible] def cl.ce(s:cl):List V:=[Fw.lo Ty.aa s.ps,Fw.so s.r.elem,Fw.so s.r.row,Fw.lo aj.aa s.r.ah,Fw.lo aj.aa s.wh]
def jP:cl:=⟨[],wv,[]⟩
def vi(s:cl):Bool:=decide (s.ps.length≤12)&&decide (s.wh.length≤60)&&s.ps.all yC&&yC s.r&&s.wh.all aj.ok
def iN(g:Gt)(ok:Bool):List Ty→List Ty→List Ty×Int|acc,[]=>(acc,0)|acc,x::xs=>if(cP g ok x).2=0 then iN g ok (acc++[(cP g ok x).1]) xs else([],(cP g ok x).2)
def iv(g:Gt)(ok:Bool)(s:cl):cl×Int:=if vi s=true∧ok=true then
 if(iN g ok [] s.ps).2=0 then
  if(cP g ok s.r).2=0 then
   if(fP g [] s.wh).2=0 then(⟨(iN g ok [] s.ps).1,(cP g ok s.r).1,(fP g [] s.wh).1⟩,0)
   else(jP,(fP g [] s.wh).2)
  else(jP,(cP g ok s.r).2)
 else(jP,(iN g ok [] s.ps).2)else(jP,1)
abbrev Ky:=Int×List UInt8
def key(b:Bd):Ky:=(b.kind,b.var)
theorem kx(k:Int)(s:List UInt8)(b:Bd):fp k s b=true↔key b=(k,s):=by
 have:Fw.ae b.var s=true↔b.var=s:=by rw[Fw.cZ];simp
 simp only[fp,aaD,aaN,key,aaF,this]
theorem uz{l:List Bd}{k:Int}{s:List UInt8}:(cI l k s).isNone=true↔∀b∈l,key b≠(k,s):=by
 unfold cI;rw[Option.isNone_iff_eq_none,List.findIdx?_eq_none_iff];refine adz fun b=>adz fun _=>?_
 rw[←Bool.not_eq_true,kx]
theorem Fg{l:List Bd}{k:Int}{s:List UInt8}:br l k s=none↔∀b∈l,key b≠(k,s):=by
 unfold br;rw[List.find?_eq_none];refine adz fun b=>adz fun _=>?_
 rw[kx]
def Nk(l:List Bd):Prop:=l.Pairwise fun a b=>key a≠key b
theorem Ar:∀(l seen:List Bd),xX seen l=true↔(∀b∈l,fk b=true)∧(∀a∈seen,∀b∈l,key a≠key b)∧Nk l
 |[],seen=>by simp[xX,Nk]
 |b::r,seen=>by
  rw[xX,aaD,aaD,uz,Ar r];simp only[Nk,abJ,abc,aa',acu,or_false];constructor
  ·rintro⟨⟨h1,h2⟩,h3,h4,h5⟩;refine⟨?_,?_,?_,h5⟩
   ·rintro x (rfl|hx)
    ·exact h1
    ·exact h3 x hx
   ·rintro a ha x (rfl|hx)
    ·exact h2 a ha
    ·exact h4 a (.inl ha) x hx
   ·intro x hx;exact h4 b (.inr rfl) x hx
  ·rintro⟨h1,h2,h3,h4⟩;refine⟨⟨h1 b (.inl rfl),fun a ha=>h2 a ha b (.inl rfl)⟩,fun x hx=>h1 x (.inr hx),?_,h4⟩;rintro a (ha|rfl) x hx
   ·exact h2 a ha x (.inr hx)
   ·exact h3 x hx
theorem DT(l:List Bd):rb l=true↔(∀b∈l,fk b=true)∧Nk l:=by rw[rb,Ar];simp
theorem IZ(a b:List Bd):rb (a++b)=rb (b++a):=by
 have:rb (a++b)=true↔rb (b++a)=true:=by
  rw[DT,DT];simp only[Nk,List.pairwise_append,abc];constructor
  ·rintro⟨h1,h2,h3,h4⟩;exact⟨fun x hx=>h1 x hx.symm,h3,h2,fun x hx y hy=>(h4 y hy x hx).symm⟩
  ·rintro⟨h1,h2,h3,h4⟩;exact⟨fun x hx=>h1 x hx.symm,h3,h2,fun x hx y hy=>(h4 y hy x hx).symm⟩
 rw[aa_];exact this
theorem Fh{a b:List Bd}(h:Nk (a++b)):br (a++b)=br (b++a):=by
 funext k s;unfold Nk at h;rw[List.pairwise_append]at h;unfold br;rw[List.find?_append,List.find?_append];cases h1:a.find? (fp k s)with
  |none=>simp
  |some x=>
   cases h2:b.find? (fp k s)with
    |none=>simp
    |some y=>exfalso;have k1:=(kx _ _ _).1 (List.find?_some h1);have k2:=(kx _ _ _).1 (List.find?_some h2);exact h.2.2 x (acs h1) y (acs h2) (k1.trans k2.symm)
theorem LX(l:List Bd):Nk l↔(l.map key).Nodup:=by unfold Nk List.Nodup;rw[List.pairwise_map]
theorem Y3:∀{vars keys:List Ky},vars.Nodup→(∀v∈vars,v∈keys)→keys.length≤vars.length→keys.Perm vars
 |[],keys,_,_,h=>by have:keys=[]:=List.length_eq_zero_iff.1 (by simpa using h);rw[this]
 |v::r,keys,h1,h2,h3=>by
  rw[acn]at h1;have hk:v∈keys:=h2 v (by simp);refine(List.perm_cons_erase hk).trans (List.Perm.cons v (Y3 h1.2 (fun w hw=>?_ ) ?_ ))
  ·have et:w≠v:=by rintro rfl;exact h1.1 hw
   exact(List.mem_erase_of_ne et).2 (h2 w (by simp[hw]))
  ·rw[List.length_erase_of_mem hk];simp only[aaS]at h3;omega
def kS:List UInt8:=[107]
def kK:Ky:=(1,kS)
def wx(v:Bd):Bool:= !fp 1 kS v
def bR(bf:List (List UInt8))(ak:List aj):List Bd:=(bf.zip ak).map fun p=>⟨1,p.1,p.2,[],[],[]⟩
def mn(binds:List Bd)(v:Bd):Nat:=(binds.filter (fp v.kind v.var)).length
def kG(all vars:List Bd):Bool:=decide (all.length=vars.length)&&vars.all fun v=>all.any (fp v.kind v.var)
def pZ(binds vars:List Bd):Bool:=vars.all (fun v=> !wx v||decide (mn binds v=1))&&decide ((vars.filter wx).length=binds.length)
theorem sT{l:List Bd}{v:Bd}:l.any (fp v.kind v.var)=true↔key v∈l.map key:=by
 rw[acR,aa8];refine exists_congr fun b=>and_congr Iff.rfl ?_
 rw[kx];rfl
theorem I0(l:List Bd)(v:Bd):mn l v=(l.map key).count (key v):=by
 induction l with
  |nil=>rfl
  |cons b l ih=>
   unfold mn at ih⊢;rw[aaY,List.count_cons,abE,←ih];by_cases h:key b=key v
   ·rw[aaP ((kx _ _ _).2 h),aaP (by simpa using h),aaS]
   ·rw[aaL (fun h2=>h ((kx _ _ _).1 h2)),aaL (by simpa using h)];omega
theorem LY(v:Bd):wx v=true↔key v≠kK:=by rw[wx,abj,←Bool.not_eq_true,kx];rfl
structure QP (bf:List (List UInt8)) (vars:List Bd):Prop where
 nd:(vars.map key).Nodup
 sz:(bf=[]∧kK∉vars.map key)∨(bf=[kS]∧kK∈vars.map key)
theorem LZ{bf:List (List UInt8)}{vars:List Bd}(h:QP bf vars){ak:List aj}(hl:ak.length=bf.length):(bR bf ak).map key=bf.map fun s=>((1:Int),s):=by
 rcases h.sz with⟨rfl,_⟩|⟨rfl,_⟩
 ·rfl
 ·match ak,hl with|[x],_=>rfl
theorem Fi{bf:List (List UInt8)}{vars:List Bd}(h:QP bf vars):(vars.map key).Perm ((bf.map fun s=>((1:Int),s))++(vars.filter wx).map key):=by
 have hf:(vars.filter wx).map key=(vars.map key).filter (fun k=>decide (k≠kK)):=by rw[List.filter_map];congr 1;apply acJ;intro v _;rw[aa_,LY];simp
 rw[hf];rcases h.sz with⟨rfl,hk⟩|⟨rfl,hk⟩
 ·rw[ac5,abV,ab5.2];intro k hm;simp only[aaN];rintro rfl;exact hk hm
 ·have:=List.perm_cons_erase hk;rw[List.Nodup.erase_eq_filter h.nd]at this;refine this.trans ?_;rw[show(fun x:Ky=>x !=kK)=fun x=>decide (x≠kK)from by funext x;rw[aa_];simp];exact adq _
theorem Pn{bf:List (List UInt8)}{vars binds:List Bd}(h:QP bf vars){ak:List aj}(hl:ak.length=bf.length):(kG (binds++bR bf ak) vars=true↔((binds++bR bf ak).map key).Perm (vars.map key))∧(pZ binds vars=true↔((binds++bR bf ak).map key).Perm (vars.map key)):=by
 have Er:=LZ h hl;have QT:=Fi h;constructor
 ·rw[kG,aaD,aaN,aaR];constructor
  ·rintro⟨h1,h2⟩;refine Y3 h.nd (fun k hk=>?_ ) (by rw[aaW,aaW];omega);obtain⟨v,hv,rfl⟩:=aa8.1 hk;exact sT.1 (h2 v hv)
  ·intro hp;refine⟨by simpa using hp.length_eq,fun v hv=>sT.2 (hp.mem_iff.2 (acZ hv))⟩
 ·have Po:((binds++bR bf ak).map key).Perm (vars.map key)↔(binds.map key).Perm ((vars.filter wx).map key):=by
   rw[abW,Er];constructor
   ·intro hp;have:=(List.perm_append_comm.trans hp).trans QT;exact(List.perm_append_left_iff _).1 this
   ·intro hp;exact(List.perm_append_comm.trans ((List.perm_append_left_iff _).2 hp)).trans QT.symm
  rw[Po,pZ,aaD,aaN,aaR];have MW:((vars.filter wx).map key).Nodup:=by have:=(QT.nodup_iff.1 h.nd);exact(adC.1 this).2.1
  constructor
  ·rintro⟨h1,h2⟩;refine Y3 MW (fun k hk=>?_ ) (by rw[aaW,aaW];omega);obtain⟨v,hv,rfl⟩:=aa8.1 hk;obtain⟨VF,yG⟩:=aaZ.1 hv;have:=h1 v VF;rw[yG]at this;simp only[abp,abM,aaN,I0]at this;exact List.count_pos_iff.1 (by omega)
  ·intro hp;refine⟨fun v hv=>?_,by have:=hp.length_eq;simpa using this.symm⟩;cases hn:wx v with
    |false=>rfl
    |true=>simp only[abp,abM,aaN,I0];rw[hp.count_eq];have hm:key v∈(vars.filter wx).map key:=acZ (aaZ.2 ⟨hv,hn⟩);rw[List.Nodup.count MW,aaP hm]
def lQ(s:cl)(bf:List (List UInt8))(vars:List Bd)(ak:List aj)(binds:List Bd):cl×Int:=if ak.length=bf.length∧ak.all aj.ok=true∧kG (binds++bR bf ak) vars=true then iv (br (binds++bR bf ak)) (rb (binds++bR bf ak)) s else(jP,1)
def jQ(s:cl)(bf:List (List UInt8))(vars:List Bd)(ak:List aj)(binds:List Bd):cl×Int:=if ak.length=bf.length∧ak.all aj.ok=true∧pZ binds vars=true then iv (br (bR bf ak++binds)) (rb (bR bf ak++binds)) s else(jP,1)
theorem I1(s:cl){bf:List (List UInt8)}{vars:List Bd}(h:QP bf vars)(ak:List aj)(binds:List Bd):lQ s bf vars ak binds=jQ s bf vars ak binds:=by
 unfold lQ jQ;by_cases hl:ak.length=bf.length
 ·obtain⟨h1,h2⟩:=Pn (binds:=binds) h hl;have he:kG (binds++bR bf ak) vars=pZ binds vars:=by rw[aa_,h1,h2]
  rw[he];by_cases hr:ak.length=bf.length∧ak.all aj.ok=true∧pZ binds vars=true
  ·rw[aaP hr,aaP hr];have hnk:Nk (binds++bR bf ak):=(LX _).2 ((h2.1 hr.2.2).nodup_iff.2 h.nd);rw[Fh hnk,IZ]
  ·rw[aaL hr,aaL hr]
 ·rw[aaL (fun h=>hl h.1),aaL (fun h=>hl h.1)]
end Fw.Tz.Yd
/-
  Equal expressions, shapes and types, by the program and by the reference.
-/
namespace Fw.Tz.Ew
open Go Go.Proofs Fw.X Fw.Tz Fw.Nu Fw.Tz.Sd Fw.Tz.Na Fw.Tz.El Fw.Tz.Va Fw.Tz.Vb Fw.Tz.Eq
variable {W:World}
abbrev vL(x:aj):V:=.agg [.d (.int .i64 x.c),.d (.list (x.ts.map Cf.aa))]
abbrev vS(row:List UInt8)(ah:List aj):V:=.agg [.d (.str row),.d (.list (ah.map aj.aa))]
abbrev vT(t:Ty):V:=.agg [.d (.str t.elem),.d (.str t.row),.d (.list (t.ah.map aj.aa))]
theorem As(x y:Cf):jo [.str,.int] [.d (.str x.var),.d (.int .i64 x.c)] [.d (.str y.var),.d (.int .i64 y.c)]=some (q_ x y):=by
 simp only[jo,eW,yr,aaH,aaP rfl,q_];cases ae x.var y.var with
  |false=>rfl
  |true=>
   simp only[aa2];by_cases h:x.c=y.c
   ·simp[h,jo]
   ·have e:(x.c==y.c)=false:=by simp[h]
    rw[e,aa5 h];simp
def mo:List Cf→List Cf→Option Int|x::l,y::m=>if bytesLess x.var y.var=true∨(ae x.var y.var=true∧x.c<y.c)then some (-1)else if q_ x y=false then some 1 else mo l m|_,_=>none
def sr(a b:aj):Int:=match mo a.ts b.ts with
 |some r=>r
 |none=>if a.ts.length<b.ts.length∨(a.ts.length=b.ts.length∧a.c<b.c)then -1 else if b.ts.length<a.ts.length∨b.c<a.c then 1 else 0
theorem wy:∀{l m:List Cf},mo l m=none→l.length=m.length→l=m
 |[],[],_,_=>rfl
 |[],_::_,_,h=>by simp at h
 |_::_,[],_,h=>by simp at h
 |x::l,y::m,h,hl=>by
  rw[mo]at h;split at h
  ·cases h
  ·split at h
   ·cases h
   ·rename_i h1 h2;rw[(uy x y).1 (by simpa using h2),wy h (by simpa using hl)]
theorem rh:∀(l:List Cf),mo l l=none
 |[]=>rfl
 |x::l=>by
  have h1:bytesLess x.var x.var=false:=by rw[Fw.Tz.jh];simp
  rw[mo,aaL (by rw[h1];simp),aaL (by rw[(uy x x).2 rfl];simp)];exact rh l
theorem DU:∀{l m:List Cf}{r:Int},mo l m=some r→r≠0∧l≠m
 |[],_,r,h=>by simp[mo]at h
 |_::_,[],r,h=>by simp[mo]at h
 |x::l,y::m,r,h=>by
  refine⟨?_,fun e=>by rw[e,rh]at h;cases h⟩;rw[mo]at h;split at h
  ·simp only[aaC]at h;omega
  ·split at h
   ·simp only[aaC]at h;omega
   ·exact(DU h).1
theorem L1(a b:aj):decide (sr a b=0)=lg a b:=by
 rw[aa_,aaN,ra];constructor
 ·intro h;rw[sr]at h;cases hc:mo a.ts b.ts with
   |some r=>rw[hc]at h;exact absurd h (DU hc).1
   |none=>
    rw[hc]at h;simp only at h;split at h
    ·omega
    ·split at h
     ·omega
     ·rename_i h1 h2;have e1:a.ts.length=b.ts.length:=by omega
      have e2:a.c=b.c:=by omega
      have e3:=wy hc e1;cases a;cases b;simp only at e2 e3;rw[e2,e3]
 ·rintro rfl;rw[sr,rh];simp
theorem Pp(hW:W0 W)(a b:aj)(ha:a.ts.length<1099511627776)(hb:b.ts.length<1099511627776):PC P (gl W) 113 [vL a,vL b] (.d (.int .i64 (sr a b))):=by
 refine CG.start S_ Ta rfl ?_;refine s4 hW 8 0 [] 0 [(2,.ptr 0 2 0),(3,.ptr 1 2 0),(4,i0),(5,i0)] [(0,.cells a.ce),(1,.cells b.ce)] ?_;rotate_left;refine CG.bI a.ts (fun i u=>[(2,.ptr 0 2 0),(3,.ptr 1 2 0),(4,i0),(5,.d (.int .i64 (.ofNat i)))]) (fun i u=>[some (.cells a.ce),some (.cells b.ce)]) (fun i u r=>(mo a.ts b.ts=mo r (b.ts.drop i))) () ?_ (au.refl _ _) ?_ ?_
 ·rfl
 ·intro i u hi hd aF;have hn:mo a.ts b.ts=none:=by rw[aF];simp[mo]
  refine s1 hW 2 6 [] 15 [(13,bo (aP (Int.ofNat i) (Int.ofNat (a.ts.map Cf.aa).length)))] ?_;have q0:(aP (Int.ofNat i) (Int.ofNat (a.ts.map Cf.aa).length))=false:=lZ;rw[q0];refine s1 hW 3 0 [false] 15 [] ?_;refine CG.bg (by decide) ?_;refine s1 hW 5 8 [] 7 [(64,bo (aP (Int.ofNat (a.ts.map Cf.aa).length) (Int.ofNat (b.ts.map Cf.aa).length)))] ?_;refine dh (a.ts.map Cf.aa).length (b.ts.map Cf.aa).length (fun kE Am=>?_ ) (fun kE Am=>?_ )<;>simp only[zz]at Am;rw[kE];refine s1 hW 6 0 [true] 0 [(4,io (-1))] ?_;refine CG.rt (io (-1)) ?_;rotate_left;rw[kE];refine s1 hW 0 8 [] 15 [(72,bo (a_ (Int.ofNat (a.ts.map Cf.aa).length) (Int.ofNat (b.ts.map Cf.aa).length)))] ?_;refine iX (a.ts.map Cf.aa).length (b.ts.map Cf.aa).length (fun kF QO=>?_ ) (fun kF QO=>?_ )<;>simp only[zz]at QO;rw[kF];refine s1 hW 2 0 [] 7 [(56,bo (aP a.c b.c))] ?_;refine zD a.c b.c (fun ji DQ=>?_ ) (fun ji DQ=>?_ );refine CG.aD ji k_ ?_;refine s1 hW 3 0 [] 0 [(4,io (-1))] ?_;refine CG.rt (io (-1)) ?_;rotate_left;refine CG.ay ji k_ ?_;refine s1 hW 1 8 [] 7 [(88,bo (aP (Int.ofNat (b.ts.map Cf.aa).length) (Int.ofNat (a.ts.map Cf.aa).length)))] ?_;have o8:(aP (Int.ofNat (b.ts.map Cf.aa).length) (Int.ofNat (a.ts.map Cf.aa).length))=false:=lZ;rw[o8];refine s1 hW 2 0 [] 4 [(80,bo (aP b.c a.c))] ?_;refine zD b.c a.c (fun jN Ng=>?_ ) (fun jN Ng=>?_ );refine CG.aD jN k_ ?_;refine s1 hW 3 0 [] 0 [(4,io 1)] ?_;refine CG.rt (io 1) ?_;rotate_left;refine CG.ay jN k_ ?_;refine s1 hW 6 0 [] 1 [] ?_;refine CG.rt (i0) ?_;rotate_left;rw[kF];refine s1 hW 4 8 [false] 7 [(88,bo (aP (Int.ofNat (b.ts.map Cf.aa).length) (Int.ofNat (a.ts.map Cf.aa).length)))] ?_;have na:(aP (Int.ofNat (b.ts.map Cf.aa).length) (Int.ofNat (a.ts.map Cf.aa).length))=true:=ki;rw[na];refine s1 hW 6 0 [true] 0 [(4,io 1)] ?_;refine CG.rt (io 1) ?_;rotate_left;all_goals (rw[sr,hn];simp only;first|(rw[aaP (by omega)];done)|(rw[aaL (by omega),aaP (by omega)];done)|(rw[aaL (by omega),aaL (by omega)];done))
 ·intro i u x r dZ hx bS aF;by_cases hi:i<b.ts.length
  ·obtain⟨y,hy⟩:∃y,b.ts[i]? =some y:=⟨_,aaG hi⟩;rw[drop_at hy,mo]at aF;refine s1 hW 2 6 [] 15 [(13,bo (aP (Int.ofNat i) (Int.ofNat (a.ts.map Cf.aa).length)))] ?_;have ji:(aP (Int.ofNat i) (Int.ofNat (a.ts.map Cf.aa).length))=true:=ki;rw[ji];refine s1 hW 2 0 [] 15 [(19,bo (aP (Int.ofNat i) (Int.ofNat (b.ts.map Cf.aa).length)))] ?_;refine CG.aD (eC i (b.ts.map Cf.aa).length) k_ ?_;refine s1 hW 5 0 [] 15 [] ?_;refine CG.n8 bG k_ ?_;refine AW.rk 3 [(22,.ptr 0 2 1),(23,lo Cf.aa a.ts),(24,no i)] [] k_ ?_;refine AW.idx (ax (aa:=Cf.aa) hx) rfl k_ k_ k_ rfl ?_;refine AW.rk 4 [(26,.agg [so x.var,io x.c]),(27,.ptr 1 2 1),(28,lo Cf.aa b.ts),(29,no i)] [] k_ ?_;refine AW.idx (ax (aa:=Cf.aa) hy) rfl k_ k_ k_ rfl ?_;refine AW.rk 5 [(6,.ptr 12 2 0),(7,.ptr 13 2 0),(31,.agg [so y.var,io y.c])] [(12,.cells [so x.var,io x.c]),(13,.cells [so y.var,io y.c])] k_ ?_;refine AW.nil rfl ⟨k_,AW.fin 14 [2,3,4,5,6,7] k_ rfl k_ rfl k_ ?_⟩;refine s1 hW 3 6 [] 63 [(38,bo (bytesLess x.var y.var))] ?_;refine sp (bytesLess x.var y.var) (fun o8=>?_ ) (fun o8=>?_ );rw[o8];refine s1 hW 6 0 [true] 11 [(4,io (-1))] ?_;refine CG.e9 (io (-1)) ?_;rotate_left;rw[o8];refine s1 hW 0 6 [] 127 [(44,bo (ae x.var y.var))] ?_;refine sp (ae x.var y.var) (fun jN=>?_ ) (fun jN=>?_ );rw[jN];refine s1 hW 2 0 [] 63 [(32,bo (aP x.c y.c))] ?_;refine zD x.c y.c (fun na p21=>?_ ) (fun na p21=>?_ );refine CG.aD na k_ ?_;refine s1 hW 3 0 [] 11 [(4,io (-1))] ?_;refine CG.e9 (io (-1)) ?_;rotate_left;refine CG.ay na k_ ?_;refine s1 hW 1 2 [] 15 [(53,.agg [so x.var,io x.c]),(54,.agg [so y.var,io y.c])] ?_;rotate_left;rw[jN];refine s1 hW 4 2 [false] 15 [(53,.agg [so x.var,io x.c]),(54,.agg [so y.var,io y.c])] ?_;rotate_left
   ·rw[sr,aF,aaP (.inl (by assumption))]
   ·rw[sr,aF,aaP (.inr ⟨by assumption,by omega⟩)]
   ·have hnl:¬(bytesLess x.var y.var=true∨ae x.var y.var=true∧x.c<y.c):=by
     rintro(h|⟨_,h⟩)
     ·rw[show bytesLess x.var y.var=false by assumption]at h;cases h
     ·omega
    rw[aaL hnl]at aF;refine CG.GD (xs:=[so x.var,io x.c]) (ys:=[so y.var,io y.c]) (r:=(q_ x y)) rfl k_ (As x y) ?_;cases hc:q_ x y with
     |true=>rw[hc,aaL (by simp)]at aF;refine s3 hW 7 3 [false] [(2,.ptr 0 2 0),(3,.ptr 1 2 0),(4,i0),(5,io (aO IntKind.i64 (bl (Int.ofNat i) 1)))] ([some (.cells a.ce),some (.cells b.ce)]++nn 10 ([some (.cells [so x.var,io x.c]),some (.cells [so y.var,io y.c])])) ?_;refine CG.bM rfl ?_;rw[a6 (by omega)];rotate_left;exact⟨(),aF,au.trim 2 [2,3,4,5] rfl rfl rfl rfl rfl⟩
     |false=>rw[hc,aaP rfl]at aF;refine s1 hW 6 0 [true] 11 [(4,io 1)] ?_;refine CG.e9 (io 1) ?_;rotate_left;rw[sr,aF]
   ·have hc:q_ x y=false:=by rw[q_,show ae x.var y.var=false by assumption];rfl
    rw[hc,aaL (by rw[show bytesLess x.var y.var=false by assumption,show ae x.var y.var=false by assumption];simp),aaP rfl]at aF;refine CG.GD (xs:=[so x.var,io x.c]) (ys:=[so y.var,io y.c]) (r:=(q_ x y)) rfl k_ (As x y) ?_;refine s1 hW 2 0 [] 15 [(52,bo (!q_ x y))] ?_;refine CG.aD (b:=(!q_ x y)) (by rw[hc];rfl) k_ ?_;refine s1 hW 3 0 [] 11 [(4,io 1)] ?_;refine CG.e9 (io 1) ?_;rotate_left;rw[sr,aF]
  ·have hn:mo a.ts b.ts=none:=by rw[aF,adg (by omega)];simp[mo]
   refine s1 hW 2 6 [] 15 [(13,bo (aP (Int.ofNat i) (Int.ofNat (a.ts.map Cf.aa).length)))] ?_;have kF:(aP (Int.ofNat i) (Int.ofNat (a.ts.map Cf.aa).length))=true:=ki;rw[kF];refine s1 hW 2 0 [] 15 [(19,bo (aP (Int.ofNat i) (Int.ofNat (b.ts.map Cf.aa).length)))] ?_;refine CG.ay (fw i (b.ts.map Cf.aa).length) k_ ?_;refine CG.bg (by decide) ?_;refine s1 hW 5 8 [] 7 [(64,bo (aP (Int.ofNat (a.ts.map Cf.aa).length) (Int.ofNat (b.ts.map Cf.aa).length)))] ?_;have ji:(aP (Int.ofNat (a.ts.map Cf.aa).length) (Int.ofNat (b.ts.map Cf.aa).length))=false:=lZ;rw[ji];refine s1 hW 0 8 [] 15 [(72,bo (a_ (Int.ofNat (a.ts.map Cf.aa).length) (Int.ofNat (b.ts.map Cf.aa).length)))] ?_;have o8:(a_ (Int.ofNat (a.ts.map Cf.aa).length) (Int.ofNat (b.ts.map Cf.aa).length))=false:=mr;rw[o8];refine s1 hW 4 8 [false] 7 [(88,bo (aP (Int.ofNat (b.ts.map Cf.aa).length) (Int.ofNat (a.ts.map Cf.aa).length)))] ?_;have jN:(aP (Int.ofNat (b.ts.map Cf.aa).length) (Int.ofNat (a.ts.map Cf.aa).length))=true:=ki;rw[jN];refine s1 hW 6 0 [true] 0 [(4,io 1)] ?_;refine CG.rt (io 1) ?_;rotate_left;all_goals (rw[sr,hn];simp only;first|(rw[aaP (by omega)];done)|(rw[aaL (by omega),aaP (by omega)];done)|(rw[aaL (by omega),aaL (by omega)];done))
theorem DV(hW:W0 W)(a b:aj)(ha:a.ts.length<1099511627776)(hb:b.ts.length<1099511627776):PC P (gl W) 56 [vL a,vL b] (.d (.bool (lg a b))):=by refine CG.start X8 X9 rfl ?_;refine s4 hW 4 2 [] 0 [(4,bF),(5,.agg a.ce),(6,.agg b.ce)] [(0,.cells a.ce),(1,.cells b.ce)] ?_;refine CG.pg (Pp hW a b ha hb) rfl k_ ?_;refine s1 hW 2 0 [] 0 [(4,bo (a_ (sr a b) 0))] ?_;refine CG.rt (bo (a_ (sr a b) 0)) ?_;rotate_left;rw[←L1,kB,V.d.injEq,D.bool.injEq,aa_];simp
def Kn(l:List aj):Prop:=l.length<1099511627776∧∀x∈l,x.ts.length<1099511627776
theorem Pq(hW:W0 W)(r1 r2:List UInt8)(d1 d2:List aj)(h1:Kn d1)(h2:Kn d2):PC P (gl W) 20 [vS r1 d1,vS r2 d2] (.d (.bool (vh r1 d1 r2 d2))):=by
 refine CG.start XN XO rfl ?_;have Vd:=h1.1;have L2:=h2.1;refine s4 hW 5 6 [] 0 [(2,.ptr 0 2 0),(3,.ptr 1 2 0),(4,bF),(11,bo (!ae r1 r2))] [(0,.cells [so r1,lo aj.aa d1]),(1,.cells [so r2,lo aj.aa d2])] ?_;refine sp (ae r1 r2) (fun qZ=>?_ ) (fun qZ=>?_ );rw[qZ];refine s1 hW 2 0 [] 7 [(19,bo (!a_ (Int.ofNat (d1.map aj.aa).length) (Int.ofNat (d2.map aj.aa).length)))] ?_;refine iX (d1.map aj.aa).length (d2.map aj.aa).length (fun q0 Km=>?_ ) (fun q0 Km=>?_ )<;>simp only[zz]at Km;refine CG.ay (b:=(!a_ (Int.ofNat (d1.map aj.aa).length) (Int.ofNat (d2.map aj.aa).length))) (by rw[q0];rfl) k_ ?_;refine s1 hW 7 0 [] 7 [(5,i0)] ?_;rotate_left;refine CG.aD (b:=(!a_ (Int.ofNat (d1.map aj.aa).length) (Int.ofNat (d2.map aj.aa).length))) (by rw[q0];rfl) k_ ?_;refine s1 hW 3 0 [] 7 [] ?_;refine CG.rt (bF) ?_;rotate_left;rw[qZ];refine s1 hW 6 0 [true] 7 [] ?_;refine CG.rt (bF) ?_;rotate_left
 ·refine CG.bI d1 (fun i u=>[(2,.ptr 0 2 0),(3,.ptr 1 2 0),(4,bF),(5,.d (.int .i64 (.ofNat i)))]) (fun i u=>[some (.cells [so r1,lo aj.aa d1]),some (.cells [so r2,lo aj.aa d2])]) (fun i u r=>(DR lg d1 d2=DR lg r (d2.drop i))) () ?_ (au.refl _ _) ?_ ?_
  ·rfl
  ·intro i u hi hd aF;rw[adg (by omega),DR]at aF;refine s1 hW 4 0 [] 15 [(24,bo (aP (Int.ofNat i) (Int.ofNat (d1.map aj.aa).length)))] ?_;refine CG.ay (fw i (d1.map aj.aa).length) k_ ?_;refine CG.bg (by decide) ?_;refine s1 hW 5 0 [] 0 [(4,bT)] ?_;refine CG.rt (bT) ?_;rotate_left;rw[vh,aF,show ae r1 r2=true by assumption];rfl
  ·intro i u x r dZ hx bS aF;obtain⟨y,hy⟩:∃y,d2[i]? =some y:=⟨_,aaG (by omega)⟩;have Eh:=h1.2 x (aaO hx);have GX:=h2.2 y (aaO hy);rw[drop_at hy,DR]at aF;refine s1 hW 4 0 [] 15 [(24,bo (aP (Int.ofNat i) (Int.ofNat (d1.map aj.aa).length)))] ?_;refine CG.aD (eC i (d1.map aj.aa).length) k_ ?_;refine s1 hW 5 0 [] 15 [] ?_;refine CG.gF bG k_ k_ ?_;refine AO.rd 3 [(27,.ptr 0 2 1),(28,lo aj.aa d1),(29,no i)] k_ ?_;refine AO.idx (ax (aa:=aj.aa) hx) rfl k_ k_ k_ rfl ?_;refine AO.rd 4 [(31,.agg x.ce),(32,.ptr 1 2 1),(33,lo aj.aa d2),(34,no i)] k_ ?_;refine AO.idx (ax (aa:=aj.aa) hy) rfl k_ k_ k_ rfl ?_;refine AO.rd 1 [(36,.agg y.ce)] k_ ?_;refine AO.kL (DV hW x y Eh GX) rfl k_ k_ ?_;refine AO.rd 1 [(38,bo (!lg x y))] k_ ?_;refine AO.done [2,3,4,5,38] rfl rfl k_ ?_;refine s1 hW 1 0 [] 31 [] ?_;refine sp (lg x y) (fun LO=>?_ ) (fun LO=>?_ );refine CG.ay (b:=(!lg x y)) (by rw[LO];rfl) k_ ?_;refine s3 hW 3 3 [] [(2,.ptr 0 2 0),(3,.ptr 1 2 0),(4,bF),(5,io (aO IntKind.i64 (bl (Int.ofNat i) 1)))] ([some (.cells [so r1,lo aj.aa d1]),some (.cells [so r2,lo aj.aa d2])]) ?_;refine CG.bM rfl ?_;rw[a6 (by omega)];rotate_left;refine CG.aD (b:=(!lg x y)) (by rw[LO];rfl) k_ ?_;refine s1 hW 3 0 [] 15 [] ?_;refine CG.e9 (bF) ?_;rotate_left
   ·exact⟨(),by rw[aF,show lg x y=true by assumption];rfl,au.refl _ _⟩
   ·rw[vh,aF,show lg x y=false by assumption];simp
 ·rw[vh,DS (by omega),abH]
 ·rw[vh,show ae r1 r2=false by assumption,abi]
theorem ux(hW:W0 W)(a b:Ty)(h1:Kn a.ah)(h2:Kn b.ah):PC P (gl W) 65 [vT a,vT b] (.d (.bool (Fe a b))):=by
 refine CG.start X' X_ rfl ?_;refine s4 hW 4 6 [] 0 [(2,.ptr 0 3 0),(3,.ptr 1 3 0),(4,bF),(10,bo (ae a.elem b.elem))] [(0,.cells a.ce),(1,.cells b.ce)] ?_;refine sp (ae a.elem b.elem) (fun q7=>?_ ) (fun q7=>?_ );rw[q7];refine s1 hW 0 4 [] 12 [(12,.agg [so a.row,lo aj.aa a.ah]),(14,.agg [so b.row,lo aj.aa b.ah])] ?_;refine CG.pg (Pq hW a.row b.row a.ah b.ah h1 h2) rfl k_ ?_;refine s1 hW 2 0 [] 0 [(4,bo (vh a.row a.ah b.row b.ah))] ?_;refine CG.rt (bo (vh a.row a.ah b.row b.ah)) ?_;rotate_left;rw[q7];refine s1 hW 2 0 [] 4 [] ?_;refine CG.rt (bF) ?_;rotate_left
 ·rw[Fe,show ae a.elem b.elem=true by assumption,aa2]
 ·rw[Fe,show ae a.elem b.elem=false by assumption,abi]
end Fw.Tz.Ew
