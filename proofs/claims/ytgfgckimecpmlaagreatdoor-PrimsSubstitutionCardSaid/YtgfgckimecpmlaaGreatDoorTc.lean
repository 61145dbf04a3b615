/-
  What a run of closed calls leans on: the library's functions, the sums, the sort; all as tables that reckon.
-/
import Derived.Test.YtgfgckimecpmlaaGreatDoorTb
import Derived.Test.YtgfgckimecpmlaaGreatDoorFf
set_option linter.unusedSimpArgs false
set_option maxRecDepth 100000
set_option linter.unusedVariables false
namespace Fw.Tz
open Go Go.Proofs Fw.X
variable {W:World}
theorem jc:∀(x y:List UInt8),Fw.bytesLess x y=decide (x<y)
 |x,[]=>by
  cases x with
   |nil=>rfl
   |cons a x=>simp[Fw.bytesLess]
 |[],b::y=>by simp[Fw.bytesLess]
 |a::x,b::y=>by
  simp only[Fw.bytesLess,jc x y];simp only[List.cons_lt_cons_iff];by_cases h1:a.toNat<b.toNat
  ·have e1:Nat.blt a.toNat b.toNat=true:=by simpa[aas]using h1
   have:a<b:=by simpa[aci]using h1
   simp[e1,this]
  ·have e1:Nat.blt a.toNat b.toNat=false:=by
    cases hb:Nat.blt a.toNat b.toNat
    ·rfl
    ·rw[aas]at hb;exact absurd hb h1
   have hn:¬a<b:=by simpa[aci]using h1
   rw[e1,aaw];by_cases h2:a=b
   ·subst h2;simp[hn]
   ·have:Nat.beq a.toNat b.toNat=false:=cw (fun e=>h2 (ab'.1 e));simp[this,hn,h2]
def BB(x:List UInt8):List (List UInt8)→List (List UInt8)|[]=>[x]|y::l=>bif Fw.bytesLess y x then y::BB x l else x::y::l
def rn:List (List UInt8)→List (List UInt8)|[]=>[]|x::l=>BB x (rn l)
theorem qE(x:List UInt8):∀(l:List (List UInt8)),(BB x l).Perm (x::l)
 |[]=>List.Perm.refl _
 |y::l=>by
  simp only[BB];cases Fw.bytesLess y x with
   |true=>exact((qE x l).cons y).trans (List.Perm.swap x y l)
   |false=>exact List.Perm.refl _
theorem tL:∀(l:List (List UInt8)),(rn l).Perm l|[]=>List.Perm.refl _|x::l=>(qE x (rn l)).trans ((tL l).cons x)
theorem rp(x:List UInt8):∀{l:List (List UInt8)},l.Pairwise (fun a b=>decide (a≤b)=true)→(BB x l).Pairwise (fun a b=>decide (a≤b)=true)
 |[],_=>by simp[BB]
 |y::l,h=>by
  simp only[BB,jc];obtain⟨h1,h2⟩:=abn.1 h;by_cases bL:y<x
  ·simp only[bL,decide_true,aag];refine abn.2 ⟨fun z hz=>?_,rp x h2⟩;rcases aaH.1 ((qE x l).mem_iff.1 hz)with rfl|hz
   ·simpa using List.le_of_lt bL
   ·exact h1 z hz
  ·simp only[bL,ac9,aaw];have F3:x≤y:=acX.1 bL;refine abn.2 ⟨fun z hz=>?_,h⟩;rcases aaH.1 hz with rfl|hz
   ·simpa using F3
   ·have:=h1 z hz;simp only[aam]at this⊢;exact ac2 F3 this
theorem py:∀(l:List (List UInt8)),(rn l).Pairwise (fun a b=>decide (a≤b)=true)|[]=>List.Pairwise.nil|x::l=>rp x (py l)
theorem zO(l:List (List UInt8)):du l=rn l:=by
 have Ph:∀(x y:List UInt8),(decide (x≤y)||decide (y≤x))=true:=fun x y=>by rcases ac1 x y with h|h<;>simp[h]
 have Pj:∀(x y z:List UInt8),decide (x≤y)=true→decide (y≤z)=true→decide (x≤z)=true:=fun x y z h1 h2=>by simp only[aam]at*;exact ac2 h1 h2
 refine acC (le:=fun x y=>decide (x≤y)=true) (fun x y _ _ h1 h2=>?_ ) (ab7 Pj Ph l) (py l) ?_
 ·simp only[aam]at h1 h2;exact ab3 h1 h2
 ·exact(ab6 l _).trans (tL l).symm
def Km(k:List UInt8):Es→Int|[]=>0|(a,c)::l=>bif Fw.ai a k then c else Km k l
theorem Kn(es:Es)(k:List UInt8):Km k es=bm es k:=by
 induction es with
  |nil=>rfl
  |cons e es ih=>
   obtain⟨a,c⟩:=e;simp only[Km,bm,acT,cS]at ih⊢;cases h:(a==k)with
    |true=>simp
    |false=>simpa using ih
def zP:Es→List (List UInt8)
 |[]=>[]
 |(a,c)::l=>
  match c with
   | .ofNat 0=>zP l
   |_=>a::zP l
theorem tM:∀(es:Es),zP es=bY es
 |[]=>rfl
 |(a,c)::l=>by
  simp only[zP];split
  ·rw[tM l];simp[bY]
  ·rename_i h;have:c≠0:=fun e=>h (by rw[e];rfl)
   rw[tM l];simp[bY,this]
def gH(es:Es):Es:=(rn (zP es)).map fun k=>(k,Km k es)
theorem CA(es:Es):gH es=ba es:=by simp only[gH,ba,zO,tM,Kn]
def Hv:List (D×V)→Option Es
 |[]=>some []
 |(.str k,.d (.int .i64 c))::l=>
  match Hv l with
   |some es=>some ((k,c)::es)
   |none=>none
 |_=>none
theorem CX:∀{l:List (D×V)}{es:Es},Hv l=some es→l=cX es
 |[],es,h=>by simp only[Hv,aab]at h;subst h;rfl
 |(k,v)::l,es,h=>by
  unfold Hv at h;split at h
  ·rename_i e;cases e
  ·rename_i a c l' heq;split at h
   ·rename_i OI wK;simp only[aab]at h;subst h;simp only[acz,aae]at heq;obtain⟨⟨rfl,rfl⟩,rfl⟩:=heq;have:=CX wK;simp[cX]at this⊢;exact this
   ·cases h
  ·cases h
def tN:List V→Option (List (List UInt8))
 |[]=>some []
 | .d (.str s)::l=>
  match tN l with
   |some ss=>some (s::ss)
   |none=>none
 |_=>none
theorem vM:∀{l:List V}{ss:List (List UInt8)},tN l=some ss→l=ss.map eC
 |[],ss,h=>by simp only[tN,aab]at h;subst h;rfl
 |v::l,ss,h=>by
  unfold tN at h;split at h
  ·rename_i e;cases e
  ·rename_i s l' heq;split at h
   ·rename_i Z1 wK;simp only[aab]at h;subst h;simp only[acz]at heq;obtain⟨rfl,rfl⟩:=heq;have:=vM wK;simp[eC]at this⊢;exact this
   ·cases h
  ·cases h
def Hw(aw:aT)(args:List V)(H:ah):Option (V×ah):=match args with
 |[.ptr b h off]=>
  match aA H b with
   |some (.cells cs)=>
    match cs[off]? with
     |some (.d (.int .i64 n))=>
      match cs[off+1]? with
       |some (.map m)=>
        match aA H m with
         |some (.map l)=>
          match Hv l with
           |some es=>
            bif Nat.beq cs.length h&& !(Nat.beq b m)&&ak 0 (cs.set (off+1) .ab)&&cs.all dE&&Nat.ble es.length 1048576 then
             match aw 89 [oK n (gH es)]with
              |some (.d (.bool ok))=>some (bif ok then .tuple [tG n (gH es),.d (.int .i64 0)]else .tuple [tG 0 [],.d (.int .i64 3)],H)
              |_=>none else none
           |none=>none
         |_=>none
       |_=>none
     |_=>none
   |_=>none
 |_=>none
def Hx(args:List V)(H:ah):Option (V×ah):=match args with
 |[.sl b h off len sz]=>
  match aA H b with
   |some (.cells cs)=>
    match tN cs with
     |some ss=>bif Nat.beq off 0&&Nat.beq sz 1&&Nat.beq len h&&Nat.beq h ss.length&&Nat.ble ss.length 1048576 then some (.tuple [],bj H b (.cells ((rn ss).map eC)))else none
     |none=>none
   |_=>none
 |_=>none
def Hy(args:List V)(H:ah):Option (V×ah):=match args,H with
 |[.ab,.d (.int .i64 (.ofNat n))],[]=>bif Nat.ble n 1048576 then some (xD n,xE n)else none
 |_,_=>none
theorem nv{H:ah}{b:Nat}{y:dU}(h:aA H b=some y):bj H b y=H:=by
 induction H generalizing b with
  |nil=>simp[aA]at h
  |cons x H ih=>
   cases b with
    |zero=>simp only[aA]at h;simp[bj,h]
    |succ b=>simp only[aA]at h;simp[bj,ih h]
theorem zQ{S:List Nat}:∀{cs:List V}{i:Nat}{v:V},ak 0 (cs.set i .ab)=true→i<cs.length→eX S (cs.set i v)=cs.set i (dt S v)
 |c::cs,0,v,h,_=>by simp only[ab8,ak,aac]at h⊢;simp only[eX,et h.2]
 |c::cs,i+1,v,h,hi=>by simp only[abR,ak,aac]at h⊢;simp only[eX,kH h.1,zQ h.2 (by simpa using hi)]
 |[],_,_,_,hi=>by simp at hi
theorem tO{m:Nat}:∀{cs:List V}{i:Nat}{v:V},ak 0 (cs.set i .ab)=true→an m v=true→ak m (cs.set i v)=true
 |c::cs,0,v,h,hv=>by simp only[ab8,ak,aac]at h⊢;exact⟨hv,bC (abK _) h.2⟩
 |c::cs,i+1,v,h,hv=>by simp only[abR,ak,aac]at h⊢;exact⟨iy (abK _) h.1,tO h.2 hv⟩
 |[],_,_,_,_=>rfl
theorem Ko{cs:List V}{i:Nat}{v:V}(h:cs.all dE=true)(hv:dE v=true):(cs.set i v).all dE=true:=by
 rw[aaq]at h⊢;intro x hx;rcases abZ hx with h1|rfl
 ·exact h x h1
 ·exact hv
theorem Hz{aw:aT}(hp:bt P (gl W) aw){args:List V}{H:ah}{v:V}{H':ah}(h:Hw aw args H=some (v,H')):WF P (gl W) 206 args H (fun r k=>r=v∧H'=k):=by
 unfold Hw at h;split at h
 ·rename_i b hh off;split at h
  ·rename_i cs hb;split at h
   ·rename_i n hn;split at h
    ·rename_i m hm;split at h
     ·rename_i l hl;split at h
      ·rename_i es wK;obtain rfl:=CX wK;cases hc:(Nat.beq cs.length hh&& !(Nat.beq b m)&&ak 0 (cs.set (off+1) .ab)&&cs.all dE&&Nat.ble es.length 1048576)with
        |false=>rw[hc]at h;cases h
        |true=>
         rw[hc]at h;simp only[aag]at h;simp only[aac,aaU]at hc;obtain⟨⟨⟨⟨c1,c2⟩,c3⟩,c4⟩,c5⟩:=hc;have d1:=aah c1;have d2:b≠m:=by rintro rfl;simp at c2
         have d5:=aak c5;split at h
         ·rename_i ok eF;have hv:=hp _ _ _ eF;rw[CA]at hv h;have bL:off+1<cs.length:=(aai.1 hm).1;have gR:cs.set (off+1) (.map m)=cs:=by
           apply ac5;intro i;rw[List.getElem?_set];split
           ·rename_i hi;subst hi;rw[hm]
           ·rfl
          have hw:=Q7 (W:=W) (cs:=cs.set (off+1) (.map 1)) (h:=hh) (off:=off) (n:=n) (es:=es) (ok:=ok) (by simpa using d1) (by rw[List.getElem?_set_ne (by omega)];exact hn) (by rw[acK bL]) (tO c3 (by simp[an,iw])) (Ko c4 rfl) (by omega) hv;have NV:eX [b,m] (cs.set (off+1) (.map 1))=cs:=by rw[zQ c3 bL];exact gR
          have MV:aG 2 [some (.cells (cs.set (off+1) (.map 1))),some (.map (cX es))]=true:=by simp[aG,cu,tO c3 (show an 2 (.map 1)=true by simp[an,iw]),cX,aaP,an]
          have sI:cy [b,m] (.map (cX es))=.map (cX es):=by simp[cy,cX,aaP,dt]
          refine(WF.frame [b,m] hw (by simpa using d2) rfl (by simp[ak,an,iw]) MV (H:=H) (Q:=fun r k=>r=v∧H'=k) ?_ ?_ )
          ·intro i hi;have:i=0∨i=1:=by simp at hi;omega
           rcases this with rfl|rfl
           ·exact⟨_,rfl,by simp only[cy,NV];exact hb⟩
           ·exact⟨_,rfl,by rw[sI];exact hl⟩
          ·rintro r H2 ⟨rfl,rfl⟩;have sR:an 0 (jb n es ok)=true:=by unfold jb tG;cases ok<;>simp[an,ak]<;>(split<;>rfl)
           refine⟨rfl,iy (abK _) sR,MV,?_⟩;rw[kH sR];cases ok with
            |true=>simp only[aag,aab,aae]at h;refine⟨by rw[←h.1];rfl,?_ ⟩;rw[←h.2];simp only[d_,aA,cy,NV];rw[nv hb];have:=nv hl;simp only[cy]at sI;rw[sI,this]
            |false=>simp only[aaw,aab,aae]at h;refine⟨by rw[←h.1];rfl,?_ ⟩;rw[←h.2];simp only[d_,aA,cy,NV];rw[nv hb];have:=nv hl;simp only[cy]at sI;rw[sI,this]
         ·cases h
      ·cases h
     ·cases h
    ·cases h
   ·cases h
  ·cases h
 ·cases h
theorem HA{args:List V}{H:ah}{v:V}{H':ah}(h:Hx args H=some (v,H')):WF P (gl W) 104 args H (fun r k=>r=v∧k=H'):=by
 unfold Hx at h;split at h
 ·rename_i b hh off len sz;split at h
  ·rename_i cs hb;split at h
   ·rename_i ss VI;obtain rfl:=vM VI;cases hc:(Nat.beq off 0&&Nat.beq sz 1&&Nat.beq len hh&&Nat.beq hh ss.length&&Nat.ble ss.length 1048576)with
     |false=>rw[hc]at h;cases h
     |true=>
      rw[hc]at h;simp only[aag,aab,aae]at h;simp only[aac]at hc;obtain⟨⟨⟨⟨c1,c2⟩,c3⟩,c4⟩,c5⟩:=hc;obtain rfl:=aah c1;obtain rfl:=aah c2;obtain rfl:=aah c3;obtain rfl:=aah c4;have d5:=aak c5;obtain⟨rfl,rfl⟩:=h;have:=WF.frame [b] (QS (W:=W) ss (by omega)) (by simp) rfl (by simp[ak,an,iw]) (by simp[aG,cu,cg]) (H:=H) (Q:=fun r k=>r=.tuple []∧k=bj H b (.cells ((rn ss).map eC))) ?_ ?_
      ·exact this
      ·intro i hi;obtain rfl:i=0:=by simp at hi;exact hi
       refine⟨_,rfl,?_⟩;simp only[cy,et (cg 0 _)];exact hb
      ·rintro r H2 ⟨rfl,rfl⟩;refine⟨rfl,by simp[an,ak],by simp[aG,cu,cg],by simp[dt,eX],?_ ⟩;simp only[d_,aA,cy,et (cg 0 _),zO]
   ·cases h
  ·cases h
 ·cases h
theorem HB{args:List V}{H:ah}{v:V}{H':ah}(h:Hy args H=some (v,H')):WF P (gl W) 118 args H (fun r k=>r=v∧k=H'):=by
 unfold Hy at h;split at h
 ·rename_i n;cases hc:Nat.ble n 1048576 with
   |false=>rw[hc]at h;cases h
   |true=>rw[hc]at h;simp only[aag,aab,aae]at h;obtain⟨rfl,rfl⟩:=h;have:=aak hc;exact VF n (by omega)
 ·cases h
def pz:List (List D)→Option (List (List UInt8))
 |[]=>some []
 |[.str s]::l=>
  match pz l with
   |some ss=>some (s::ss)
   |none=>none
 |_=>none
theorem tP:∀{l:List (List D)}{ss:List (List UInt8)},pz l=some ss→D.list l=di ss
 |[],ss,h=>by simp only[pz,aab]at h;subst h;rfl
 |v::l,ss,h=>by
  unfold pz at h;split at h
  ·rename_i e;cases e
  ·rename_i s l' heq;split at h
   ·rename_i Z1 wK;simp only[aab]at h;subst h;simp only[acz]at heq;obtain⟨rfl,rfl⟩:=heq;have:=tP wK;simp[di]at this⊢;exact this
   ·cases h
  ·cases h
def Kp:MS:=[(172,fun args=>match args with|[.d (.str s),.d (.str p)]=>some (.d (.bool (Lib.hasPrefix s p)))|_=>none),(275,fun args=>match args with|[.d (.str s),.d (.str p)]=>bif Nat.ble s.length 1048576 then some (.d (.str (Lib.trimSuffix s p)))else none|_=>none),(161,fun args=>match args with|[.d (.str s),.d (.str p)]=>some (.tuple [.d (.str (Lib.trimPrefix s p)),.d (.bool (Lib.hasPrefix s p))])|_=>none),(235,fun args=>match args with|[.d (.str s),.d (.str p)]=>bif Nat.ble s.length 1048576 then some (.tuple [.d (.str (Lib.trimSuffix s p)),.d (.bool (Lib.hasSuffix s p))])else none|_=>none),(167,fun args=>match args with|[.d (.str s),.d (.int .u8 c)]=>some (.d (.int .i64 (Lib.indexByte s c.toNat.toUInt8)))|_=>none),(160,fun args=>match args with|[.d (.str s),.d (.str p)]=>bif Nat.ble s.length 1048576 then some (.tuple [.d (.str (Lib.cut s p).1),.d (.str (Lib.cut s p).2.1),.d (.bool (Lib.cut s p).2.2)])else none|_=>none),(163,fun args=>match args with|[.d (.str s),.d (.str p)]=>bif Nat.ble s.length 1048576&&Nat.ble 1 p.length then some (.d (di (Lib.split s p)))else none|_=>none),(273,fun args=>match args with|[.ab,.d (.str _)]=>some (.d (.str []))|[.d (.list l),.d (.str p)]=>(match pz l with|some ss=>bif Nat.ble ss.length 1048576&&Nat.ble (Lib.join ss p).length 1048576 then some (.d (.str (Lib.join ss p)))else none|none=>none)|_=>none),(271,fun args=>match args with|[.d (.str s),.d (.str [c])]=>bif Nat.blt c.toNat 128 then some (.d (.str (Lib.trimLeftB s c)))else none|_=>none),(107,fun args=>match args with|[.d (.int .i64 (.ofNat n))]=>bif Nat.ble n 1048576 then some (.d (.str (Lib.itoa (.ofNat n))))else none|[.d (.int .i64 (.negSucc n))]=>bif Nat.ble n 1048576 then some (.d (.str (Lib.itoa (.negSucc n))))else none|_=>none),(173,fun args=>match args with|[.d (.str s)]=>bif Nat.ble s.length 1048576 then some (CT s)else none|_=>none),(170,fun args=>match args with|[.d (.list [])]=>some (.d (.list []))|_=>none)]
theorem gx{c:Bool}{α:Type}{a b:α}(h:(bif c then some a else none)=some b):c=true∧a=b:=by
 cases c with
  |true=>simp at h;exact⟨rfl,h⟩
  |false=>simp at h
theorem CY(hW:W0 W):bt P (gl W) (pr Kp):=by
 refine PZ fun p hp args v h=>?_
 simp only[Kp,aaH,acN,or_false]at hp;rcases hp with rfl|rfl|rfl|rfl|rfl|rfl|rfl|rfl|rfl|rfl|rfl|rfl<;>simp only at h⊢ <;>(try split at h)<;>(try (cases h;done))
 ·simp only[aab]at h;subst h;exact zI _ _
 ·obtain⟨c,rfl⟩:=gx h;exact xy _ _ (by have:=aak c;omega)
 ·simp only[aab]at h;subst h;exact zJ _ _
 ·obtain⟨c,rfl⟩:=gx h;exact zK _ _ (by have:=aak c;omega)
 ·simp only[aab]at h;subst h;exact zL _ _
 ·obtain⟨c,rfl⟩:=gx h;exact QR hW _ _ (by have:=aak c;omega)
 ·obtain⟨c,rfl⟩:=gx h;simp only[aac]at c;exact Kd hW _ _ (by have:=aak c.1;omega) (aak c.2)
 ·simp only[aab]at h;subst h;exact Ke _
 ·split at h
  ·rename_i ss VI;obtain⟨c,rfl⟩:=gx h;simp only[aac]at c;rw[tP VI];exact NM _ _ (by have:=aak c.1;omega) (by have:=aak c.2;omega)
  ·cases h
 ·obtain⟨c,rfl⟩:=gx h;exact Bv _ _ (by rwa[aas]at c)
 ·obtain⟨c,rfl⟩:=gx h;have:=aak c;exact Bw hW _ (by first|omega|(simp;done)|(simp;omega)) (by first|omega|(simp;done)|(simp;omega))
 ·obtain⟨c,rfl⟩:=gx h;have:=aak c;exact Bw hW _ (by omega) (by omega)
 ·obtain⟨c,rfl⟩:=gx h;exact Hr hW _ (by have:=aak c;omega)
 ·simp only[aab]at h;subst h;exact vK
def YO:List FuncId:=[165,89,59,51,143,273,172,275,161,235,42,97,108,232]
def HC(f:FuncId):List FuncId→Bool|[]=>false|x::l=>bif Nat.beq x f then true else HC f l
def VJ(aw:aT)(f:FuncId)(args:List V)(H:ah):Option (V×ah):=bif HC f YO&& !(ak 0 args)then
 match bJ (mi H) args with
  |some d=>
   match aw f d with
    |some v=>bif yU v then some (v,H)else none
    |none=>none
  |none=>none else none
theorem NW{aw:aT}(hp:bt P (gl W) aw){f:FuncId}{args:List V}{H:ah}{v:V}{H':ah}(h:VJ aw f args H=some (v,H')):WF P (gl W) f args H (fun r k=>r=v∧k=H'):=by
 unfold VJ at h;cases hr:(HC f YO&& !(ak 0 args))with
  |false=>rw[hr]at h;cases h
  |true=>
   rw[hr]at h;simp only[aag]at h;split at h
   ·rename_i d hd;split at h
    ·rename_i x hx;cases hs:yU x with
      |false=>rw[hs]at h;cases h
      |true=>rw[hs]at h;simp only[aag,aab,aae]at h;obtain⟨rfl,rfl⟩:=h;exact WF.borrow hd (hp _ _ _ hx) hs ⟨rfl,rfl⟩
    ·cases h
   ·cases h
def YP:List FuncId:=[94,203,149,150,175,110,48]
def Z2:V→Option Nat| .sl b _ _ _ _=>some b|_=>none
def VL:V→Option Nat| .sl b _ _ _ _=>some b| .agg cs=>cs.findSome? Z2|_=>none
def pA:Nat→List V→ah→Option (List V×ah)
 |0,_,_=>none
 |n+1,args,H=>
  match args.findSome? VL with
   |none=>some (args,H)
   |some b=>
    match rD H b with
     |some ds=>bif (eU b ds 0 H).all fk then pA n (gG b ds args) (eU b ds 0 H)else none
     |none=>none
def VM(aw:aT)(f:FuncId)(args:List V)(H:ah):Option (V×ah):=bif HC f YP&& !(ak 0 args)then
 match pA 9 args H with
  |some (a,H')=>
   match aw f a with
    |some v=>some (v,H')
    |none=>none
  |none=>none else none
theorem WF.D_{f:FuncId}{args:List V}{H:ah}{Q:V→ah→Prop}{b:Nat}{ds:List D}{GL:ca}(hb:rD H b=some ds)(eF:(eU b ds 0 H).all fk=true)(h:WF P GL f (gG b ds args) (eU b ds 0 H) Q):WF P GL f args H Q:=by refine⟨h.1,fun g w vs dI hh hg=>?_ ⟩;have he:ch g w (g.del b) w:=ch.nL g w (ch.refl _ _);refine(h.2 (g.del b) w vs (aP.nL (Gk hh hb) _ _ dI) (hh.nL hb eF) (hg.ext he)).mono ?_;rintro e w' ⟨x,v,g',H',rfl,hq,hx,pZ,Tw⟩;exact⟨x,v,g',H',rfl,hq,hx,pZ,he.trans Tw⟩
theorem tQ{f:FuncId}{Q:V→ah→Prop}{GL:ca}:∀{n:Nat}{args:List V}{H:ah}{a:List V}{H':ah},pA n args H=some (a,H')→WF P GL f a H' Q→WF P GL f args H Q
 |0,_,_,_,_,h,_=>by simp[pA]at h
 |n+1,args,H,a,H',h,hw=>by
  simp only[pA]at h;split at h
  ·simp only[aab,aae]at h;obtain⟨rfl,rfl⟩:=h;exact hw
  ·rename_i b _;split at h
   ·rename_i ds Lm;cases eF:(eU b ds 0 H).all fk with
     |false=>rw[eF]at h;cases h
     |true=>rw[eF]at h;exact WF.D_ Lm eF (tQ h hw)
   ·cases h
theorem NX{aw:aT}(hp:bt P (gl W) aw){f:FuncId}{args:List V}{H:ah}{v:V}{H':ah}(h:VM aw f args H=some (v,H')):WF P (gl W) f args H (fun r k=>r=v∧k=H'):=by
 unfold VM at h;cases hr:(HC f YP&& !(ak 0 args))with
  |false=>rw[hr]at h;cases h
  |true=>
   rw[hr]at h;simp only[aag]at h;split at h
   ·rename_i a H2 hd;split at h
    ·rename_i x hx;simp only[aab,aae]at h;obtain⟨rfl,rfl⟩:=h;exact tQ hd (WF.DR (hp _ _ _ hx) ⟨rfl,rfl⟩)
    ·cases h
   ·cases h
def jK:wW:=fun aw f args H=>
 bif Nat.beq f 206 then Hw aw args H else
  bif Nat.beq f 104 then Hx args H else
   bif Nat.beq f 118 then Hy args H else
    match VJ aw f args H with
     |some r=>some r
     |none=>VM aw f args H
theorem Kq:qg P (gl W) jK:=by
 intro aw hp f args H v H' h;unfold jK at h;cases h1:Nat.beq f 206 with
  |true=>rw[h1]at h;obtain rfl:=aah h1;exact(Hz hp h).mono fun r k ⟨e1,e2⟩=>⟨e1,e2.symm⟩
  |false=>
   rw[h1]at h;simp only[aaw]at h;cases h2:Nat.beq f 104 with
    |true=>rw[h2]at h;obtain rfl:=aah h2;exact HA h
    |false=>
     rw[h2]at h;simp only[aaw]at h;cases h3:Nat.beq f 118 with
      |true=>rw[h3]at h;obtain rfl:=aah h3;exact HB h
      |false=>
       rw[h3]at h;simp only[aaw]at h;split at h
       ·rename_i r hr;simp only[aab]at h;subst h;exact NW hp hr
       ·exact NX hp h
end Fw.Tz
/-
  slices.Grow of nil, for expressions; the hooks of the runs.
-/
namespace Fw.Tz
open Go Go.Proofs Fw.X
variable {W:World}
theorem VN:aq P 248=true:=k_
theorem Kr:aK P 248=some f248:=k_
def xF(n:Nat):V:=if n=0 then .ab else .sl 1 0 0 0 2
def xG(n:Nat):ah:=if n=0 then[]else[none,some (.cells [])]
theorem VO(n:Nat)(hn:n≤2^30):WF P (gl W) 248 [.ab,.d (.int .i64 n)] [] (fun v H'=>v=xF n∧H'=xG n):=by
 have hw:IntKind.i64.wrap (n:Int)=n:=by rw[IntKind.wrap_i64];omega
 have NU:¬((n:Int)<0):=by omega
 have VG:IntKind.i64.wrap 0=0:=rfl;refine WF.fw (WF.body Kr VN (by simp[f248]) ?_ );show WC P (gl W) (.seq (.region f248.r0) (.seq (.seq (.region f248.r1) (.cond (.t 6) (.region f248.r2) .skip)) (.seq (.seq (.region f248.r3) (.seq (.region f248.r4) (.cond (.t 16) (.region f248.r5) .skip))) (.seq (.region f248.r6) .ret)))) ⟨27,[(0,.ab),(1,.d (.int .i64 n))],[]⟩ _;refine WC.seq (WC.gM (own:=[]) (by simp[f248.r0,cH,bB,ao,bu,aU,az,aM,aV,aC,aX];rfl) ?_ );refine WC.seq (WC.seq (WC.gM (own:=[]) (by simp[f248.r1,cH,bB,ao,bu,aU,az,aM,aV,aC,aX,j_,ky,NU];rfl) ?_ ));refine WC.cond (t:=false) (by simp[aU,az]) (WC.skip ?_ );refine WC.seq (WC.seq (WC.gM (own:=[]) (by simp[f248.r3,cH,bB,ao,bu,aU,az,aM,aV,aC,aX,j_,ky,fZ,hw,VG];rfl) ?_ ));refine WC.seq (WC.gM (own:=[]) (by simp[f248.r4,cH,bB,ao,bu,aU,az,aM,aV,aC,aX,j_,ky];rfl) ?_ );by_cases h0:n=0
 ·subst h0;refine WC.cond (t:=false) (by simp[aU,az]) (WC.skip ?_ );refine WC.seq (WC.gM (own:=[]) (by simp[f248.r6,cH,bB,ao,bu,aU,az,aM,aV,aC,aX];rfl) (WC.ret ?_ ));refine⟨.ab,by simp[fb,f248,bJ,eA,az],_,ar.refl _ _,by simp[az,xF],rfl⟩
 ·have nD:0<n:=by omega
  have jT:n*33≤1099511627776:=by omega
  have tH:n≤1099511627776:=by omega
  refine WC.cond (t:=true) (by simp[aU,az];omega) ?_;refine WC.gM (own:=[]) (by simp[f248.r5,cH,bB,ao,bu,aU,az,aM,aV,aC,aX,fZ,bounds,dp,eo,nE,iw,nD,jT,tH,cq,dE,bj,dP,aA,uE];rfl) ?_;refine WC.seq (WC.gM (own:=[]) (by simp[f248.r6,cH,bB,ao,bu,aU,az,aM,aV,aC,aX];rfl) (WC.ret ?_ ));refine⟨.sl 0 (n*2) 0 0 2,by simp[fb,f248,bJ,eA,az],⟨1,[(0,.sl 1 0 0 0 2)],[none,some (.cells [])]⟩,?_,by simp[az,xF,h0],by simp[xG,h0]⟩;rcases ar.shrink (h:=n*2) (sz:=2) (cs:=(List.range (n*2)).map fun i=>[V.d (.int .i64 0),.ab].getD (i%2) .any)with h|h
  ·simpa using h
  ·exact absurd (by simp) h
def HD(args:List V)(H:ah):Option (V×ah):=match args,H with
 |[.ab,.d (.int .i64 (.ofNat n))],[]=>bif Nat.ble n 1048576 then some (xF n,xG n)else none
 |_,_=>none
theorem HE{args:List V}{H:ah}{v:V}{H':ah}(h:HD args H=some (v,H')):WF P (gl W) 248 args H (fun r k=>r=v∧k=H'):=by
 unfold HD at h;split at h
 ·rename_i n;cases hc:Nat.ble n 1048576 with
   |false=>rw[hc]at h;cases h
   |true=>rw[hc]at h;simp only[aag,aab,aae]at h;obtain⟨rfl,rfl⟩:=h;have:=aak hc;exact VO n (by omega)
 ·cases h
def HF:wW:=fun aw f args H=>bif Nat.beq f 248 then HD args H else jK aw f args H
theorem HG:qg P (gl W) HF:=by
 intro aw hp f args H v H' h;unfold HF at h;cases h1:Nat.beq f 248 with
  |true=>rw[h1]at h;obtain rfl:=aah h1;exact HE h
  |false=>rw[h1]at h;exact Kq aw hp f args H v H' h
end Fw.Tz
/-
  The functions that closed runs enter.
-/
namespace Fw.Tz
open Go Go.Proofs Fw.X
noncomputable def fq(i:Nat):cD:=(aK P i).getD ⟨0,0,[],.skip⟩
theorem NY{i:Nat}(h:(aK P i).isSome=true):aK P i=some (fq i):=by
 unfold fq;cases hc:aK P i with
  |none=>rw[hc]at h;cases h
  |some f=>rfl
theorem VP:aK P 11=some f11:=k_
theorem VQ:aq P 11=true:=k_
theorem VR:aK P 20=some f20:=k_
theorem VS:aq P 20=true:=k_
theorem VT:aK P 30=some f30:=k_
theorem VU:aq P 30=true:=k_
theorem VV:aK P 31=some f31:=k_
theorem VW:aq P 31=true:=k_
theorem VX:aK P 33=some f33:=k_
theorem VY:aq P 33=true:=k_
theorem VZ:aK P 38=some f38:=k_
theorem V0:aq P 38=true:=k_
theorem V1:aK P 40=some f40:=k_
theorem V2:aq P 40=true:=k_
theorem V3:aK P 42=some f42:=k_
theorem V4:aq P 42=true:=k_
theorem V5:aK P 46=some f46:=k_
theorem V6:aq P 46=true:=k_
theorem V7:aK P 47=some f47:=k_
theorem V8:aq P 47=true:=k_
theorem V9:aK P 48=some f48:=k_
theorem V':aq P 48=true:=k_
theorem V_:aK P 51=some f51:=k_
theorem Wa:aq P 51=true:=k_
theorem Wb:aK P 56=some f56:=k_
theorem Wc:aq P 56=true:=k_
theorem Q8:aK P 59=some f59:=k_
theorem Q9:aq P 59=true:=k_
theorem Q_:aK P 63=some f63:=k_
theorem Ra:aq P 63=true:=k_
theorem Wd:aK P 65=some f65:=k_
theorem We:aq P 65=true:=k_
theorem Wf:aK P 75=some f75:=k_
theorem Wg:aq P 75=true:=k_
theorem Wh:aK P 76=some f76:=k_
theorem Wi:aq P 76=true:=k_
theorem Wj:aK P 77=some f77:=k_
theorem Wk:aq P 77=true:=k_
theorem Wl:aK P 78=some f78:=k_
theorem Wm:aq P 78=true:=k_
theorem Wn:aK P 79=some f79:=k_
theorem Wo:aq P 79=true:=k_
theorem Wp:aK P 88=some f88:=k_
theorem Wq:aq P 88=true:=k_
theorem Rb:aK P 89=some f89:=k_
theorem Rc:aq P 89=true:=k_
theorem Ws:aK P 91=some f91:=k_
theorem Wt:aq P 91=true:=k_
theorem Wu:aK P 92=some f92:=k_
theorem Wv:aq P 92=true:=k_
theorem Ww:aK P 93=some f93:=k_
theorem Wx:aq P 93=true:=k_
theorem Wy:aK P 94=some f94:=k_
theorem Wz:aq P 94=true:=k_
theorem Re:aK P 97=some f97:=k_
theorem Rf:aq P 97=true:=k_
theorem WA:aK P 98=some f98:=k_
theorem WB:aq P 98=true:=k_
theorem WD:aK P 99=some f99:=k_
theorem WE:aq P 99=true:=k_
theorem Rh:aK P 108=some f108:=k_
theorem Ri:aq P 108=true:=k_
theorem Rj:aK P 110=some f110:=k_
theorem Rk:aq P 110=true:=k_
theorem Rl:aK P 111=some f111:=k_
theorem Rm:aq P 111=true:=k_
theorem Rn:aK P 113=some f113:=k_
theorem Ro:aq P 113=true:=k_
theorem Rp:aK P 115=some f115:=k_
theorem Rq:aq P 115=true:=k_
theorem LL:aK P 116=some f116:=k_
theorem LM:aq P 116=true:=k_
theorem LN:aK P 117=some f117:=k_
theorem LO:aq P 117=true:=k_
theorem Rr:aK P 120=some f120:=k_
theorem Rs:aq P 120=true:=k_
theorem Rt:aK P 124=some f124:=k_
theorem Ru:aq P 124=true:=k_
theorem Rv:aK P 134=some f134:=k_
theorem Rw:aq P 134=true:=k_
theorem Rx:aK P 135=some f135:=k_
theorem Ry:aq P 135=true:=k_
theorem Rz:aK P 136=some f136:=k_
theorem RA:aq P 136=true:=k_
theorem RC:aK P 137=some f137:=k_
theorem RD:aq P 137=true:=k_
theorem RE:aK P 138=some f138:=k_
theorem RF:aq P 138=true:=k_
theorem RG:aK P 142=some f142:=k_
theorem RH:aq P 142=true:=k_
theorem HH:aK P 147=some f147:=k_
theorem HI:aq P 147=true:=k_
theorem RI:aK P 148=some f148:=k_
theorem RJ:aq P 148=true:=k_
theorem RL:aK P 149=some f149:=k_
theorem RN:aq P 149=true:=k_
theorem RO:aK P 150=some f150:=k_
theorem RP:aq P 150=true:=k_
theorem RQ:aK P 153=some f153:=k_
theorem RR:aq P 153=true:=k_
theorem RT:aK P 154=some f154:=k_
theorem RU:aq P 154=true:=k_
theorem RW:aK P 170=some f170:=k_
theorem RX:aq P 170=true:=k_
theorem RY:aK P 171=some f171:=k_
theorem RZ:aq P 171=true:=k_
theorem LP:aK P 174=some f174:=k_
theorem LR:aq P 174=true:=k_
theorem R0:aK P 175=some f175:=k_
theorem R1:aq P 175=true:=k_
theorem R2:aK P 177=some f177:=k_
theorem R3:aq P 177=true:=k_
theorem R4:aK P 178=some f178:=k_
theorem R5:aq P 178=true:=k_
theorem R6:aK P 181=some f181:=k_
theorem R7:aq P 181=true:=k_
theorem R8:aK P 194=some f194:=k_
theorem R9:aq P 194=true:=k_
theorem R':aK P 196=some f196:=k_
theorem R_:aq P 196=true:=k_
theorem Sa:aK P 199=some f199:=k_
theorem Se:aq P 199=true:=k_
theorem Sf:aK P 201=some f201:=k_
theorem Sg:aq P 201=true:=k_
theorem Sh:aK P 202=some f202:=k_
theorem Si:aq P 202=true:=k_
theorem Sj:aK P 203=some f203:=k_
theorem Sk:aq P 203=true:=k_
theorem Sl:aK P 204=some f204:=k_
theorem Sm:aq P 204=true:=k_
theorem Sn:aK P 205=some f205:=k_
theorem Sp:aq P 205=true:=k_
theorem Sq:aK P 241=some f241:=k_
theorem Sr:aq P 241=true:=k_
theorem Ss:aK P 242=some f242:=k_
theorem Sw:aq P 242=true:=k_
theorem Sx:aK P 254=some f254:=k_
theorem Sy:aq P 254=true:=k_
theorem Sz:aK P 255=some f255:=k_
theorem SA:aq P 255=true:=k_
noncomputable def SB:FT cD:=(.n (.n (.n (.n (.n (.n (.n (.n .e 10 zu .e) 11 f11 .e) 13 pv (.n .e 14 (fq 14) .e)) 16 (fq 16) (.n (.n (.n .e 17 (fq 17) .e) 18 (fq 18) .e) 19 (fq 19) (.n .e 20 f20 .e))) 21 (fq 21) (.n (.n (.n (.n .e 22 zw .e) 23 (fq 23) .e) 30 f30 (.n .e 31 f31 .e)) 32 f32 (.n (.n .e 33 f33 .e) 38 f38 (.n .e 39 ow .e)))) 40 f40 (.n (.n (.n (.n (.n .e 41 eR .e) 42 f42 .e) 43 (fq 43) (.n .e 44 jN .e)) 45 uT (.n (.n (.n .e 46 f46 .e) 47 f47 .e) 48 f48 (.n .e 50 (fq 50) .e))) 51 f51 (.n (.n (.n (.n .e 52 (fq 52) .e) 53 (fq 53) .e) 54 (fq 54) (.n .e 55 (fq 55) .e)) 56 f56 (.n (.n .e 57 zx .e) 58 (fq 58) (.n .e 59 f59 .e))))) 60 (fq 60) (.n (.n (.n (.n (.n (.n .e 61 (fq 61) .e) 62 (fq 62) .e) 63 f63 (.n .e 64 (fq 64) .e)) 65 f65 (.n (.n (.n .e 68 (fq 68) .e) 75 f75 .e) 76 f76 (.n .e 77 f77 .e))) 78 f78 (.n (.n (.n (.n .e 79 f79 .e) 87 (fq 87) .e) 88 f88 (.n .e 89 f89 .e)) 90 (fq 90) (.n (.n .e 91 f91 .e) 92 f92 (.n .e 93 f93 .e)))) 94 f94 (.n (.n (.n (.n (.n .e 95 xt .e) 96 tC .e) 97 f97 (.n .e 98 f98 .e)) 99 f99 (.n (.n (.n .e 100 (fq 100) .e) 102 f102 .e) 103 f103 (.n .e 105 lH .e))) 106 (fq 106) (.n (.n (.n (.n .e 108 f108 .e) 109 (fq 109) .e) 110 f110 (.n .e 111 f111 .e)) 112 (fq 112) (.n (.n .e 113 f113 .e) 114 (fq 114) (.n .e 115 f115 .e)))))) 116 f116 (.n (.n (.n (.n (.n (.n (.n .e 117 f117 .e) 119 (fq 119) .e) 120 f120 (.n .e 121 (fq 121) .e)) 123 (fq 123) (.n (.n (.n .e 124 f124 .e) 134 f134 .e) 135 f135 (.n .e 136 f136 .e))) 137 f137 (.n (.n (.n (.n .e 138 f138 .e) 141 (fq 141) .e) 142 f142 (.n .e 143 (fq 143) .e)) 144 (fq 144) (.n (.n .e 145 (fq 145) .e) 146 (fq 146) (.n .e 147 f147 .e)))) 148 f148 (.n (.n (.n (.n (.n .e 149 f149 .e) 150 f150 .e) 151 f151 (.n .e 152 f152 .e)) 153 f153 (.n (.n (.n .e 154 f154 .e) 159 Hl .e) 162 (fq 162) (.n .e 164 (fq 164) .e))) 165 (fq 165) (.n (.n (.n (.n .e 168 (fq 168) .e) 169 (fq 169) .e) 170 f170 (.n .e 171 f171 .e)) 174 f174 (.n (.n .e 175 f175 .e) 176 (fq 176) (.n .e 177 f177 .e))))) 178 f178 (.n (.n (.n (.n (.n (.n .e 179 (fq 179) .e) 180 (fq 180) .e) 181 f181 (.n .e 194 f194 .e)) 196 f196 (.n (.n (.n .e 197 (fq 197) .e) 198 (fq 198) .e) 199 f199 (.n .e 200 (fq 200) .e))) 201 f201 (.n (.n (.n (.n .e 202 f202 .e) 203 f203 .e) 204 f204 (.n .e 205 f205 .e)) 223 lJ (.n (.n .e 227 (fq 227) .e) 228 (fq 228) (.n .e 229 (fq 229) .e)))) 230 (fq 230) (.n (.n (.n (.n (.n .e 231 (fq 231) .e) 232 (fq 232) .e) 236 (fq 236) (.n .e 237 (fq 237) .e)) 240 (fq 240) (.n (.n .e 241 f241 .e) 242 f242 (.n .e 249 (fq 249) .e))) 254 f254 (.n (.n (.n (.n .e 255 f255 .e) 268 (fq 268) .e) 269 (fq 269) (.n .e 270 (fq 270) .e)) 272 (fq 272) (.n (.n .e 274 (fq 274) .e) 282 (fq 282) (.n .e 299 (fq 299) .e)))))))
noncomputable def TW:FT cD→FT cD| .e=>.e| .n l k _ r=>.n (TW l) k (fq k) (TW r)
noncomputable def TX:FT cD→Bool| .e=>true| .n l k _ r=>(aK P k).isSome&&(aq P k&&(TX l&&TX r))
theorem xH:∀t,TX t=true→tl (fun f fn=>aK P f=some fn∧aq P f=true) (TW t)| .e,_=>trivial| .n l k _ r,h=>by simp only[TX,aac]at h;exact⟨xH l h.2.2.1,⟨NY h.1,h.2.1⟩,xH r h.2.2.2⟩
theorem NZ:tl (fun f fn=>aK P f=some fn∧aq P f=true) SB:=(show TW SB=SB by kernel_rfl)▸xH SB k_
def eB(f:FuncId):List Nat:=bif Nat.beq f 88 then[5]else bif Nat.beq f 43 then[3]else bif Nat.beq f 170 then[5]else bif Nat.beq f 99 then[3]else bif Nat.beq f 136 then[16]else bif Nat.beq f 78 then[16]else bif Nat.beq f 11 then[167]else bif Nat.beq f 84 then[5]else bif Nat.beq f 15 then[61]else bif Nat.beq f 35 then[92]else bif Nat.beq f 9 then[126]else bif Nat.beq f 29 then[62]else[]
def rf(f:FuncId):Bool:=Nat.beq f 144||Nat.beq f 88||Nat.beq f 200||Nat.beq f 181||Nat.beq f 154
end Fw.Tz
/-
  The quicker run over the program's functions.
-/
namespace Fw.Tz
open Go Go.Proofs Fw.X
def tR:FT Nat:=(.n (.n (.n (.n (.n (.n .e 42 0 .e) 48 0 .e) 51 0 (.n .e 59 0 .e)) 88 0 (.n (.n (.n .e 89 0 .e) 94 0 .e) 97 0 (.n .e 101 0 .e))) 104 0 (.n (.n (.n (.n .e 107 0 .e) 108 0 .e) 110 0 (.n .e 118 0 .e)) 143 0 (.n (.n (.n .e 144 0 .e) 149 0 .e) 150 0 (.n .e 154 0 .e)))) 160 0 (.n (.n (.n (.n (.n .e 161 0 .e) 163 0 .e) 165 0 (.n .e 167 0 .e)) 170 0 (.n (.n (.n .e 172 0 .e) 173 0 .e) 175 0 (.n .e 181 0 .e))) 200 0 (.n (.n (.n (.n .e 203 0 .e) 206 0 .e) 232 0 (.n .e 235 0 .e)) 248 0 (.n (.n .e 271 0 .e) 273 0 (.n .e 275 0 .e)))))
noncomputable def tS(_:World)(kt:FT Nat)(ex:Extra)(jI:a6):a6:=UQ kt ex rf HF (pr Kp) jI
noncomputable def mT(kt:FT Nat)(ex:Extra)(jI:a6):aT:=M0 kt ex rf (pr Kp) jI
noncomputable def oO(W:World)(kt:FT Nat)(ex:Extra)(d:Nat):a6:=JV eB (gl W) SB (tS W kt ex) (mT kt ex) 1000 d
noncomputable def TY(W:World)(kt:FT Nat)(ex:Extra)(d:Nat):aT:=mT kt ex (oO W kt ex d)
variable {W:World}
theorem bE:P.follows .mixedOrders=true:=k_
theorem jE(hW:W0 W){kt:FT Nat}{ex:Extra}(he:uM P (gl W) ex):∀jI,bH P (gl W) jI→bH P (gl W) (tS W kt ex jI):=M1 he HG (CY hW)
theorem fQ(hW:W0 W){kt:FT Nat}{ex:Extra}(he:uM P (gl W) ex):∀jI,bH P (gl W) jI→bt P (gl W) (mT kt ex jI):=JQ he (CY hW)
theorem ef(hW:W0 W){kt:FT Nat}{ex:Extra}(he:uM P (gl W) ex)(d:Nat):bH P (gl W) (oO W kt ex d):=by unfold oO;rw[CE];exact Cx bE NZ (jE hW he) (fQ hW he) 1000 d
theorem BC(hW:W0 W){kt:FT Nat}{ex:Extra}(he:uM P (gl W) ex)(d:Nat):bt P (gl W) (TY W kt ex d):=fQ hW he _ (ef hW he d)
theorem qF:uM P (gl W) .e:=trivial
theorem cS:∀{x y:List UInt8},Fw.ai x y=true→x=y
 |[],[],_=>rfl
 |[],_::_,h=>by simp[Fw.ai]at h
 |_::_,[],h=>by simp[Fw.ai]at h
 |a::x,b::y,h=>by
  simp only[Fw.ai]at h;cases hb:Nat.beq a.toNat b.toNat with
   |false=>rw[hb]at h;cases h
   |true=>rw[hb]at h;rw[cS h,ab'.1 (aah hb)]
def TZ:List (List UInt8×V)→List UInt8→Option V|[],_=>none|(k,v)::l,s=>bif Fw.ai k s then some v else TZ l s
theorem HJ{p:List UInt8→V→Prop}:∀{l:List (List UInt8×V)}{s:List UInt8}{v:V},(∀q∈l,p q.1 q.2)→TZ l s=some v→p s v
 |[],_,_,_,h=>by cases h
 |(k,u)::l,s,v,hl,h=>by
  simp only[TZ]at h;cases hb:Fw.ai k s with
   |true=>rw[hb]at h;simp only[aag,aab]at h;subst h;rw[←cS hb];exact hl _ abU
   |false=>rw[hb]at h;exact HJ (fun q hq=>hl q (abL _ hq)) h
def Ks(l:List (List UInt8×V)):List V→Option V|[.d (.str s)]=>TZ l s|_=>none
theorem CZ{f:FuncId}{l:List (List UInt8×V)}(h:∀q∈l,PC P (gl W) f [.d (.str q.1)] q.2):∀args r,Ks l args=some r→PC P (gl W) f args r:=by
 intro args r hr;unfold Ks at hr;split at hr
 ·exact HJ (p:=fun s v=>PC P (gl W) f [.d (.str s)] v) h hr
 ·cases hr
end Fw.Tz
/-
  The interpreter over the program's functions, and what its answers prove.
-/
namespace Fw.Tz
open Go Go.Proofs Fw.X
noncomputable def N0(W:World)(d:Nat):aT:=TY W tR .e d
variable {W:World}
theorem qG(hW:W0 W)(d:Nat):bt P (gl W) (N0 W d):=BC hW qF d
end Fw.Tz
