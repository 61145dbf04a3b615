/-
  What a run of closed calls leans on: the library's functions, the sums, the sort; all as tables that reckon.
-/
import Derived.Test.YtgfgckimecpmlaaGreatDoorTb
import Derived.Test.YtgfgckimecpmlaaGreatDoorFf
set_option linter.unusedSimpArgs false
set_option maxRecDepth 100000
set_option linter.unusedVariables false
namespace Fw.Tz
open Go Go.Proofs Fw.X
variable {W:World}
theorem jh:∀(x y:List UInt8),Fw.bytesLess x y=decide (x<y)
 |x,[]=>by
  cases x with
   |nil=>rfl
   |cons a x=>simp[Fw.bytesLess]
 |[],b::y=>by simp[Fw.bytesLess]
 |a::x,b::y=>by
  simp only[Fw.bytesLess,jh x y];simp only[List.cons_lt_cons_iff];by_cases h1:a.toNat<b.toNat
  ·have e1:Nat.blt a.toNat b.toNat=true:=by simpa[aaT]using h1
   have:a<b:=by simpa[acL]using h1
   simp[e1,this]
  ·have e1:Nat.blt a.toNat b.toNat=false:=by
    cases hb:Nat.blt a.toNat b.toNat
    ·rfl
    ·rw[aaT]at hb;exact absurd hb h1
   have hn:¬a<b:=by simpa[acL]using h1
   rw[e1,aaX];by_cases h2:a=b
   ·subst h2;simp[hn]
   ·have:Nat.beq a.toNat b.toNat=false:=cG (fun e=>h2 (acC.1 e));simp[this,hn,h2]
def B1(x:List UInt8):List (List UInt8)→List (List UInt8)|[]=>[x]|y::l=>bif Fw.bytesLess y x then y::B1 x l else x::y::l
def rQ:List (List UInt8)→List (List UInt8)|[]=>[]|x::l=>B1 x (rQ l)
theorem qU(x:List UInt8):∀(l:List (List UInt8)),(B1 x l).Perm (x::l)
 |[]=>adq _
 |y::l=>by
  simp only[B1];cases Fw.bytesLess y x with
   |true=>exact((qU x l).cons y).trans (List.Perm.swap x y l)
   |false=>exact adq _
theorem uf:∀(l:List (List UInt8)),(rQ l).Perm l|[]=>adq _|x::l=>(qU x (rQ l)).trans ((uf l).cons x)
theorem rT(x:List UInt8):∀{l:List (List UInt8)},l.Pairwise (fun a b=>decide (a≤b)=true)→(B1 x l).Pairwise (fun a b=>decide (a≤b)=true)
 |[],_=>by simp[B1]
 |y::l,h=>by
  simp only[B1,jh];obtain⟨h1,h2⟩:=abJ.1 h;by_cases bS:y<x
  ·simp only[bS,decide_true,aaH];refine abJ.2 ⟨fun z hz=>?_,rT x h2⟩;rcases aa'.1 ((qU x l).mem_iff.1 hz)with rfl|hz
   ·simpa using List.le_of_lt bS
   ·exact h1 z hz
  ·simp only[bS,adE,aaX];have G0:x≤y:=ads.1 bS;refine abJ.2 ⟨fun z hz=>?_,h⟩;rcases aa'.1 hz with rfl|hz
   ·simpa using G0
   ·have:=h1 z hz;simp only[aaN]at this⊢;exact adx G0 this
theorem pQ:∀(l:List (List UInt8)),(rQ l).Pairwise (fun a b=>decide (a≤b)=true)|[]=>List.Pairwise.nil|x::l=>rT x (pQ l)
theorem Ab(l:List (List UInt8)):dF l=rQ l:=by
 have QL:∀(x y:List UInt8),(decide (x≤y)||decide (y≤x))=true:=fun x y=>by rcases adw x y with h|h<;>simp[h]
 have QM:∀(x y z:List UInt8),decide (x≤y)=true→decide (y≤z)=true→decide (x≤z)=true:=fun x y z h1 h2=>by simp only[aaN]at*;exact adx h1 h2
 refine ac6 (le:=fun x y=>decide (x≤y)=true) (fun x y _ _ h1 h2=>?_ ) (acA QM QL l) (pQ l) ?_
 ·simp only[aaN]at h1 h2;exact acw h1 h2
 ·exact(acz l _).trans (uf l).symm
def LA(k:List UInt8):Es→Int|[]=>0|(a,c)::l=>bif Fw.ae a k then c else LA k l
theorem LB(es:Es)(k:List UInt8):LA k es=bp es k:=by
 induction es with
  |nil=>rfl
  |cons e es ih=>
   obtain⟨a,c⟩:=e;simp only[LA,bp,adn,cZ]at ih⊢;cases h:(a==k)with
    |true=>simp
    |false=>simpa using ih
def Ac:Es→List (List UInt8)
 |[]=>[]
 |(a,c)::l=>
  match c with
   | .ofNat 0=>Ac l
   |_=>a::Ac l
theorem ug:∀(es:Es),Ac es=bW es
 |[]=>rfl
 |(a,c)::l=>by
  simp only[Ac];split
  ·rw[ug l];simp[bW]
  ·rename_i h;have:c≠0:=fun e=>h (by rw[e];rfl)
   rw[ug l];simp[bW,this]
def gP(es:Es):Es:=(rQ (Ac es)).map fun k=>(k,LA k es)
theorem Dp(es:Es):gP es=be es:=by simp only[gP,be,Ab,ug,LB]
def Iu:List (D×V)→Option Es
 |[]=>some []
 |(.str k,.d (.int .i64 c))::l=>
  match Iu l with
   |some es=>some ((k,c)::es)
   |none=>none
 |_=>none
theorem DJ:∀{l:List (D×V)}{es:Es},Iu l=some es→l=db es
 |[],es,h=>by simp only[Iu,aaC]at h;subst h;rfl
 |(k,v)::l,es,h=>by
  unfold Iu at h;split at h
  ·rename_i e;cases e
  ·rename_i a c l' heq;split at h
   ·rename_i Qf wY;simp only[aaC]at h;subst h;simp only[acD,aaF]at heq;obtain⟨⟨rfl,rfl⟩,rfl⟩:=heq;have:=DJ wY;simp[db]at this⊢;exact this
   ·cases h
  ·cases h
def uh:List V→Option (List (List UInt8))
 |[]=>some []
 | .d (.str s)::l=>
  match uh l with
   |some ss=>some (s::ss)
   |none=>none
 |_=>none
theorem we:∀{l:List V}{ss:List (List UInt8)},uh l=some ss→l=ss.map eP
 |[],ss,h=>by simp only[uh,aaC]at h;subst h;rfl
 |v::l,ss,h=>by
  unfold uh at h;split at h
  ·rename_i e;cases e
  ·rename_i s l' heq;split at h
   ·rename_i ss' wY;simp only[aaC]at h;subst h;simp only[acD]at heq;obtain⟨rfl,rfl⟩:=heq;have:=we wY;simp[eP]at this⊢;exact this
   ·cases h
  ·cases h
def Iv(aA:aU)(args:List V)(H:ai):Option (V×ai):=match args with
 |[.ptr b h off]=>
  match aE H b with
   |some (.cells cs)=>
    match cs[off]? with
     |some (.d (.int .i64 n))=>
      match cs[off+1]? with
       |some (.map m)=>
        match aE H m with
         |some (.map l)=>
          match Iu l with
           |some es=>
            bif Nat.beq cs.length h&& !(Nat.beq b m)&&an 0 (cs.set (off+1) .ab)&&cs.all dO&&Nat.ble es.length 1048576 then
             match aA 89 [o7 n (gP es)]with
              |some (.d (.bool ok))=>some (bif ok then .tuple [ua n (gP es),.d (.int .i64 0)]else .tuple [ua 0 [],.d (.int .i64 3)],H)
              |_=>none else none
           |none=>none
         |_=>none
       |_=>none
     |_=>none
   |_=>none
 |_=>none
def Iw(args:List V)(H:ai):Option (V×ai):=match args with
 |[.sl b h off len sz]=>
  match aE H b with
   |some (.cells cs)=>
    match uh cs with
     |some ss=>bif Nat.beq off 0&&Nat.beq sz 1&&Nat.beq len h&&Nat.beq h ss.length&&Nat.ble ss.length 1048576 then some (.tuple [],bn H b (.cells ((rQ ss).map eP)))else none
     |none=>none
   |_=>none
 |_=>none
def Ix(args:List V)(H:ai):Option (V×ai):=match args,H with
 |[.ab,.d (.int .i64 (.ofNat n))],[]=>bif Nat.ble n 1048576 then some (xN n,xO n)else none
 |_,_=>none
theorem nH{H:ai}{b:Nat}{y:eG}(h:aE H b=some y):bn H b y=H:=by
 induction H generalizing b with
  |nil=>simp[aE]at h
  |cons x H ih=>
   cases b with
    |zero=>simp only[aE]at h;simp[bn,h]
    |succ b=>simp only[aE]at h;simp[bn,ih h]
theorem Ad{S:List Nat}:∀{cs:List V}{i:Nat}{v:V},an 0 (cs.set i .ab)=true→i<cs.length→fE S (cs.set i v)=cs.set i (dU S v)
 |c::cs,0,v,h,_=>by simp only[acB,an,aaD]at h⊢;simp only[fE,eK h.2]
 |c::cs,i+1,v,h,hi=>by simp only[acg,an,aaD]at h⊢;simp only[fE,kX h.1,Ad h.2 (by simpa using hi)]
 |[],_,_,_,hi=>by simp at hi
theorem ui{m:Nat}:∀{cs:List V}{i:Nat}{v:V},an 0 (cs.set i .ab)=true→aq m v=true→an m (cs.set i v)=true
 |c::cs,0,v,h,hv=>by simp only[acB,an,aaD]at h⊢;exact⟨hv,bC (acb _) h.2⟩
 |c::cs,i+1,v,h,hv=>by simp only[acg,an,aaD]at h⊢;exact⟨iI (acb _) h.1,ui h.2 hv⟩
 |[],_,_,_,_=>rfl
theorem LC{cs:List V}{i:Nat}{v:V}(h:cs.all dO=true)(hv:dO v=true):(cs.set i v).all dO=true:=by
 rw[aaR]at h⊢;intro x hx;rcases acq hx with h1|rfl
 ·exact h x h1
 ·exact hv
theorem Iy{aA:aU}(hp:bu P (gl W) aA){args:List V}{H:ai}{v:V}{H':ai}(h:Iv aA args H=some (v,H')):WF P (gl W) 206 args H (fun r k=>r=v∧H'=k):=by
 unfold Iv at h;split at h
 ·rename_i b hh off;split at h
  ·rename_i cs hb;split at h
   ·rename_i n hn;split at h
    ·rename_i m hm;split at h
     ·rename_i l hl;split at h
      ·rename_i es wY;obtain rfl:=DJ wY;cases hc:(Nat.beq cs.length hh&& !(Nat.beq b m)&&an 0 (cs.set (off+1) .ab)&&cs.all dO&&Nat.ble es.length 1048576)with
        |false=>rw[hc]at h;cases h
        |true=>
         rw[hc]at h;simp only[aaH]at h;simp only[aaD,abj]at hc;obtain⟨⟨⟨⟨c1,c2⟩,c3⟩,c4⟩,c5⟩:=hc;have d1:=aaI c1;have d2:b≠m:=by rintro rfl;simp at c2
         have d5:=aaM c5;split at h
         ·rename_i ok eF;have hv:=hp _ _ _ eF;rw[Dp]at hv h;have bS:off+1<cs.length:=(aaK.1 hm).1;have gZ:cs.set (off+1) (.map m)=cs:=by
           apply adA;intro i;rw[List.getElem?_set];split
           ·rename_i hi;subst hi;rw[hm]
           ·rfl
          have hw:=SH (W:=W) (cs:=cs.set (off+1) (.map 1)) (h:=hh) (off:=off) (n:=n) (es:=es) (ok:=ok) (by simpa using d1) (by rw[List.getElem?_set_ne (by omega)];exact hn) (by rw[adf bS]) (ui c3 (by simp[aq,iH])) (LC c4 rfl) (by omega) hv;have O9:fE [b,m] (cs.set (off+1) (.map 1))=cs:=by rw[Ad c3 bS];exact gZ
          have Oa:aH 2 [some (.cells (cs.set (off+1) (.map 1))),some (.map (db es))]=true:=by simp[aH,cE,ui c3 (show aq 2 (.map 1)=true by simp[aq,iH]),db,abh,aq]
          have s_:cH [b,m] (.map (db es))=.map (db es):=by simp[cH,db,abh,dU]
          refine(WF.frame [b,m] hw (by simpa using d2) rfl (by simp[an,aq,iH]) Oa (H:=H) (Q:=fun r k=>r=v∧H'=k) ?_ ?_ )
          ·intro i hi;have:i=0∨i=1:=by simp at hi;omega
           rcases this with rfl|rfl
           ·exact⟨_,rfl,by simp only[cH,O9];exact hb⟩
           ·exact⟨_,rfl,by rw[s_];exact hl⟩
          ·rintro r H2 ⟨rfl,rfl⟩;have tn:aq 0 (jg n es ok)=true:=by unfold jg ua;cases ok<;>simp[aq,an]<;>(split<;>rfl)
           refine⟨rfl,iI (acb _) tn,Oa,?_⟩;rw[kX tn];cases ok with
            |true=>simp only[aaH,aaC,aaF]at h;refine⟨by rw[←h.1];rfl,?_ ⟩;rw[←h.2];simp only[eB,aE,cH,O9];rw[nH hb];have:=nH hl;simp only[cH]at s_;rw[s_,this]
            |false=>simp only[aaX,aaC,aaF]at h;refine⟨by rw[←h.1];rfl,?_ ⟩;rw[←h.2];simp only[eB,aE,cH,O9];rw[nH hb];have:=nH hl;simp only[cH]at s_;rw[s_,this]
         ·cases h
      ·cases h
     ·cases h
    ·cases h
   ·cases h
  ·cases h
 ·cases h
theorem Iz{args:List V}{H:ai}{v:V}{H':ai}(h:Iw args H=some (v,H')):WF P (gl W) 104 args H (fun r k=>r=v∧k=H'):=by
 unfold Iw at h;split at h
 ·rename_i b hh off len sz;split at h
  ·rename_i cs hb;split at h
   ·rename_i ss XF;obtain rfl:=we XF;cases hc:(Nat.beq off 0&&Nat.beq sz 1&&Nat.beq len hh&&Nat.beq hh ss.length&&Nat.ble ss.length 1048576)with
     |false=>rw[hc]at h;cases h
     |true=>
      rw[hc]at h;simp only[aaH,aaC,aaF]at h;simp only[aaD]at hc;obtain⟨⟨⟨⟨c1,c2⟩,c3⟩,c4⟩,c5⟩:=hc;obtain rfl:=aaI c1;obtain rfl:=aaI c2;obtain rfl:=aaI c3;obtain rfl:=aaI c4;have d5:=aaM c5;obtain⟨rfl,rfl⟩:=h;have:=WF.frame [b] (Sr (W:=W) ss (by omega)) (by simp) rfl (by simp[an,aq,iH]) (by simp[aH,cE,cm]) (H:=H) (Q:=fun r k=>r=.tuple []∧k=bn H b (.cells ((rQ ss).map eP))) ?_ ?_
      ·exact this
      ·intro i hi;obtain rfl:i=0:=by simp at hi;exact hi
       refine⟨_,rfl,?_⟩;simp only[cH,eK (cm 0 _)];exact hb
      ·rintro r H2 ⟨rfl,rfl⟩;refine⟨rfl,by simp[aq,an],by simp[aH,cE,cm],by simp[dU,fE],?_ ⟩;simp only[eB,aE,cH,eK (cm 0 _),Ab]
   ·cases h
  ·cases h
 ·cases h
theorem IA{args:List V}{H:ai}{v:V}{H':ai}(h:Ix args H=some (v,H')):WF P (gl W) 118 args H (fun r k=>r=v∧k=H'):=by
 unfold Ix at h;split at h
 ·rename_i n;cases hc:Nat.ble n 1048576 with
   |false=>rw[hc]at h;cases h
   |true=>rw[hc]at h;simp only[aaH,aaC,aaF]at h;obtain⟨rfl,rfl⟩:=h;have:=aaM hc;exact XC n (by omega)
 ·cases h
def pR:List (List D)→Option (List (List UInt8))
 |[]=>some []
 |[.str s]::l=>
  match pR l with
   |some ss=>some (s::ss)
   |none=>none
 |_=>none
theorem uj:∀{l:List (List D)}{ss:List (List UInt8)},pR l=some ss→D.list l=dy ss
 |[],ss,h=>by simp only[pR,aaC]at h;subst h;rfl
 |v::l,ss,h=>by
  unfold pR at h;split at h
  ·rename_i e;cases e
  ·rename_i s l' heq;split at h
   ·rename_i ss' wY;simp only[aaC]at h;subst h;simp only[acD]at heq;obtain⟨rfl,rfl⟩:=heq;have:=uj wY;simp[dy]at this⊢;exact this
   ·cases h
  ·cases h
def LD:N9:=[(172,fun args=>match args with|[.d (.str s),.d (.str p)]=>some (.d (.bool (Lib.hasPrefix s p)))|_=>none),(275,fun args=>match args with|[.d (.str s),.d (.str p)]=>bif Nat.ble s.length 1048576 then some (.d (.str (Lib.trimSuffix s p)))else none|_=>none),(161,fun args=>match args with|[.d (.str s),.d (.str p)]=>some (.tuple [.d (.str (Lib.trimPrefix s p)),.d (.bool (Lib.hasPrefix s p))])|_=>none),(235,fun args=>match args with|[.d (.str s),.d (.str p)]=>bif Nat.ble s.length 1048576 then some (.tuple [.d (.str (Lib.trimSuffix s p)),.d (.bool (Lib.hasSuffix s p))])else none|_=>none),(167,fun args=>match args with|[.d (.str s),.d (.int .u8 c)]=>some (.d (.int .i64 (Lib.indexByte s c.toNat.toUInt8)))|_=>none),(160,fun args=>match args with|[.d (.str s),.d (.str p)]=>bif Nat.ble s.length 1048576 then some (.tuple [.d (.str (Lib.cut s p).1),.d (.str (Lib.cut s p).2.1),.d (.bool (Lib.cut s p).2.2)])else none|_=>none),(163,fun args=>match args with|[.d (.str s),.d (.str p)]=>bif Nat.ble s.length 1048576&&Nat.ble 1 p.length then some (.d (dy (Lib.split s p)))else none|_=>none),(273,fun args=>match args with|[.ab,.d (.str _)]=>some (.d (.str []))|[.d (.list l),.d (.str p)]=>(match pR l with|some ss=>bif Nat.ble ss.length 1048576&&Nat.ble (Lib.join ss p).length 1048576 then some (.d (.str (Lib.join ss p)))else none|none=>none)|_=>none),(271,fun args=>match args with|[.d (.str s),.d (.str [c])]=>bif Nat.blt c.toNat 128 then some (.d (.str (Lib.trimLeftB s c)))else none|_=>none),(107,fun args=>match args with|[.d (.int .i64 (.ofNat n))]=>bif Nat.ble n 1048576 then some (.d (.str (Lib.itoa (.ofNat n))))else none|[.d (.int .i64 (.negSucc n))]=>bif Nat.ble n 1048576 then some (.d (.str (Lib.itoa (.negSucc n))))else none|_=>none),(173,fun args=>match args with|[.d (.str s)]=>bif Nat.ble s.length 1048576 then some (DF s)else none|_=>none),(170,fun args=>match args with|[.d (.list [])]=>some (.d (.list []))|_=>none)]
theorem gJ{c:Bool}{α:Type}{a b:α}(h:(bif c then some a else none)=some b):c=true∧a=b:=by
 cases c with
  |true=>simp at h;exact⟨rfl,h⟩
  |false=>simp at h
theorem DK(hW:W0 W):bu P (gl W) (pr LD):=by
 refine Rr fun p hp args v h=>?_
 simp only[LD,aa',acu,or_false]at hp;rcases hp with rfl|rfl|rfl|rfl|rfl|rfl|rfl|rfl|rfl|rfl|rfl|rfl<;>simp only at h⊢ <;>(try split at h)<;>(try (cases h;done))
 ·simp only[aaC]at h;subst h;exact zY _ _
 ·obtain⟨c,rfl⟩:=gJ h;exact xI _ _ (by have:=aaM c;omega)
 ·simp only[aaC]at h;subst h;exact zZ _ _
 ·obtain⟨c,rfl⟩:=gJ h;exact z6 _ _ (by have:=aaM c;omega)
 ·simp only[aaC]at h;subst h;exact z7 _ _
 ·obtain⟨c,rfl⟩:=gJ h;exact Sq hW _ _ (by have:=aaM c;omega)
 ·obtain⟨c,rfl⟩:=gJ h;simp only[aaD]at c;exact Lr hW _ _ (by have:=aaM c.1;omega) (aaM c.2)
 ·simp only[aaC]at h;subst h;exact Ls _
 ·split at h
  ·rename_i ss XF;obtain⟨c,rfl⟩:=gJ h;simp only[aaD]at c;rw[uj XF];exact O1 _ _ (by have:=aaM c.1;omega) (by have:=aaM c.2;omega)
  ·cases h
 ·obtain⟨c,rfl⟩:=gJ h;exact BW _ _ (by rwa[aaT]at c)
 ·obtain⟨c,rfl⟩:=gJ h;have:=aaM c;exact BX hW _ (by first|omega|(simp;done)|(simp;omega)) (by first|omega|(simp;done)|(simp;omega))
 ·obtain⟨c,rfl⟩:=gJ h;have:=aaM c;exact BX hW _ (by omega) (by omega)
 ·obtain⟨c,rfl⟩:=gJ h;exact Iq hW _ (by have:=aaM c;omega)
 ·simp only[aaC]at h;subst h;exact wb
def bfs:List FuncId:=[165,89,59,51,143,273,172,275,161,235,42,97,108,232]
def IB(f:FuncId):List FuncId→Bool|[]=>false|x::l=>bif Nat.beq x f then true else IB f l
def XG(aA:aU)(f:FuncId)(args:List V)(H:ai):Option (V×ai):=bif IB f bfs&& !(an 0 args)then
 match bK (mu H) args with
  |some d=>
   match aA f d with
    |some v=>bif zc v then some (v,H)else none
    |none=>none
  |none=>none else none
theorem O'{aA:aU}(hp:bu P (gl W) aA){f:FuncId}{args:List V}{H:ai}{v:V}{H':ai}(h:XG aA f args H=some (v,H')):WF P (gl W) f args H (fun r k=>r=v∧k=H'):=by
 unfold XG at h;cases hr:(IB f bfs&& !(an 0 args))with
  |false=>rw[hr]at h;cases h
  |true=>
   rw[hr]at h;simp only[aaH]at h;split at h
   ·rename_i d hd;split at h
    ·rename_i x hx;cases hs:zc x with
      |false=>rw[hs]at h;cases h
      |true=>rw[hs]at h;simp only[aaH,aaC,aaF]at h;obtain⟨rfl,rfl⟩:=h;exact WF.borrow hd (hp _ _ _ hx) hs ⟨rfl,rfl⟩
    ·cases h
   ·cases h
def ffs:List FuncId:=[94,203,149,150,175,110,48]
def slB:V→Option Nat| .sl b _ _ _ _=>some b|_=>none
def XH:V→Option Nat| .sl b _ _ _ _=>some b| .agg cs=>cs.findSome? slB|_=>none
def pS:Nat→List V→ai→Option (List V×ai)
 |0,_,_=>none
 |n+1,args,H=>
  match args.findSome? XH with
   |none=>some (args,H)
   |some b=>
    match sb H b with
     |some ds=>bif (ff b ds 0 H).all fD then pS n (gN b ds args) (ff b ds 0 H)else none
     |none=>none
def XI(aA:aU)(f:FuncId)(args:List V)(H:ai):Option (V×ai):=bif IB f ffs&& !(an 0 args)then
 match pS 9 args H with
  |some (a,H')=>
   match aA f a with
    |some v=>some (v,H')
    |none=>none
  |none=>none else none
theorem WF.E5{f:FuncId}{args:List V}{H:ai}{Q:V→ai→Prop}{b:Nat}{ds:List D}{GL:cj}(hb:sb H b=some ds)(eF:(ff b ds 0 H).all fD=true)(h:WF P GL f (gN b ds args) (ff b ds 0 H) Q):WF P GL f args H Q:=by refine⟨h.1,fun g w vs dX hh hg=>?_ ⟩;have he:cr g w (g.del b) w:=cr.oe g w (cr.refl _ _);refine(h.2 (g.del b) w vs (aV.oe (Hg hh hb) _ _ dX) (hh.oe hb eF) (hg.ext he)).mono ?_;rintro e w' ⟨x,v,g',H',rfl,hq,hx,rZ,Vj⟩;exact⟨x,v,g',H',rfl,hq,hx,rZ,he.trans Vj⟩
theorem uk{f:FuncId}{Q:V→ai→Prop}{GL:cj}:∀{n:Nat}{args:List V}{H:ai}{a:List V}{H':ai},pS n args H=some (a,H')→WF P GL f a H' Q→WF P GL f args H Q
 |0,_,_,_,_,h,_=>by simp[pS]at h
 |n+1,args,H,a,H',h,hw=>by
  simp only[pS]at h;split at h
  ·simp only[aaC,aaF]at h;obtain⟨rfl,rfl⟩:=h;exact hw
  ·rename_i b _;split at h
   ·rename_i ds ML;cases eF:(ff b ds 0 H).all fD with
     |false=>rw[eF]at h;cases h
     |true=>rw[eF]at h;exact WF.E5 ML eF (uk h hw)
   ·cases h
theorem O_{aA:aU}(hp:bu P (gl W) aA){f:FuncId}{args:List V}{H:ai}{v:V}{H':ai}(h:XI aA f args H=some (v,H')):WF P (gl W) f args H (fun r k=>r=v∧k=H'):=by
 unfold XI at h;cases hr:(IB f ffs&& !(an 0 args))with
  |false=>rw[hr]at h;cases h
  |true=>
   rw[hr]at h;simp only[aaH]at h;split at h
   ·rename_i a H2 hd;split at h
    ·rename_i x hx;simp only[aaC,aaF]at h;obtain⟨rfl,rfl⟩:=h;exact uk hd (WF.EJ (hp _ _ _ hx) ⟨rfl,rfl⟩)
    ·cases h
   ·cases h
def jV:xf:=fun aA f args H=>
 bif Nat.beq f 206 then Iv aA args H else
  bif Nat.beq f 104 then Iw args H else
   bif Nat.beq f 118 then Ix args H else
    match XG aA f args H with
     |some r=>some r
     |none=>XI aA f args H
theorem LF:qy P (gl W) jV:=by
 intro aA hp f args H v H' h;unfold jV at h;cases h1:Nat.beq f 206 with
  |true=>rw[h1]at h;obtain rfl:=aaI h1;exact(Iy hp h).mono fun r k ⟨e1,e2⟩=>⟨e1,e2.symm⟩
  |false=>
   rw[h1]at h;simp only[aaX]at h;cases h2:Nat.beq f 104 with
    |true=>rw[h2]at h;obtain rfl:=aaI h2;exact Iz h
    |false=>
     rw[h2]at h;simp only[aaX]at h;cases h3:Nat.beq f 118 with
      |true=>rw[h3]at h;obtain rfl:=aaI h3;exact IA h
      |false=>
       rw[h3]at h;simp only[aaX]at h;split at h
       ·rename_i r hr;simp only[aaC]at h;subst h;exact O' hp hr
       ·exact O_ hp h
end Fw.Tz
/-
  slices.Grow of nil, for expressions; the hooks of the runs.
-/
namespace Fw.Tz
open Go Go.Proofs Fw.X
variable {W:World}
theorem XJ:ao P 248=true:=k_
theorem LG:aI P 248=some f248:=k_
def xP(n:Nat):V:=if n=0 then .ab else .sl 1 0 0 0 2
def xQ(n:Nat):ai:=if n=0 then[]else[none,some (.cells [])]
theorem XK(n:Nat)(hn:n≤2^30):WF P (gl W) 248 [.ab,.d (.int .i64 n)] [] (fun v H'=>v=xP n∧H'=xQ n):=by
 have hw:IntKind.i64.wrap (n:Int)=n:=by rw[IntKind.wrap_i64];omega
 have O8:¬((n:Int)<0):=by omega
 have XD:IntKind.i64.wrap 0=0:=rfl;refine WF.gy (WF.body LG XJ (by simp[f248]) ?_ );show WC P (gl W) (.seq (.region f248.r0) (.seq (.seq (.region f248.r1) (.cond (.t 6) (.region f248.r2) .skip)) (.seq (.seq (.region f248.r3) (.seq (.region f248.r4) (.cond (.t 16) (.region f248.r5) .skip))) (.seq (.region f248.r6) .ret)))) ⟨27,[(0,.ab),(1,.d (.int .i64 n))],[]⟩ _;refine WC.seq (WC.gO (own:=[]) (by simp[f248.r0,cO,bB,ar,bw,aX,aC,aQ,aY,aG,aZ];rfl) ?_ );refine WC.seq (WC.seq (WC.gO (own:=[]) (by simp[f248.r1,cO,bB,ar,bw,aX,aC,aQ,aY,aG,aZ,ky,kO,O8];rfl) ?_ ));refine WC.cond (t:=false) (by simp[aX,aC]) (WC.skip ?_ );refine WC.seq (WC.seq (WC.gO (own:=[]) (by simp[f248.r3,cO,bB,ar,bw,aX,aC,aQ,aY,aG,aZ,ky,kO,gm,hw,XD];rfl) ?_ ));refine WC.seq (WC.gO (own:=[]) (by simp[f248.r4,cO,bB,ar,bw,aX,aC,aQ,aY,aG,aZ,ky,kO];rfl) ?_ );by_cases h0:n=0
 ·subst h0;refine WC.cond (t:=false) (by simp[aX,aC]) (WC.skip ?_ );refine WC.seq (WC.gO (own:=[]) (by simp[f248.r6,cO,bB,ar,bw,aX,aC,aQ,aY,aG,aZ];rfl) (WC.ret ?_ ));refine⟨.ab,by simp[fq,f248,bK,eN,aC],_,au.refl _ _,by simp[aC,xP],rfl⟩
 ·have nN:0<n:=by omega
  have j7:n*33≤1099511627776:=by omega
  have ub:n≤1099511627776:=by omega
  refine WC.cond (t:=true) (by simp[aX,aC];omega) ?_;refine WC.gO (own:=[]) (by simp[f248.r5,cO,bB,ar,bw,aX,aC,aQ,aY,aG,aZ,gm,bounds,dC,eI,nO,iH,nN,j7,ub,cy,dO,bn,ef,aE,uY];rfl) ?_;refine WC.seq (WC.gO (own:=[]) (by simp[f248.r6,cO,bB,ar,bw,aX,aC,aQ,aY,aG,aZ];rfl) (WC.ret ?_ ));refine⟨.sl 0 (n*2) 0 0 2,by simp[fq,f248,bK,eN,aC],⟨1,[(0,.sl 1 0 0 0 2)],[none,some (.cells [])]⟩,?_,by simp[aC,xP,h0],by simp[xQ,h0]⟩;rcases au.shrink (h:=n*2) (sz:=2) (cs:=(List.range (n*2)).map fun i=>[V.d (.int .i64 0),.ab].getD (i%2) .any)with h|h
  ·simpa using h
  ·exact absurd (by simp) h
def IC(args:List V)(H:ai):Option (V×ai):=match args,H with
 |[.ab,.d (.int .i64 (.ofNat n))],[]=>bif Nat.ble n 1048576 then some (xP n,xQ n)else none
 |_,_=>none
theorem ID{args:List V}{H:ai}{v:V}{H':ai}(h:IC args H=some (v,H')):WF P (gl W) 248 args H (fun r k=>r=v∧k=H'):=by
 unfold IC at h;split at h
 ·rename_i n;cases hc:Nat.ble n 1048576 with
   |false=>rw[hc]at h;cases h
   |true=>rw[hc]at h;simp only[aaH,aaC,aaF]at h;obtain⟨rfl,rfl⟩:=h;have:=aaM hc;exact XK n (by omega)
 ·cases h
def IE:xf:=fun aA f args H=>bif Nat.beq f 248 then IC args H else jV aA f args H
theorem IF:qy P (gl W) IE:=by
 intro aA hp f args H v H' h;unfold IE at h;cases h1:Nat.beq f 248 with
  |true=>rw[h1]at h;obtain rfl:=aaI h1;exact ID h
  |false=>rw[h1]at h;exact LF aA hp f args H v H' h
end Fw.Tz
/-
  The functions that closed runs enter.
-/
namespace Fw.Tz
open Go Go.Proofs Fw.X
noncomputable def fb(i:Nat):cL:=(aI P i).getD ⟨0,0,[],.skip⟩
theorem Pb{i:Nat}(h:(aI P i).isSome=true):aI P i=some (fb i):=by
 unfold fb;cases hc:aI P i with
  |none=>rw[hc]at h;cases h
  |some f=>rfl
theorem XL:aI P 10=some f10:=k_
theorem XM:ao P 10=true:=k_
theorem XN:aI P 20=some f20:=k_
theorem XO:ao P 20=true:=k_
theorem XP:aI P 30=some f30:=k_
theorem XQ:ao P 30=true:=k_
theorem XS:aI P 31=some f31:=k_
theorem XT:ao P 31=true:=k_
theorem XU:aI P 33=some f33:=k_
theorem XV:ao P 33=true:=k_
theorem XW:aI P 38=some f38:=k_
theorem XX:ao P 38=true:=k_
theorem XY:aI P 39=some f39:=k_
theorem XZ:ao P 39=true:=k_
theorem SI:aI P 40=some f40:=k_
theorem SJ:ao P 40=true:=k_
theorem SK:aI P 41=some f41:=k_
theorem SL:ao P 41=true:=k_
theorem X0:aI P 42=some f42:=k_
theorem X1:ao P 42=true:=k_
theorem X2:aI P 44=some f44:=k_
theorem X3:ao P 44=true:=k_
theorem SM:aI P 45=some f45:=k_
theorem SN:ao P 45=true:=k_
theorem X4:aI P 48=some f48:=k_
theorem X5:ao P 48=true:=k_
theorem X6:aI P 51=some f51:=k_
theorem X7:ao P 51=true:=k_
theorem X8:aI P 56=some f56:=k_
theorem X9:ao P 56=true:=k_
theorem SO:aI P 59=some f59:=k_
theorem SP:ao P 59=true:=k_
theorem SQ:aI P 63=some f63:=k_
theorem SR:ao P 63=true:=k_
theorem X':aI P 65=some f65:=k_
theorem X_:ao P 65=true:=k_
theorem Yp:aI P 75=some f75:=k_
theorem Yt:ao P 75=true:=k_
theorem YA:aI P 76=some f76:=k_
theorem YB:ao P 76=true:=k_
theorem YC:aI P 77=some f77:=k_
theorem YD:ao P 77=true:=k_
theorem YE:aI P 78=some f78:=k_
theorem YF:ao P 78=true:=k_
theorem YG:aI P 79=some f79:=k_
theorem YH:ao P 79=true:=k_
theorem YI:aI P 88=some f88:=k_
theorem YJ:ao P 88=true:=k_
theorem SS:aI P 89=some f89:=k_
theorem SU:ao P 89=true:=k_
theorem YK:aI P 91=some f91:=k_
theorem YL:ao P 91=true:=k_
theorem YM:aI P 92=some f92:=k_
theorem YN:ao P 92=true:=k_
theorem YO:aI P 93=some f93:=k_
theorem YP:ao P 93=true:=k_
theorem YQ:aI P 94=some f94:=k_
theorem YR:ao P 94=true:=k_
theorem SV:aI P 95=some f95:=k_
theorem SW:ao P 95=true:=k_
theorem YS:aI P 96=some f96:=k_
theorem YT:ao P 96=true:=k_
theorem SX:aI P 97=some f97:=k_
theorem SY:ao P 97=true:=k_
theorem YU:aI P 98=some f98:=k_
theorem YV:ao P 98=true:=k_
theorem YW:aI P 99=some f99:=k_
theorem YX:ao P 99=true:=k_
theorem SZ:aI P 102=some f102:=k_
theorem S0:ao P 102=true:=k_
theorem S1:aI P 103=some f103:=k_
theorem S2:ao P 103=true:=k_
theorem S3:aI P 105=some f105:=k_
theorem S4:ao P 105=true:=k_
theorem S5:aI P 108=some f108:=k_
theorem S6:ao P 108=true:=k_
theorem S7:aI P 110=some f110:=k_
theorem S8:ao P 110=true:=k_
theorem S9:aI P 111=some f111:=k_
theorem S':ao P 111=true:=k_
theorem S_:aI P 113=some f113:=k_
theorem Ta:ao P 113=true:=k_
theorem Tb:aI P 115=some f115:=k_
theorem Tc:ao P 115=true:=k_
theorem M7:aI P 116=some f116:=k_
theorem M8:ao P 116=true:=k_
theorem M9:aI P 117=some f117:=k_
theorem M':ao P 117=true:=k_
theorem Td:aI P 120=some f120:=k_
theorem Te:ao P 120=true:=k_
theorem Tf:aI P 124=some f124:=k_
theorem Tg:ao P 124=true:=k_
theorem Th:aI P 134=some f134:=k_
theorem Ti:ao P 134=true:=k_
theorem Tj:aI P 135=some f135:=k_
theorem Tk:ao P 135=true:=k_
theorem Tl:aI P 136=some f136:=k_
theorem Tm:ao P 136=true:=k_
theorem Tn:aI P 137=some f137:=k_
theorem To:ao P 137=true:=k_
theorem Tp:aI P 138=some f138:=k_
theorem Tq:ao P 138=true:=k_
theorem Tr:aI P 142=some f142:=k_
theorem Ts:ao P 142=true:=k_
theorem IG:aI P 147=some f147:=k_
theorem IH:ao P 147=true:=k_
theorem Tt:aI P 148=some f148:=k_
theorem Tu:ao P 148=true:=k_
theorem Tv:aI P 149=some f149:=k_
theorem Tw:ao P 149=true:=k_
theorem Tx:aI P 150=some f150:=k_
theorem TA:ao P 150=true:=k_
theorem TB:aI P 151=some f151:=k_
theorem TC:ao P 151=true:=k_
theorem TD:aI P 152=some f152:=k_
theorem TE:ao P 152=true:=k_
theorem TF:aI P 153=some f153:=k_
theorem TG:ao P 153=true:=k_
theorem TH:aI P 154=some f154:=k_
theorem TI:ao P 154=true:=k_
theorem TJ:aI P 159=some f159:=k_
theorem TK:ao P 159=true:=k_
theorem TL:aI P 170=some f170:=k_
theorem TM:ao P 170=true:=k_
theorem TN:aI P 171=some f171:=k_
theorem TO:ao P 171=true:=k_
theorem M_:aI P 174=some f174:=k_
theorem Nb:ao P 174=true:=k_
theorem TP:aI P 175=some f175:=k_
theorem TQ:ao P 175=true:=k_
theorem TR:aI P 177=some f177:=k_
theorem TS:ao P 177=true:=k_
theorem TT:aI P 178=some f178:=k_
theorem TU:ao P 178=true:=k_
theorem TV:aI P 181=some f181:=k_
theorem TW:ao P 181=true:=k_
theorem TX:aI P 194=some f194:=k_
theorem TY:ao P 194=true:=k_
theorem TZ:aI P 196=some f196:=k_
theorem T0:ao P 196=true:=k_
theorem T1:aI P 199=some f199:=k_
theorem T2:ao P 199=true:=k_
theorem T3:aI P 201=some f201:=k_
theorem T4:ao P 201=true:=k_
theorem T5:aI P 202=some f202:=k_
theorem T6:ao P 202=true:=k_
theorem T7:aI P 203=some f203:=k_
theorem T8:ao P 203=true:=k_
theorem T9:aI P 204=some f204:=k_
theorem T':ao P 204=true:=k_
theorem T_:aI P 205=some f205:=k_
theorem Ua:ao P 205=true:=k_
theorem Ub:aI P 223=some f223:=k_
theorem Uc:ao P 223=true:=k_
theorem Ud:aI P 241=some f241:=k_
theorem Ue:ao P 241=true:=k_
theorem Uf:aI P 242=some f242:=k_
theorem Ug:ao P 242=true:=k_
theorem Uh:aI P 254=some f254:=k_
theorem Ui:ao P 254=true:=k_
theorem Uj:aI P 255=some f255:=k_
theorem Uk:ao P 255=true:=k_
noncomputable def Ul:FT cL:=(.n (.n (.n (.n (.n (.n (.n (.n .e 10 f10 .e) 13 pM .e) 14 (fb 14) (.n .e 16 (fb 16) .e)) 17 (fb 17) (.n (.n (.n .e 18 (fb 18) .e) 19 (fb 19) .e) 20 f20 (.n .e 21 (fb 21) .e))) 22 zM (.n (.n (.n (.n .e 23 (fb 23) .e) 30 f30 .e) 31 f31 (.n .e 32 f32 .e)) 33 f33 (.n (.n (.n .e 38 f38 .e) 39 f39 .e) 40 f40 (.n .e 41 f41 .e)))) 42 f42 (.n (.n (.n (.n (.n .e 43 (fb 43) .e) 44 f44 .e) 45 f45 (.n .e 46 (fb 46) .e)) 48 f48 (.n (.n (.n .e 50 (fb 50) .e) 51 f51 .e) 52 (fb 52) (.n .e 53 (fb 53) .e))) 54 (fb 54) (.n (.n (.n (.n .e 55 (fb 55) .e) 56 f56 .e) 57 zO (.n .e 58 (fb 58) .e)) 59 f59 (.n (.n .e 60 (fb 60) .e) 61 (fb 61) (.n .e 62 (fb 62) .e))))) 63 f63 (.n (.n (.n (.n (.n (.n .e 64 (fb 64) .e) 65 f65 .e) 68 (fb 68) (.n .e 75 f75 .e)) 76 f76 (.n (.n (.n .e 77 f77 .e) 78 f78 .e) 79 f79 (.n .e 87 (fb 87) .e))) 88 f88 (.n (.n (.n (.n .e 89 f89 .e) 90 (fb 90) .e) 91 f91 (.n .e 92 f92 .e)) 93 f93 (.n (.n .e 94 f94 .e) 95 f95 (.n .e 96 f96 .e)))) 97 f97 (.n (.n (.n (.n (.n .e 98 f98 .e) 99 f99 .e) 100 (fb 100) (.n .e 102 f102 .e)) 103 f103 (.n (.n (.n .e 105 f105 .e) 106 (fb 106) .e) 108 f108 (.n .e 109 (fb 109) .e))) 110 f110 (.n (.n (.n (.n .e 111 f111 .e) 112 (fb 112) .e) 113 f113 (.n .e 114 (fb 114) .e)) 115 f115 (.n (.n .e 116 f116 .e) 117 f117 (.n .e 119 (fb 119) .e)))))) 120 f120 (.n (.n (.n (.n (.n (.n (.n .e 121 (fb 121) .e) 123 (fb 123) .e) 124 f124 (.n .e 134 f134 .e)) 135 f135 (.n (.n (.n .e 136 f136 .e) 137 f137 .e) 138 f138 (.n .e 141 (fb 141) .e))) 142 f142 (.n (.n (.n (.n .e 143 (fb 143) .e) 144 (fb 144) .e) 145 (fb 145) (.n .e 146 (fb 146) .e)) 147 f147 (.n (.n .e 148 f148 .e) 149 f149 (.n .e 150 f150 .e)))) 151 f151 (.n (.n (.n (.n (.n .e 152 f152 .e) 153 f153 .e) 154 f154 (.n .e 159 f159 .e)) 162 (fb 162) (.n (.n (.n .e 164 (fb 164) .e) 165 (fb 165) .e) 168 (fb 168) (.n .e 169 (fb 169) .e))) 170 f170 (.n (.n (.n (.n .e 171 f171 .e) 174 f174 .e) 175 f175 (.n .e 176 (fb 176) .e)) 177 f177 (.n (.n .e 178 f178 .e) 179 (fb 179) (.n .e 180 (fb 180) .e))))) 181 f181 (.n (.n (.n (.n (.n (.n .e 194 f194 .e) 196 f196 .e) 197 (fb 197) (.n .e 198 (fb 198) .e)) 199 f199 (.n (.n (.n .e 200 (fb 200) .e) 201 f201 .e) 202 f202 (.n .e 203 f203 .e))) 204 f204 (.n (.n (.n (.n .e 205 f205 .e) 207 (fb 207) .e) 208 (fb 208) (.n .e 209 (fb 209) .e)) 210 (fb 210) (.n (.n .e 223 f223 .e) 227 (fb 227) (.n .e 228 (fb 228) .e)))) 229 (fb 229) (.n (.n (.n (.n (.n .e 230 (fb 230) .e) 231 (fb 231) .e) 232 (fb 232) (.n .e 236 (fb 236) .e)) 237 (fb 237) (.n (.n (.n .e 240 (fb 240) .e) 241 f241 .e) 242 f242 (.n .e 249 (fb 249) .e))) 254 f254 (.n (.n (.n (.n .e 255 f255 .e) 268 (fb 268) .e) 269 (fb 269) (.n .e 270 (fb 270) .e)) 272 (fb 272) (.n (.n .e 274 (fb 274) .e) 282 (fb 282) (.n .e 299 (fb 299) .e)))))))
noncomputable def VG:FT cL→FT cL| .e=>.e| .n l k _ r=>.n (VG l) k (fb k) (VG r)
noncomputable def VH:FT cL→Bool| .e=>true| .n l k _ r=>(aI P k).isSome&&(ao P k&&(VH l&&VH r))
theorem xR:∀t,VH t=true→tQ (fun f fn=>aI P f=some fn∧ao P f=true) (VG t)| .e,_=>trivial| .n l k _ r,h=>by simp only[VH,aaD]at h;exact⟨xR l h.2.2.1,⟨Pb h.1,h.2.1⟩,xR r h.2.2.2⟩
theorem Pd:tQ (fun f fn=>aI P f=some fn∧ao P f=true) Ul:=(show VG Ul=Ul by kernel_rfl)▸xR Ul k_
def eO(f:FuncId):List Nat:=bif Nat.beq f 88 then[5]else bif Nat.beq f 43 then[3]else bif Nat.beq f 170 then[5]else bif Nat.beq f 99 then[3]else bif Nat.beq f 136 then[16]else bif Nat.beq f 78 then[16]else bif Nat.beq f 11 then[167]else bif Nat.beq f 84 then[5]else bif Nat.beq f 15 then[61]else bif Nat.beq f 35 then[92]else bif Nat.beq f 9 then[126]else bif Nat.beq f 29 then[62]else[]
def rf(f:FuncId):Bool:=Nat.beq f 144||Nat.beq f 88||Nat.beq f 200||Nat.beq f 181||Nat.beq f 154
end Fw.Tz
/-
  The quicker run over the program's functions.
-/
namespace Fw.Tz
open Go Go.Proofs Fw.X
def uW:FT Nat:=(.n (.n (.n (.n (.n (.n .e 42 0 .e) 48 0 .e) 51 0 (.n .e 59 0 .e)) 88 0 (.n (.n (.n .e 89 0 .e) 94 0 .e) 97 0 (.n .e 101 0 .e))) 104 0 (.n (.n (.n (.n .e 107 0 .e) 108 0 .e) 110 0 (.n .e 118 0 .e)) 143 0 (.n (.n (.n .e 144 0 .e) 149 0 .e) 150 0 (.n .e 154 0 .e)))) 160 0 (.n (.n (.n (.n (.n .e 161 0 .e) 163 0 .e) 165 0 (.n .e 167 0 .e)) 170 0 (.n (.n (.n .e 172 0 .e) 173 0 .e) 175 0 (.n .e 181 0 .e))) 200 0 (.n (.n (.n (.n .e 203 0 .e) 206 0 .e) 232 0 (.n .e 235 0 .e)) 248 0 (.n (.n .e 271 0 .e) 273 0 (.n .e 275 0 .e)))))
noncomputable def um(_:World)(kt:FT Nat)(ex:Extra)(jT:bd):bd:=WM kt ex rf IE (pr LD) jT
noncomputable def mZ(kt:FT Nat)(ex:Extra)(jT:bd):aU:=Of kt ex rf (pr LD) jT
noncomputable def pT(W:World)(kt:FT Nat)(ex:Extra)(d:Nat):bd:=K8 eO (gl W) Ul (um W kt ex) (mZ kt ex) 1000 d
noncomputable def VI(W:World)(kt:FT Nat)(ex:Extra)(d:Nat):aU:=mZ kt ex (pT W kt ex d)
variable {W:World}
theorem bG:P.follows .mixedOrders=true:=k_
theorem jL(hW:W0 W){kt:FT Nat}{ex:Extra}(he:u_ P (gl W) ex):∀jT,bQ P (gl W) jT→bQ P (gl W) (um W kt ex jT):=Og he IF (DK hW)
theorem fY(hW:W0 W){kt:FT Nat}{ex:Extra}(he:u_ P (gl W) ex):∀jT,bQ P (gl W) jT→bu P (gl W) (mZ kt ex jT):=K3 he (DK hW)
theorem eT(hW:W0 W){kt:FT Nat}{ex:Extra}(he:u_ P (gl W) ex)(d:Nat):bQ P (gl W) (pT W kt ex d):=by unfold pT;rw[Ds];exact Dm bG Pd (jL hW he) (fY hW he) 1000 d
theorem B2(hW:W0 W){kt:FT Nat}{ex:Extra}(he:u_ P (gl W) ex)(d:Nat):bu P (gl W) (VI W kt ex d):=fY hW he _ (eT hW he d)
theorem rU:u_ P (gl W) .e:=trivial
theorem cZ:∀{x y:List UInt8},Fw.ae x y=true→x=y
 |[],[],_=>rfl
 |[],_::_,h=>by simp[Fw.ae]at h
 |_::_,[],h=>by simp[Fw.ae]at h
 |a::x,b::y,h=>by
  simp only[Fw.ae]at h;cases hb:Nat.beq a.toNat b.toNat with
   |false=>rw[hb]at h;cases h
   |true=>rw[hb]at h;rw[cZ h,acC.1 (aaI hb)]
def VJ:List (List UInt8×V)→List UInt8→Option V|[],_=>none|(k,v)::l,s=>bif Fw.ae k s then some v else VJ l s
theorem II{p:List UInt8→V→Prop}:∀{l:List (List UInt8×V)}{s:List UInt8}{v:V},(∀q∈l,p q.1 q.2)→VJ l s=some v→p s v
 |[],_,_,_,h=>by cases h
 |(k,u)::l,s,v,hl,h=>by
  simp only[VJ]at h;cases hb:Fw.ae k s with
   |true=>rw[hb]at h;simp only[aaH,aaC]at h;subst h;rw[←cZ hb];exact hl _ ab'
   |false=>rw[hb]at h;exact II (fun q hq=>hl q (ab0 _ hq)) h
def LH(l:List (List UInt8×V)):List V→Option V|[.d (.str s)]=>VJ l s|_=>none
theorem DL{f:FuncId}{l:List (List UInt8×V)}(h:∀q∈l,PC P (gl W) f [.d (.str q.1)] q.2):∀args r,LH l args=some r→PC P (gl W) f args r:=by
 intro args r hr;unfold LH at hr;split at hr
 ·exact II (p:=fun s v=>PC P (gl W) f [.d (.str s)] v) h hr
 ·cases hr
end Fw.Tz
/-
  The interpreter over the program's functions, and what its answers prove.
-/
namespace Fw.Tz
open Go Go.Proofs Fw.X
noncomputable def kD(W:World)(d:Nat):aU:=VI W uW .e d
variable {W:World}
theorem bH(hW:W0 W)(d:Nat):bu P (gl W) (kD W d):=B2 hW rU d
end Fw.Tz
