/-
  The abstract machine: data, values, own boxes, the operations as they are used here, and what each of them computes.
-/
import Derived.Orders
import Derived.KernelRfl
import Derived.Below
import Derived.Laws.AppendOwn
import Derived.Laws.CopyRow
import Derived.ControlIn
import Derived.Scope
import Derived.Laws.Entries
import Derived.Laws.Append
import Derived.Lib.Strings
set_option linter.defProp false
def aap:=@List.length_append
def aaq:=@List.length_cons
def aar:=@List.length_nil
def aas:=@Bool.and_eq_true
def aat:=@Option.some.injEq
def aau:=@List.mem_of_getElem?
def aav:=@Nat.eq_of_beq_eq_true
def aaw:=@cond_true
def aax:=@Nat.le_of_ble_eq_true
def aay:=@Prod.mk.injEq
def aaz:=@List.getElem?_eq_getElem
def aaA:=@List.getElem?_eq_some_iff
def aaB:=@Option.map_eq_some_iff
def aaC:=@List.length_map
def aaD:=@if_pos
def aaE:=@Nat.le_refl
def aaF:=@decide_eq_true_eq
def aaG:=@List.map_cons
def aaH:=@if_neg
def aaI:=@Option.map_some
def aaJ:=@List.all_eq_true
def aaK:=@cond_false
def aaL:=@decide_eq_false
def aaM:=@List.all_cons
def aaN:=@List.findIdx?_cons
def aaO:=@Nat.zero_le
def aaP:=@Array.getD_eq_getD_getElem?
def aaQ:=@decide_eq_true
def aaR:=@Nat.zero_add
def aaS:=@Nat.beq_refl
def aaT:=@List.flatMap_cons
def aaU:=@Nat.blt_eq
def aaV:=@Bool.true_and
def aaW:=@Bool.and_true
def aaX:=@List.mem_cons
def aaY:=@Nat.lt_of_lt_of_le
def aaZ:=@List.mem_cons_of_mem
def aa0:=@List.mem_singleton
def aa1:=@Nat.mul_le_mul_right
def aa2:=@List.length_singleton
def aa3:=@Array.toList_inj
def aa4:=@List.getElem?_take
def aa5:=@List.map_nil
def aa6:=@Array.getElem?_eq_some_iff
def aa7:=@Option.bind_eq_some_iff
def aa8:=@List.mem_append
def aa9:=@List.getElem?_map
def aa':=@Bool.and_self
def aa_:=@Bool.eq_iff_iff
def aba:=@Int.ofNat_eq_natCast
def abb:=@List.findIdx?_isSome
def abc:=@List.sum_cons
def abd:=@Nat.ble_eq_true_of_le
def abe:=@List.findIdx?_eq_some_iff_getElem
def abf:=@decide_eq_false_iff_not
def abg:=@List.mem_map
def abh:=@List.getD_eq_getElem?_getD
def abi:=@List.drop_zero
def abj:=@Option.map_none
def abk:=@List.drop_eq_getElem_cons
def abl:=@List.map_append
def abm:=@List.take_length
def abn:=@List.mem_range
def abo:=@Nat.le_mul_of_pos_right
def abp:=@List.foldl_cons
def abq:=@Bool.or_eq_true
def abr:=@List.dropWhile_cons
def abt:=@Nat.le_trans
def abu:=@Nat.lt_or_ge
def abv:=@List.getElem?_append_right
def abw:=@Nat.mod_two_eq_zero_or_one
def abx:=@Option.getD_some
def aby:=@List.not_mem_nil
def abz:=@List.length_take
def abA:=@Bool.false_eq_true
def abB:=@Array.getElem?_modify
def abC:=@List.mem_cons_self
def abD:=@List.getElem?_append_left
def abE:=@Nat.shiftRight_eq_div_pow
def abF:=@Array.getElem?_setIfInBounds_ne
def abG:=@Nat.ble_eq
def abH:=@List.cons_append
def abI:=@Nat.add_mul
def abJ:=@if_true
def abK:=@List.mem_filter
def abL:=@List.append_nil
def abM:=@of_decide_eq_true
def abN:=@if_false
def abO:=@Array.all_eq_true_iff_forall_mem
def abP:=@List.replicate_succ
def abQ:=@List.map_congr_left
def abR:=@Nat.and_one_is_mod
def abS:=@Nat.mul_one
def abT:=@List.eq_nil_of_length_eq_zero
def abU:=@List.take_append_of_le_length
def abV:=@List.drop_append_of_le_length
def abW:=@Bool.not_eq_true'
def abX:=@List.map_map
def abY:=@Nat.mod_lt
def abZ:=@Nat.eq_of_mul_eq_mul_right
def ab0:=@Bool.not_true
def ab1:=@Array.getElem?_append_left
def ab2:=@Array.getElem?_setIfInBounds_self_of_lt
def ab3:=@List.drop_succ_cons
def ab4:=@List.flatMap_append
def ab5:=@List.take_succ_cons
def ab6:=@UInt8.toNat_inj
def ab7:=@List.nodup_cons
def ab8:=@List.mem_or_eq_of_mem_set
def ab9:=@and_true
def ab':=@Bool.and_false
def ab_:=@Nat.mul_add
def aca:=@congrArg
def acb:=@List.range'_succ
def acd:=@or_false
def ace:=@List.length_drop
def acf:=@Nat.mod_eq_of_lt
def acg:=@List.cons_ne_nil
def ach:=@List.take_append_drop
def aci:=@Nat.add_zero
def acj:=@Nat.mul_eq_zero
def ack:=@List.cons.injEq
def acm:=@Nat.not_lt_zero
def acn:=@Nat.sub_zero
def aco:=@List.nil_append
def acp:=@Nat.succ_mul
def acq:=@Option.some.inj
def acr:=@Array.toList_append
def acs:=@List.getD_cons_succ
def acu:=@List.map_eq_nil_iff
def acv:=@List.mem_map_of_mem
def acw:=@List.mergeSort_perm
def acx:=@List.drop_drop
def acy:=@List.getElem?_drop
def acz:=@Nat.eq_zero_or_pos
def acA:=@UInt8.toNat_ofNat'
def acB:=@List.ext_getElem?
def acC:=@List.flatten_cons
def acD:=@Int.toNat_natCast
def acE:=@List.append_assoc
def acF:=@Nat.sub_self
def acG:=@Nat.le_of_lt
def acH:=@getElem!_pos
def acI:=@List.sum_nil
set_option linter.unusedSimpArgs false
set_option linter.unusedVariables false
theorem k_.{u} {α:Sort u} {a b:α} (h:a=b:=by kernel_rfl):a=b:=h
namespace Fw
open Go
inductive D where
 |bool (b:Bool)
 |int (k:IntKind) (n:Int)
 |str (s:List UInt8)
 |list (es:List (List D))
 |sN (n:Nat)
 deriving Inhabited
inductive V where
 |any
 |d (x:D)
 |aj
 |ptr (b h off:Nat)
 |lu
 |aL (cs:List D)
 |sl (b h off len sz:Nat)
 |map (b:Nat)
 |kj
 |func (f:FuncId) (first cap:List V)
 |ob
 |iface (t:TypeId) (v:V)
 |bD
 |fA
 |agg (cs:List V)
 |tuple (vs:List V)
 |iter (b m:Nat)
 |full (es:List (List D))
 |gJ (b:Nat)
 deriving Inhabited
def eC:V->Bool| .any=>false| .agg _=>false| .tuple _=>false|_=>true
inductive aX where
 |t (n:Nat)
 |c (v:V)
 |g (n:Nat)
 |f (n:FuncId)
 deriving Inhabited
inductive km where
 |str|slice|map|arr (n:Nat)
 deriving Inhabited
inductive dn where
 |int|str|bool
 deriving Inhabited
inductive pS where
 |bool|ptr|iface|slice|func
 deriving Inhabited
inductive jG where
 |mv (x:aX)
 |pick (c a b:aX)
 |alloc (z:List V)
 |box (n:Nat) (x:aX)
 |build (z:List V) (ps:List (Nat×Nat×aX))
 |mkSlice (sz:Nat) (len:Nat) (z:List V) (ps:List (Nat×Nat×aX))
 |load (n:Nat) (agg:Bool) (a:aX)
 |store (n:Nat) (a x:aX)
 |kp (x:aX)
 |bin (op:BinOp) (x y:aX)
 |eq (neg:Bool) (k:pS) (x y:aX)
 |Ca (neg:Bool) (ks:List dn) (x y:aX)
 |un (op:UnOp) (x:aX)
 |conv (k:IntKind) (x:aX)
 |same (x:aX)
 |kq (x:aX)
 |h_ (f:FuncId) (first cap:List aX)
 |AV
 |ic (x:aX) (lo hi:Option aX)
 |nD (sz:Nat) (x:aX) (lo hi:Option aX)
 |lD (n sz:Nat) (x:aX) (lo hi:Option aX)
 |N1 (off n:Nat) (agg:Bool) (x:aX)
 |cJ (off n:Nat) (x:aX)
 |a_ (sz:Nat) (x i:aX)
 |rN (len sz:Nat) (x i:aX)
 |jh (x i:aX)
 |Hv (len sz:Nat) (agg:Bool) (x i:aX)
 |ext (x:aX) (i:Nat)
 |len (k:km) (x:aX)
 |append (sz bytes:Nat) (x y:aX)
 |nb (sz bytes:Nat) (z:List V) (l c:aX)
 |cap (x:aX)
 |oc (sz bytes:Nat) (z:List V) (x n:aX)
 |lookup (kk:dn) (z:V) (ok:Bool) (m k:aX)
 |iO (kk:dn) (m k x:aX)
 |range (ZO:Bool) (x:aX)
 |od (x:aX)
 |f_ (x:aX)
 |entry (x:aX)
 |rE (t:TypeId) (x:aX)
 |nF (isMax:Bool) (xs:List aX)
 |call (f:FuncId) (args:List aX)
 |b_ (x:aX) (args:List aX)
 |clip (sz:Nat) (x hi mx:aX)
 |bad
 deriving Inhabited
structure ab where
 dst:Option Nat
 op:jG
 guard:Option (Nat×Bool)
 after:List Nat:=[]
 deriving Inhabited
inductive IR where
 |skip
 |region (ops:List ab)
 |draw (ops:List ab)
 |seq (a b:IR)
 |cond (c:aX) (a b:IR)
 |block (id:Nat) (b:IR)
 |loop (b:IR)
 |exit (id:Nat)
 |ret
 |dC (f:aX) (ps:List Nat) (ca cb:Code)
 deriving Inhabited
inductive ku where
 |ready
 |busy
 |done (e:Option Nat)
 |over
 deriving Inhabited
inductive bW where
 |cells (cs:List V)
 |nil
 |map (es:List (D×V))
 |uo (s:List UInt8) (pos:Nat)
 |bM (m n:Nat) (seen:List Nat)
 |loop (n:Nat) (tm:List (Nat×V)) (ps:List Nat) (ca cb:Code) (st:ku)
 deriving Inhabited
abbrev ao:=List (Option bW)
inductive jH where
 |t (n:Nat)
 |cell (n:Nat) (size:Nat) (agg:Bool)
 deriving Inhabited
structure bL where
 nparams:Nat
 ntmps:Nat
 res:List jH
 body:IR
 deriving Inhabited
def get:List (Nat×V)->Nat->V|[],_=>.any|(s,u)::l,t=>bif Nat.beq s t then u else get l t
def put:List (Nat×V)->Nat->V->List (Nat×V)|[],t,v=>[(t,v)]|(s,u)::l,t,v=>bif Nat.beq s t then(t,v)::l else bif Nat.ble t s then(t,v)::(s,u)::l else(s,u)::put l t v
structure St where
 n:Nat
 tm:List (Nat×V)
 hp:ao
 deriving Inhabited
def aA:ao->Nat->Option bW|[],_=>none|b::_,0=>b|_::l,n+1=>aA l n
def aR:ao->Nat->bW->ao|[],0,x=>[some x]|[],n+1,x=>none::aR [] n x|_::l,0,x=>some x::l|b::l,n+1,x=>b::aR l n x
abbrev Wr:=Option (Nat×bW)
def bn(H:ao):Wr->ao|none=>H|some (b,x)=>aR H b x
structure bR where
 rd:Nat->Option (List D)
 w0:World
def aW(GL:bR)(tm:List (Nat×V)):aX->V
 | .t n=>get tm n
 | .c v=>v
 | .g n=>match GL.rd n with|some cs=>.aL cs|none=>.any
 | .f f=>.func f [] []
def AX(agg:Bool)(cs:List V):Option V:=bif agg then some (V.agg cs)else match cs with|[v]=>some v|_=>none
def bP:V->List V| .agg cs=>cs|v=>[v]
def fl(sz:Nat):Nat->List D->List (List D)|0,_=>[]|n+1,l=>l.take sz::fl sz n (l.drop sz)
def gp:List V->Option (List D)|[]=>some []| .d x::l=>(gp l).map (x:: ·)| .aj::l=>(gp l).map (.list []:: ·)|_=>none
def bS{α β:Type}(f:α->Option β):List α->Option (List β)
 |[]=>some []
 |x::xs=>
  match f x with
   |none=>none
   |some y=>
    match bS f xs with
     |none=>none
     |some ys=>some (y::ys)
def kX(H:ao):Nat->V->Option D
 |_,.d x=>some x
 |_,.aj=>some (.list [])
 |f+1,.sl b h off len sz=>
  match aA H b with
   |some (.cells cs)=>
    bif Nat.beq cs.length h&&Nat.ble (off+len*sz) h then
     match bS (kX H f) ((cs.drop off).take (len*sz))with
      |some l=>some (.list (fl sz len l))
      |none=>none
    else none
   |some .nil=>bif Nat.beq len 0 then some (.list [])else none
   |_=>none
 |_,_=>none
def rO:Nat:=6
def oe(H:ao):V->Option V
 | .agg cs=>
  match bS (kX H rO) cs with
   |some l=>some (.agg (l.map V.d))
   |none=>none
 | .fA=>some .fA
 | .bD=>some .bD
 | .lu=>some .lu
 |v=>
  match kX H rO v with
   |some x=>some (.d x)
   |none=>none
def gR(H:ao):V->Option V
 | .tuple vs=>
  match bS (oe H) vs with
   |some l=>some (.tuple l)
   |none=>none
 |v=>oe H v
def bytesLess:List UInt8->List UInt8->Bool|_,[]=>false|[],_::_=>true|a::x,b::y=>bif Nat.blt a.toNat b.toNat then true else bif Nat.beq a.toNat b.toNat then bytesLess x y else false
def ah:List UInt8->List UInt8->Bool|[],[]=>true|a::x,b::y=>bif Nat.beq a.toNat b.toNat then ah x y else false|_,_=>false
def DZ(op:BinOp)(k:IntKind)(a b:Int):Option D:=match op with
 | .add=>some (.int k (k.wrap (a+b)))
 | .sub=>some (.int k (k.wrap (a - b)))
 | .mul=>some (.int k (k.wrap (a*b)))
 | .quo=>if b=0 then none else some (.int k (k.wrap (a.tdiv b)))
 | .rem=>if b=0 then none else some (.int k (a.tmod b))
 | .and=>some (.int k (k.wrap (BitVec.ofInt k.bits a&&&BitVec.ofInt k.bits b).toNat))
 | .eql=>some (.bool (a==b))
 | .neq=>some (.bool (a !=b))
 | .lss=>some (.bool (decide (a<b)))
 | .leq=>some (.bool (decide (a<=b)))
 | .gtr=>some (.bool (decide (b<a)))
 | .geq=>some (.bool (decide (b<=a)))
 |_=>none
def iP:Nat:=2^62
def zr(op:BinOp)(a b:List UInt8):Option D:=match op with
 | .add=>if a.length+b.length<=iP then some (.str (a++b))else none
 | .eql=>some (.bool (ah a b))
 | .neq=>some (.bool (!ah a b))
 | .lss=>some (.bool (bytesLess a b))
 | .leq=>some (.bool (bytesLess a b||ah a b))
 | .gtr=>some (.bool !(bytesLess a b||ah a b))
 | .geq=>some (.bool !bytesLess a b)
 |_=>none
def oh(op:BinOp)(a b:Nat):Option D:=match op with
 | .add=>bif Nat.ble (a+b) iP then some (.sN (a+b))else none
 |_=>none
def pT(op:BinOp):V->V->Option V| .d (.int k a),.d (.int k' b)=>if k=k' then(DZ op k a b).map .d else none| .d (.str a),.d (.str b)=>(zr op a b).map .d| .d (.str a),.d (.sN m)=>(oh op a.length m).map .d| .d (.sN n),.d (.str b)=>(oh op n b.length).map .d| .d (.sN n),.d (.sN m)=>(oh op n m).map .d|_,_=>none
def AY:D->D->Option Bool| .int k a,.int k' b=>if k=k' then some (a==b)else none| .str a,.str b=>some (ah a b)| .bool a,.bool b=>some (a==b)|_,_=>none
def gf:dn->D->Bool| .int,.int _ _=>true| .str,.str _=>true| .bool,.bool _=>true|_,_=>false
def iQ:List dn->List V->List V->Option Bool
 |[],[],[]=>some true
 |k::ks,.d x::xs,.d y::ys=>
  bif gf k x then
   match AY x y with
    |some true=>iQ ks xs ys
    |some false=>some false
    |none=>none else none
 |_,_,_=>none
def vC(H:ao)(b h:Nat):Option Bool:=match aA H b with
 |some (.cells cs)=>bif Nat.beq cs.length h then some false else none
 |some .nil=>bif Nat.beq h 0 then some true else none
 |_=>none
def Hj(H:ao)(k:pS)(x y:V):Option Bool:=match k,x,y with
 | .slice,.sl b h _ _ _,.aj=>vC H b h
 | .slice,.aj,.sl b h _ _ _=>vC H b h
 | .bool,.d (.bool a),.d (.bool b)=>some (a==b)
 | .iface,.fA,.fA=>some true
 | .iface,.bD,.fA=>some false
 | .iface,.fA,.bD=>some false
 | .iface,.iface _ _,.fA=>some false
 | .iface,.fA,.iface _ _=>some false
 | .slice,.aj,.aj=>some true
 | .slice,.d (.list (_::_)),.aj=>some false
 | .slice,.aj,.d (.list (_::_))=>some false
 |_,_,_=>none
def T'(op:UnOp):V->Option V
 | .d (.int k a)=>
  match op with
   | .neg=>some (.d (.int k (k.wrap (0 - a))))
   |_=>none
 | .d (.bool b)=>
  match op with
   | .not=>some (.d (.bool !b))
   |_=>none
 |_=>none
def putCells{α:Type}:List α->Nat->List α->List α|l,_,[]=>l|l,i,v::vs=>putCells (l.set i v) (i+1) vs
def eR(ρ:aX->V):List V->List (Nat×Nat×aX)->Option (List V)|cs,[]=>some cs|cs,(off,size,x)::ps=>let vs:=bP (ρ x);bif Nat.beq vs.length size&&Nat.ble (off+size) cs.length&&vs.all eC then eR ρ (putCells cs off vs) ps else none
def jq(H:ao)(n:Nat):V->Option (List V)
 | .ptr b h off=>
  match aA H b with
   |some (.cells cs)=>bif Nat.beq cs.length h&&Nat.ble (off+n) h then some ((cs.drop off).take n)else none
   |_=>none
 | .aL cs=>bif Nat.ble n cs.length then some ((cs.take n).map .d)else none
 |_=>none
def dL(H:ao)(n:Nat)(a x:V):Option (Nat×bW):=match a with
 | .ptr b h off=>
  match aA H b with
   |some (.cells cs)=>bif Nat.beq cs.length h&&Nat.ble (off+n) h&&Nat.beq (bP x).length n&&(bP x).all eC then some (b,.cells (putCells cs off (bP x)))else none
   |_=>none
 |_=>none
def bE(H:ao)(sz:Nat):V->Option (List V)
 | .aj=>some []
 | .d (.list es)=>bif es.all (fun e=>Nat.beq e.length sz)then some (es.flatten.map .d)else none
 | .d (.str s)=>bif Nat.beq sz 1 then some (s.map fun b=>.d (.int .u8 b.toNat))else none
 | .sl b h off len uq=>
  bif Nat.beq sz uq then
   match aA H b with
    |some (.cells cs)=>bif Nat.beq cs.length h&&Nat.ble (off+len*sz) h then some ((cs.drop off).take (len*sz))else none
    |some .nil=>bif Nat.beq len 0 then some []else none
    |_=>none
  else none
 |_=>none
def kx:List V->Option (List UInt8)
 |[]=>some []
 | .d (.int .u8 n)::l=>
  match kx l with
   |some s=>some (UInt8.ofNat n.toNat::s)
   |none=>none
 |_=>none
def dh:V->Option Nat| .d (.int _ n)=>if 0<=n then some n.toNat else none|_=>none
def eL(H:ao)(b h:Nat):Bool:=match aA H b with
 |some (.cells cs)=>Nat.beq cs.length h
 |some .nil=>Nat.beq h 0
 |_=>false
def jI(H:ao)(k:km):V->Option Nat
 | .d (.str s)=>match k with| .str=>some s.length|_=>none
 | .d (.list es)=>match k with| .slice=>some es.length|_=>none
 | .aj=>match k with| .slice=>some 0|_=>none
 | .sl b h _ len _=>match k with| .slice=>bif eL H b h then some len else none|_=>none
 | .kj=>match k with| .map=>some 0|_=>none
 | .map b=>match k,aA H b with| .map,some (.map es)=>some es.length|_,_=>none
 |_=>none
def cf:Nat:=2^40
def dM(H:ao)(ns sz bytes:Nat)(x:V)(xs:List V):Option (V×Wr):=bif Nat.beq sz 0 then none else
 bif !(Nat.beq (xs.length%sz) 0)then none else
  bif !(xs.all eC)then none else
   match x with
    | .aj=>
     match xs with
      |[]=>some (.aj,none)
      |_=>bif Nat.ble (xs.length*(bytes+1)) cf then some (.sl ns xs.length 0 (xs.length / sz) sz,some (ns,.cells xs))else none
    | .sl b h off len uq=>
     bif Nat.beq sz uq then
      match aA H b with
       |some (.cells cs)=>
        bif Nat.beq cs.length h&&Nat.beq off 0&&Nat.beq (len*sz) h&&Nat.ble ((h+xs.length)*(bytes+1)) cf then some (.sl b (h+xs.length) 0 (len+xs.length / sz) sz,some (b,.cells (cs++xs)))
        else none
       |some .nil=>
        bif Nat.beq h 0&&Nat.beq off 0&&Nat.beq len 0 then
         match xs with
          |[]=>some (x,none)
          |_=>bif Nat.ble (xs.length*(bytes+1)) cf then some (.sl b xs.length 0 (xs.length / sz) sz,some (b,.cells xs))else none
        else none
       |_=>none
     else none
    | .full es=>bif es.all (fun e=>Nat.beq e.length sz)&& !xs.isEmpty&&Nat.ble ((es.flatten.length+xs.length)*(bytes+1)) cf then some (.sl ns (es.flatten.length+xs.length) 0 (es.length+xs.length / sz) sz,some (ns,.cells (es.flatten.map .d++xs)))else none
    |_=>none
def bounds(ρ:aX->V)(len:Nat)(lo hi:Option aX):Option (Nat×Nat):=match(match hi with|some x=>dh (ρ x)|none=>some len)with
 |none=>none
 |some h=>
  match(match lo with|some x=>dh (ρ x)|none=>some 0)with
   |none=>none
   |some l=>bif Nat.ble l h&&Nat.ble h len then some (l,h)else none
def qI(k:D):List (D×V)->Nat->Option (Option (Nat×V))
 |[],_=>some none
 |(x,v)::es,i=>
  match AY k x with
   |some true=>some (some (i,v))
   |some false=>qI k es (i+1)
   |none=>none
def qJ(H:ao):V->Option (List (D×V))
 | .kj=>some []
 | .map b=>match aA H b with|some (.map es)=>some es|_=>none
 |_=>none
def bQ(ρ:aX->V):List aX->List V|[]=>[]|x::xs=>ρ x::bQ ρ xs
def nG(isMax:Bool):Int->List V->IntKind->Option Int|a,[],_=>some a|a,.d (.int k b)::l,k'=>if k=k' then nG isMax (if isMax then(if a<b then b else a)else(if b<a then b else a)) l k' else none|_,_,_=>none
def xn(b hh off sz l h:Nat):V:=bif Nat.beq l h&& !(Nat.beq l 0)then .d (.list [])else .sl b hh (off+l*sz) (h - l) sz
def bw(ρ:aX->V)(H:ao)(ns:Nat):jG->Option (V×Wr)
 | .mv x=>some (ρ x,none)
 | .pick c a b=>
  match ρ c with
   | .d (.bool t)=>some (bif t then ρ a else ρ b,none)
   |_=>none
 | .alloc z=>some (.ptr ns z.length 0,some (ns,.cells z))
 | .box n x=>let cs:=bP (ρ x);bif Nat.beq cs.length n&&cs.all eC then some (.ptr ns n 0,some (ns,.cells cs))else none
 | .build z ps=>(eR ρ z ps).map fun cs=>(.agg cs,none)
 | .mkSlice sz len z ps=>bif Nat.beq z.length (len*sz)&&z.all eC then(eR ρ z ps).map fun cs=>(.sl ns (len*sz) 0 len sz,some (ns,.cells cs))else none
 | .load n agg a=>
  match jq H n (ρ a)with
   |some cs=>(AX agg cs).map fun v=>(v,none)
   |none=>none
 | .store n a x=>(dL H n (ρ a) (ρ x)).map fun p=>(.any,some p)
 | .kp x=>
  match ρ x with
   | .ptr b h off=>some (.ptr b h off,none)
   | .aL cs=>some (.aL cs,none)
   | .func f a b=>some (.func f a b,none)
   |_=>none
 | .bin op x y=>(pT op (ρ x) (ρ y)).map fun v=>(v,none)
 | .eq neg k x y=>(Hj H k (ρ x) (ρ y)).map fun b=>(.d (.bool (bif neg then !b else b)),none)
 | .Ca neg ks x y=>
  match ρ x with
   | .agg a=>
    match ρ y with
     | .agg b=>
      match iQ ks a b with
       |some r=>some (.d (.bool (bif neg then !r else r)),none)
       |none=>none
     |_=>none
   |_=>none
 | .un op x=>(T' op (ρ x)).map fun v=>(v,none)
 | .conv k x=>
  match ρ x with
   | .d (.int _ n)=>some (.d (.int k (k.wrap n)),none)
   |_=>none
 | .same x=>
  match ρ x with
   | .sl b h off len sz=>
    match bE H 1 (.sl b h off len sz)with
     |some xs=>
      match kx xs with
       |some s=>some (.d (.str s),none)
       |none=>none
     |none=>none
   |_=>none
 | .kq x=>
  match ρ x with
   | .d (.str s)=>some (.d (.list (s.map fun b=>[.int .u8 b.toNat])),none)
   |_=>none
 | .nb sz bytes z l c=>
  match dh (ρ l),dh (ρ c)with
   |some l,some c=>bif Nat.ble l c&&Nat.ble (c*(bytes+1)) cf&&Nat.ble c cf&&z.all eC&&Nat.beq z.length sz&&Nat.blt 0 sz then some (.sl ns (l*sz) 0 l sz,some (ns,.cells ((List.range (l*sz)).map fun i=>z.getD (i%sz) .any)))else none
   |_,_=>none
 | .cap x=>
  match ρ x with
   | .aj=>some (.d (.int .i64 0),none)
   |_=>none
 | .oc sz bytes z x n=>
  match ρ x,dh (ρ n)with
   | .aj,some n=>bif Nat.blt 0 n&&Nat.ble (n*(bytes+1)) cf&&Nat.ble n cf&&z.all eC&&Nat.beq z.length sz&&Nat.blt 0 sz then some (.sl ns (n*sz) 0 n sz,some (ns,.cells ((List.range (n*sz)).map fun i=>z.getD (i%sz) .any)))else none
   |_,_=>none
 | .h_ f a b=>some (.func f (bQ ρ a) (bQ ρ b),none)
 | .AV=>some (.map ns,some (ns,.map []))
 | .range m x=>
  bif m then
   match ρ x with
    | .map b=>
     match aA H b with
      |some (.map es)=>some (.iter ns b,some (ns,.bM b es.length []))
      |_=>none
    |_=>none else none
 | .entry x=>
  match ρ x with
   | .iter b m=>
    match aA H b with
     |some (.bM m' n seen)=>
      match aA H m with
       |some (.map es)=>
        bif Nat.beq m' m&&Nat.beq es.length n then
         match seen.getLast? with
          |some i=>
           match es[i]? with
            |some (k,v)=>some (.tuple [.d k,v],none)
            |none=>none
          |none=>none else none
       |_=>none
     |_=>none
   |_=>none
 | .ic x lo hi=>
  match ρ x with
   | .d (.str s)=>(bounds ρ s.length lo hi).map fun(l,h)=>(.d (.str ((s.take h).drop l)),none)
   |_=>none
 | .nD sz x lo hi=>
  match ρ x with
   | .d (.list es)=>bif es.all (fun e=>Nat.beq e.length sz)then(bounds ρ es.length lo hi).map fun(l,h)=>(.d (.list ((es.take h).drop l)),none)else none
   | .sl b hh off len uq=>bif Nat.beq sz uq&&eL H b hh then(bounds ρ len lo hi).map fun(l,h)=>(xn b hh off sz l h,none)else none
   | .aj=>(bounds ρ 0 lo hi).map fun _=>(.aj,none)
   |_=>none
 | .clip sz x hi mx=>
  match ρ x,dh (ρ hi),dh (ρ mx)with
   | .d (.list es),some h,some m=>bif es.all (fun e=>Nat.beq e.length sz)&&Nat.beq h m&&Nat.ble h es.length then some (.full (es.take h),none)else none
   |_,_,_=>none
 | .lD n sz x lo hi=>
  match ρ x with
   | .ptr b hh off=>bif eL H b hh&&Nat.ble (off+n*sz) hh&&Nat.blt 0 hh then(bounds ρ n lo hi).map fun(l,h)=>(xn b hh off sz l h,none)else none
   |_=>none
 | .N1 off n agg x=>
  match ρ x with
   | .agg cs=>bif Nat.ble (off+n) cs.length then(AX agg ((cs.drop off).take n)).map fun v=>(v,none)else none
   |_=>none
 | .cJ off n x=>
  match ρ x with
   | .ptr b h o=>some (.ptr b h (o+off),none)
   | .aL cs=>some (.aL ((cs.drop off).take n),none)
   |_=>none
 | .a_ sz x i=>
  match dh (ρ i)with
   |none=>none
   |some j=>
    match ρ x with
     | .d (.list es)=>
      match es[j]? with
       |some e=>bif Nat.beq e.length sz then some (.aL e,none)else none
       |none=>none
     | .sl b h off len uq=>bif Nat.beq sz uq&&Nat.blt j len&&eL H b h then some (.ptr b h (off+j*sz),none)else none
     |_=>none
 | .rN len sz x i=>
  match dh (ρ i)with
   |none=>none
   |some j=>
    bif Nat.blt j len then
     match ρ x with
      | .ptr b h off=>some (.ptr b h (off+j*sz),none)
      | .aL cs=>some (.aL (cs.drop (j*sz)),none)
      |_=>none else none
 | .jh x i=>
  match dh (ρ i)with
   |none=>none
   |some j=>
    match ρ x with
     | .d (.str s)=>
      match s[j]? with
       |some b=>some (.d (.int .u8 b.toNat),none)
       |none=>none
     |_=>none
 | .Hv len sz agg x i=>
  match dh (ρ i)with
   |none=>none
   |some j=>
    match ρ x with
     | .agg cs=>bif Nat.blt j len&&Nat.ble (len*sz) cs.length then(AX agg ((cs.drop (j*sz)).take sz)).map fun v=>(v,none)else none
     |_=>none
 | .ext x i=>
  match ρ x with
   | .tuple vs=>vs[i]?.map fun v=>(v,none)
   |_=>none
 | .len k x=>
  match k with
   | .arr n=>some (.d (.int .i64 n),none)
   |k=>
    match jI H k (ρ x)with
     |some n=>some (.d (.int .i64 (n:Nat)),none)
     |none=>none
 | .append sz bytes x y=>
  match bE H sz (ρ y)with
   |some xs=>dM H ns sz bytes (ρ x) xs
   |none=>none
 | .rE t x=>some (.iface t (ρ x),none)
 | .nF isMax xs=>
  match bQ ρ xs with
   | .d (.int k a)::l=>(nG isMax a l k).map fun n=>(.d (.int k n),none)
   |_=>none
 | .lookup kk z ok m k=>
  match ρ k with
   | .d kd=>
    bif gf kk kd then
     match qJ H (ρ m)with
      |some es=>
       match qI kd es 0 with
        |some (some (_,v))=>some (bif ok then .tuple [v,.d (.bool true)]else v,none)
        |some none=>some (bif ok then .tuple [z,.d (.bool false)]else z,none)
        |none=>none
      |none=>none else none
   |_=>none
 | .iO kk m k x=>
  match ρ m,ρ k with
   | .map b,.d kd=>
    bif gf kk kd then
     match aA H b with
      |some (.map es)=>
       match qI kd es 0 with
        |some (some (i,_))=>some (.any,some (b,.map (es.set i (kd,ρ x))))
        |some none=>some (.any,some (b,.map (es++[(kd,ρ x)])))
        |none=>none
      |_=>none else none
   |_,_=>none
 |_=>none
end Fw
/-
  What a value of the abstract machine says of a value of the model: the relation, and what keeps it.
-/
namespace Fw
open Go
mutual
def Rd(w:World)(im:Nat->Prop):D->Value->Prop| .bool b,v=>v=.bool b| .int k n,v=>v=.int k n| .str l,v=>∃s:ByteArray,v=.string s/\s.data.toList=l| .sN n,v=>∃s:ByteArray,v=.string s/\s.data.toList.length<=n| .list es,v=>(es=[]/\(v=.slice none 0 0\/∃a c,v=.slice (some a) 0 c))\/∃aK off cap sz,v=.slice (some ⟨aK,off,none⟩) es.length cap/\es.length<=cap/\(es≠[]->im aK)/\eD w im aK off sz es
def eD(w:World)(im:Nat->Prop)(aK off sz:Nat):List (List D)->Prop|[]=>True|e::es=>e.length=sz/\cV w im aK off e/\eD w im aK (off+sz) sz es
def cV(w:World)(im:Nat->Prop)(aK off:Nat):List D->Prop|[]=>True|d::ds=>(∃v,w.cell? ⟨aK,off,none⟩=some v/\Rd w im d v)/\cV w im aK (off+1) ds
end
def gS(w w':World)(im vD:Nat->Prop):Prop:=∀k,im k->vD k/\w'.heap[k]? =w.heap[k]?
theorem gS.cell{w w':World}{im vD:Nat->Prop}(h:gS w w' im vD){k o:Nat}(hk:im k):w'.cell? ⟨k,o,none⟩=w.cell? ⟨k,o,none⟩:=by have:=(h k hk).2;grind[World.cell?]
mutual
theorem Rd.keeps{w w':World}{im vD:Nat->Prop}(h:gS w w' im vD):∀(d:D)(v:Value),Rd w im d v->Rd w' vD d v
 | .bool _,_,hd=>by grind[Rd]
 | .int _ _,_,hd=>by grind[Rd]
 | .str _,_,hd=>by grind[Rd]
 | .sN _,_,hd=>by grind[Rd]
 | .list es,v,hd=>by
  simp only[Rd]at hd⊢;rcases hd with hd|⟨aK,off,cap,sz,h1,h2,h3,h4⟩
  ·grind
  ·refine .inr ⟨aK,off,cap,sz,h1,h2,fun hn=>(h _ (h3 hn)).1,?_ ⟩;cases es with
    |nil=>simp only[eD]
    |cons e es=>exact eD.keeps h (h3 (by simp)) _ _ _ h4
theorem eD.keeps{w w':World}{im vD:Nat->Prop}(h:gS w w' im vD){aK:Nat}(hb:im aK):∀(off sz:Nat)(es:List (List D)),eD w im aK off sz es->eD w' vD aK off sz es
 |_,_,[],_=>by simp only[eD]
 |off,sz,e::es,hd=>by simp only[eD]at hd⊢;exact⟨hd.1,cV.keeps h hb _ _ hd.2.1,eD.keeps h hb _ _ _ hd.2.2⟩
theorem cV.keeps{w w':World}{im vD:Nat->Prop}(h:gS w w' im vD){aK:Nat}(hb:im aK):∀(off:Nat)(ds:List D),cV w im aK off ds->cV w' vD aK off ds
 |_,[],_=>by simp only[cV]
 |off,d::ds,hd=>by simp only[cV]at hd⊢;obtain⟨⟨v,h1,h2⟩,h3⟩:=hd;exact⟨⟨v,by rw[h.cell hb];exact h1,Rd.keeps h _ _ h2⟩,cV.keeps h hb _ _ h3⟩
end
inductive GB where
 |cells (aK cp cur:Nat)
 |nil
 |obj (aK:Nat)
def GB.own:GB->Option Nat| .cells b _ _=>some b| .nil=>none| .obj b=>some b
structure G where
 cr:Nat->Prop
 γ:Nat->Option GB
 fo:Nat->Prop
 base:Nat
def cw(g:G)(w:World)(k:Nat):Prop:=k<w.heap.size/\¬g.fo k/\∀b x,g.γ b=some x->x.own≠some k
mutual
def RV(g:G)(w:World):V->Value->Prop
 | .any,_=>True
 | .full es,v=>Rd w (cw g w) (.list es) v/\∃a,v=.slice a es.length es.length
 | .d x,v=>Rd w (cw g w) x v
 | .aj,v=>v=.slice none 0 0
 | .ptr b h off,v=>((∃aK o,v=.pointer (some ⟨aK,o,none⟩))/\g.cr b)/\∀x,g.γ b=some x->∃aK cp cur,x=.cells aK cp cur/\(cur=h->v=.pointer (some ⟨aK,off,none⟩))/\h<=cur
 | .lu,v=>v=.pointer none
 | .aL cs,v=>∃aK off,v=.pointer (some ⟨aK,off,none⟩)/\(cs≠[]->cw g w aK)/\cV w (cw g w) aK off cs
 | .sl b h off len sz,v=>
  (v.oneCell'=true/\g.cr b)/\∀x,g.γ b=some x->match x with
   | .nil=>h=0/\len=0/\off=0/\v=.slice none 0 0
   | .cells aK cp cur=>h<=cur/\(cur=h->∃cap,v=.slice (some ⟨aK,off,none⟩) len cap/\len<=cap/\off+cap*sz<=cp)
   | .obj _=>False
 | .map b,v=>(v.oneCell'=true/\g.cr b)/\∀x,g.γ b=some x->∃aK,x=.obj aK/\v=.map (some aK)
 | .kj,v=>v=.map none
 | .func f a c,v=>∃x y,v=.func (.func f) x y/\aM g w a x.toList/\aM g w c y.toList
 | .ob,v=>v=.nilFunc
 | .iface t u,v=>∃x,v=.iface t x/\RV g w u x
 | .bD,v=>∃t x,v=.iface t x
 | .fA,v=>v=.nilIface
 | .agg cs,v=>∃x,v=.agg x/\aM g w cs x.toList
 | .tuple vs,v=>∃x,v=.tuple x/\aM g w vs x.toList
 | .iter b _,v=>(v.oneCell'=true/\g.cr b)/\∀x,g.γ b=some x->∃aK,x=.obj aK/\v=.pointer (some ⟨aK,0,none⟩)
 | .gJ b,v=>(v.oneCell'=true/\g.cr b)/\∀x,g.γ b=some x->∃aK,x=.obj aK/\v=.func (.yield aK) #[] #[]
def aM(g:G)(w:World):List V->List Value->Prop|[],[]=>True|a::as,b::bs=>RV g w a b/\aM g w as bs|_,_=>False
end
variable {g':G}{w w':World}
def GB.step:Option GB->Option GB->Prop|_,none=>True|none,some _=>False|some (.cells b c u),some x=>x=.cells b c u\/∃b' c' u',x=.cells b' c' u'/\u<u'|some .nil,some x=>x=.nil\/∃b' c' u',x=.cells b' c' u'/\0<u'|some (.obj b),some x=>x=.obj b
theorem GB.step.refl:∀x,GB.step x x|none=>trivial|some (.cells _ _ _)=>.inl rfl|some .nil=>.inl rfl|some (.obj _)=>rfl
structure bA (g:G) (w:World) (g':G) (w':World):Prop where
 os:w'.os=w.os
 tape:w'.tape=w.tape
 output:w'.output=w.output
 size:w.heap.size<=w'.heap.size
 keeps:gS w w' (cw g w) (cw g' w')
 cr:∀b,g.cr b->g'.cr b
 step:∀b,g.cr b->GB.step (g.γ b) (g'.γ b)
 fo:g'.fo=g.fo
 base:g'.base=g.base
 dB:∀k,g.fo k->w'.heap[k]? =w.heap[k]?
theorem bA.refl(g:G)(w:World):bA g w g w:=⟨rfl,rfl,rfl,aaE _,fun _ h=>⟨h,rfl⟩,fun _ h=>h,fun _ _=>GB.step.refl _,rfl,rfl,fun _ _=>rfl⟩
theorem GB.step.trans:∀{x y z:Option GB},GB.step x y->GB.step y z->GB.step x z
 |_,_,none,_,_=>by simp only[GB.step]
 |x,none,some z,_,h=>by grind[GB.step]
 |none,some y,_,h,_=>by grind[GB.step]
 |some (.cells b c u),some y,some z,h1,h2=>by
  rcases h1 with rfl|⟨b',c',u',rfl,hu⟩
  ·exact h2
  ·rcases h2 with rfl|⟨b2,c2,u2,rfl,Jz⟩
   ·exact .inr ⟨_,_,_,rfl,hu⟩
   ·exact .inr ⟨_,_,_,rfl,by omega⟩
 |some .nil,some y,some z,h1,h2=>by
  rcases h1 with rfl|⟨b',c',u',rfl,hu⟩
  ·exact h2
  ·rcases h2 with rfl|⟨b2,c2,u2,rfl,Jz⟩
   ·exact .inr ⟨_,_,_,rfl,hu⟩
   ·exact .inr ⟨_,_,_,rfl,by omega⟩
 |some (.obj b),some y,some z,h1,h2=>by grind[GB.step]
theorem bA.trans{g ZP:G}{T_:World}(h:bA g w g' w')(k:bA g' w' ZP T_):bA g w ZP T_:=⟨k.os.trans h.os,k.tape.trans h.tape,k.output.trans h.output,abt h.size k.size,fun b hb=>⟨(k.keeps b (h.keeps b hb).1).1,((k.keeps b (h.keeps b hb).1).2).trans (h.keeps b hb).2⟩,fun b hb=>k.cr b (h.cr b hb),fun b hb=>(h.step b hb).trans (k.step b (h.cr b hb)),k.fo.trans h.fo,k.base.trans h.base,fun b hb=>(k.dB b (by rw[h.fo];exact hb)).trans (h.dB b hb)⟩
structure rm (g:G) (w:World) (g':G) (w':World):Prop where
 keeps:gS w w' (cw g w) (cw g' w')
 cr:∀b,g.cr b->g'.cr b
 step:∀b,g.cr b->GB.step (g.γ b) (g'.γ b)
theorem bA.US{g:G}(h:bA g w g' w'):rm g w g' w':=⟨h.keeps,h.cr,h.step⟩
def G.bt(g:G)(n:Nat):G:=⟨g.cr,g.γ,g.fo,n⟩
theorem rm.bt(g:G)(w:World)(n:Nat):rm g w (g.bt n) w:=⟨fun _ h=>⟨h,rfl⟩,fun _ h=>h,fun _ _=>GB.step.refl _⟩
theorem bA.bt{g:G}(h:bA g w g' w')(n:Nat):bA (g.bt n) w (g'.bt n) w':=⟨h.os,h.tape,h.output,h.size,h.keeps,h.cr,h.step,h.fo,rfl,h.dB⟩
mutual
theorem RV.jJ{g g':G}{w w':World}(h:rm g w g' w'):∀(u:V)(v:Value),RV g w u v->RV g' w' u v
 | .any,_,_=>by simp only[RV]
 | .d x,v,hv=>by simp only[RV]at hv⊢;exact Rd.keeps h.keeps _ _ hv
 | .full es,v,hv=>by simp only[RV]at hv⊢;exact⟨Rd.keeps h.keeps _ _ hv.1,hv.2⟩
 | .aj,_,hv=>by grind[RV]
 | .ptr b hh off,v,hv=>by
  simp only[RV]at hv⊢;refine⟨⟨hv.1.1,h.cr b hv.1.2⟩,fun x hx=>?_ ⟩;have hs:=h.step b hv.1.2;rw[hx]at hs;cases hb:g.γ b with
   |none=>rw[hb]at hs;exact hs.elim
   |some y=>obtain⟨aK,cp,cur,rfl,h1,h2⟩:=hv.2 y hb;rw[hb]at hs;rcases hs with rfl|⟨b',c',u',rfl,hu⟩;all_goals grind
 | .lu,_,hv=>by grind[RV]
 | .aL cs,v,hv=>by
  simp only[RV]at hv⊢;obtain⟨aK,off,h1,h2,h3⟩:=hv;refine⟨aK,off,h1,fun hn=>(h.keeps _ (h2 hn)).1,?_ ⟩;cases cs with
   |nil=>simp only[cV]
   |cons c cs=>exact cV.keeps h.keeps (h2 (by simp)) _ _ h3
 | .sl b hh off len sz,v,hv=>by
  simp only[RV]at hv⊢;refine⟨⟨hv.1.1,h.cr b hv.1.2⟩,fun x hx=>?_ ⟩;have hs:=h.step b hv.1.2;rw[hx]at hs;cases hb:g.γ b with
   |none=>rw[hb]at hs;exact hs.elim
   |some y=>
    have hy:=hv.2 y hb;rw[hb]at hs;cases y with
     |nil=>rcases hs with rfl|⟨b',c',u',rfl,hu⟩;all_goals grind
     |cells bb cc uu=>rcases hs with rfl|⟨b',c',u',rfl,hu⟩;all_goals grind
     |obj bb=>grind
 | .map b,v,hv=>by simp only[RV]at hv⊢;refine⟨⟨hv.1.1,h.cr b hv.1.2⟩,fun x hx=>?_ ⟩;have hs:=h.step b hv.1.2;rw[hx]at hs;cases hb:g.γ b<;>grind[GB.step]
 | .kj,_,hv=>by grind[RV]
 | .func f a c,v,hv=>by simp only[RV]at hv⊢;obtain⟨x,y,h1,h2,h3⟩:=hv;exact⟨x,y,h1,aM.jJ h _ _ h2,aM.jJ h _ _ h3⟩
 | .ob,_,hv=>by grind[RV]
 | .iface t u,v,hv=>by simp only[RV]at hv⊢;obtain⟨x,h1,h2⟩:=hv;exact⟨x,h1,RV.jJ h _ _ h2⟩
 | .bD,_,hv=>by grind[RV]
 | .fA,_,hv=>by grind[RV]
 | .agg cs,v,hv=>by simp only[RV]at hv⊢;obtain⟨x,h1,h2⟩:=hv;exact⟨x,h1,aM.jJ h _ _ h2⟩
 | .tuple vs,v,hv=>by simp only[RV]at hv⊢;obtain⟨x,h1,h2⟩:=hv;exact⟨x,h1,aM.jJ h _ _ h2⟩
 | .iter b _,v,hv=>by simp only[RV]at hv⊢;refine⟨⟨hv.1.1,h.cr b hv.1.2⟩,fun x hx=>?_ ⟩;have hs:=h.step b hv.1.2;rw[hx]at hs;cases hb:g.γ b<;>grind[GB.step]
 | .gJ b,v,hv=>by simp only[RV]at hv⊢;refine⟨⟨hv.1.1,h.cr b hv.1.2⟩,fun x hx=>?_ ⟩;have hs:=h.step b hv.1.2;rw[hx]at hs;cases hb:g.γ b<;>grind[GB.step]
theorem aM.jJ{g g':G}{w w':World}(h:rm g w g' w'):∀(us:List V)(vs:List Value),aM g w us vs->aM g' w' us vs
 |[],[],_=>by simp only[aM]
 |u::us,v::vs,hv=>by simp only[aM]at hv⊢;exact⟨RV.jJ h _ _ hv.1,aM.jJ h _ _ hv.2⟩
 |[],_::_,hv=>by grind[aM]
 |_::_,[],hv=>by grind[aM]
end
variable {w w':World}{g':G}{GL:bR}
theorem RV.ext{g:G}(h:bA g w g' w')(u:V)(v:Value):RV g w u v->RV g' w' u v:=RV.jJ h.US u v
theorem aM.ext{g:G}(h:bA g w g' w')(us:List V)(vs:List Value):aM g w us vs->aM g' w' us vs:=aM.jJ h.US us vs
theorem RV.one{g:G}:∀{u:V}{v:Value},eC u=true->RV g w u v->v.oneCell'=true:=by
 intro u v hu hv;cases u with
  |any=>grind[eC]
  |agg=>grind[eC]
  |tuple=>grind[eC]
  |d x=>
   cases x with
    |bool=>simp only[RV,Rd]at hv;subst hv;rfl
    |int=>simp only[RV,Rd]at hv;subst hv;rfl
    |str=>simp only[RV,Rd]at hv;obtain⟨s,rfl,_⟩:=hv;rfl
    |sN=>simp only[RV,Rd]at hv;obtain⟨s,rfl,_⟩:=hv;rfl
    |list es=>simp only[RV,Rd]at hv;rcases hv with⟨_,rfl|⟨_,_,rfl⟩⟩|⟨_,_,_,_,rfl,_⟩<;>rfl
  |full=>simp only[RV]at hv;obtain⟨_,_,rfl⟩:=hv;rfl
  |aj=>simp only[RV]at hv;subst hv;rfl
  |lu=>simp only[RV]at hv;subst hv;rfl
  |kj=>simp only[RV]at hv;subst hv;rfl
  |ob=>simp only[RV]at hv;subst hv;rfl
  |fA=>simp only[RV]at hv;subst hv;rfl
  |aL=>simp only[RV]at hv;obtain⟨_,_,rfl,_⟩:=hv;rfl
  |func=>simp only[RV]at hv;obtain⟨_,_,rfl,_⟩:=hv;rfl
  |iface=>simp only[RV]at hv;obtain⟨_,rfl,_⟩:=hv;rfl
  |bD=>simp only[RV]at hv;obtain⟨_,_,rfl⟩:=hv;rfl
  |ptr=>simp only[RV]at hv;obtain⟨⟨⟨_,_,rfl⟩,_⟩,_⟩:=hv;rfl
  |sl=>grind[RV]
  |map=>grind[RV]
  |iter=>grind[RV]
  |gJ=>grind[RV]
theorem aM.length{g:G}{w:World}:∀{us:List V}{vs:List Value},aM g w us vs->us.length=vs.length
 |[],[],_=>rfl
 |u::us,v::vs,h=>by simp only[aM]at h;simp[aM.length h.2]
 |[],_::_,h=>by grind[aM]
 |_::_,[],h=>by grind[aM]
theorem aM.get{g:G}{w:World}:∀{us:List V}{vs:List Value}(i:Nat){u:V},aM g w us vs->us[i]? =some u->∃v,vs[i]? =some v/\RV g w u v
 |[],[],i,u,_,hu=>by simp at hu
 |x::us,v::vs,0,u,h,hu=>by grind[aM]
 |x::us,v::vs,i+1,u,h,hu=>by simp only[aM]at h;simp at hu⊢;exact aM.get i h.2 hu
 |[],_::_,_,_,h,_=>by grind
 |_::_,[],_,_,h,_=>by grind[aM]
theorem aM.append{g:G}{w:World}:∀{us:List V}{vs:List Value}{ZQ:List V}{UT:List Value},aM g w us vs->aM g w ZQ UT->aM g w (us++ZQ) (vs++UT)
 |[],[],_,_,_,h=>by grind
 |u::us,v::vs,_,_,h,h'=>by simp only[aM]at h;simp;exact⟨h.1,aM.append h.2 h'⟩
 |[],_::_,_,_,h,_=>by grind[aM]
 |_::_,[],_,_,h,_=>by grind[aM]
theorem aM.take{g:G}{w:World}:∀{us:List V}{vs:List Value}(n:Nat),aM g w us vs->aM g w (us.take n) (vs.take n)
 |[],[],n,_=>by simp[aM]
 |u::us,v::vs,0,h=>by simp[aM]
 |u::us,v::vs,n+1,h=>by simp only[aM]at h;simp;exact⟨h.1,aM.take n h.2⟩
 |[],_::_,_,h=>by grind[aM]
 |_::_,[],_,h=>by grind[aM]
theorem aM.drop{g:G}{w:World}:∀{us:List V}{vs:List Value}(n:Nat),aM g w us vs->aM g w (us.drop n) (vs.drop n)
 |[],[],n,_=>by simp[aM]
 |u::us,v::vs,0,h=>by grind
 |u::us,v::vs,n+1,h=>by simp only[aM]at h;simp;exact aM.drop n h.2
 |[],_::_,_,h=>by grind[aM]
 |_::_,[],_,h=>by grind[aM]
theorem aM.set{g:G}{w:World}:∀{us:List V}{vs:List Value}(n:Nat){u:V}{v:Value},aM g w us vs->RV g w u v->aM g w (us.set n u) (vs.set n v)
 |[],[],n,_,_,_,_=>by simp[aM]
 |u::us,v::vs,0,_,_,h,hv=>by grind[aM]
 |u::us,v::vs,n+1,_,_,h,hv=>by simp only[aM]at h;simp;exact⟨h.1,aM.set n h.2 hv⟩
 |[],_::_,_,_,_,h,_=>by grind[aM]
 |_::_,[],_,_,_,h,_=>by grind[aM]
theorem aM.one{g:G}{w:World}:∀{us:List V}{vs:List Value},us.all eC=true->aM g w us vs->∀v∈vs,v.oneCell'=true
 |[],[],_,_=>by simp
 |u::us,v::vs,hu,h=>by
  simp only[aM]at h;simp only[aaM,aas]at hu;intro x hx;rcases aaX.1 hx with rfl|hx
  ·exact RV.one hu.1 h.1
  ·exact aM.one hu.2 h.2 x hx
 |[],_::_,_,h=>by grind[aM]
 |_::_,[],_,h=>by grind
theorem cV.KR{g:G}{w:World}{aK:Nat}:∀{off:Nat}{ds:List D},cV w (cw g w) aK off ds->∃vs,aM g w (ds.map V.d) vs/\∀j v,vs[j]? =some v->w.cell? ⟨aK,off+j,none⟩=some v
 |_,[],_=>⟨[],by simp[aM],by simp⟩
 |off,d::ds,h=>by simp only[cV]at h;obtain⟨⟨v,h1,h2⟩,h3⟩:=h;obtain⟨vs,h4,h5⟩:=cV.KR h3;refine⟨v::vs,by grind[aM,RV],fun j u hu=>?_ ⟩;grind
def KS:Option Nat->Code|none=>.ret|some id=>.exit id
def ku.Hw(r:Loop):ku->Prop| .ready=>r.state=.ready/\r.pending=none| .busy=>True| .done e=>r.state=.done/\r.pending=some (KS e)| .over=>True
def RB(g:G)(w:World):GB->bW->Prop| .cells aK cp cur,.cells cs=>cur=cs.length/\cs.all eC=true/\cs.length<=cp/\∃c e,w.heap[aK]? =some (.cells c e (0,0))/\cp<=c.size/\aM g w cs (c.toList.take cs.length)| .nil,.nil=>True| .obj aK,.map es=>∃bG clock,w.heap[aK]? =some (.map bG clock)/\bG.size=es.length/\(∀(i:Nat)(k:D)(v:V),es[i]? =some (k,v)->∃x,bG[i]? =some x/\x.born<clock/\Rd w (cw g w) k x.key/\RV g w v x.val)/\(∀(i:Nat)(x:MapEntry),bG[i]? =some x->x.born=i)/\clock=bG.size| .obj aK,.bM m n seen=>∃mb sa,w.heap[aK]? =some (.mapIter (some mb) n sa n)/\sa.toList=seen/\g.cr m/\∀x,g.γ m=some x->x=.obj mb| .obj aK,.loop n tm ps ca cb st=>∃r:Loop,w.heap[aK]? =some (.loop r)/\r.tmps.size=n/\(∀t,RV g w (get tm t) (r.tmps.getD t undef))/\r.params.toList=ps/\r.assign=ca/\r.body=cb/\st.Hw r| .obj aK,.uo s pos=>∃b:ByteArray,w.heap[aK]? =some (.stringIter b pos)/\b.data.toList=s|_,_=>False
structure ax (g:G) (w:World) (H:ao):Prop where
 cr:∀b,g.cr b->b<H.length
 live:∀b x,g.γ b=some x->g.cr b/\∃y,aA H b=some y/\RB g w x y
 back:∀b y,aA H b=some y->∃x,g.γ b=some x
 inj:∀b b' x x' k,g.γ b=some x->g.γ b'=some x'->x.own=some k->x'.own=some k->b=b'
 fo:∀k,g.fo k->k<w.heap.size/\∀b x,g.γ b=some x->x.own≠some k
structure dY (GL:bR) (g:G) (w:World):Prop where
 rd:∀n cs,GL.rd n=some cs->cw g w n/\cV w (cw g w) n 0 cs
 w0:∀k,k<GL.w0.heap.size->cw g w k/\w.heap[k]? =GL.w0.heap[k]?
def DN(g:G)(w:World)(l:List Deferred):Prop:=g.base<=w.heap.size/\l.Nodup/\∀d∈l,∃D,d={target:=.collected D,args:= #[]}/\g.base<=D/\cw g w D/\w.heap[D]? =some (.deferred (some []))
theorem DN.nil{g:G}(h:g.base<=w.heap.size):DN g w []:=⟨h,List.nodup_nil,by simp⟩
theorem DN.ext{g:G}(h:bA g w g' w'){l:List Deferred}(hd:DN g w l):DN g' w' l:=⟨by rw[h.base];exact abt hd.1 h.size,hd.2.1,fun d hm=>by obtain⟨D,h1,h2,h3,h4⟩:=hd.2.2 d hm;exact⟨D,h1,by rw[h.base];exact h2,(h.keeps D h3).1,(h.keeps D h3).2.trans h4⟩⟩
structure R (GL:bR) (g:G) (w:World) (a:Act) (σ:St):Prop where
 defers:DN g w a.defers
 size:a.tmps.size=σ.n
 tmps:∀t,RV g w (get σ.tm t) (a.tmps.getD t undef)
 heap:ax g w σ.hp
 cB:dY GL g w
theorem dY.ext{g:G}(h:bA g w g' w')(hg:dY GL g w):dY GL g' w':=⟨fun n cs hn=>⟨(h.keeps _ (hg.rd n cs hn).1).1,cV.keeps h.keeps (hg.rd n cs hn).1 _ _ (hg.rd n cs hn).2⟩,fun k hk=>⟨(h.keeps _ (hg.w0 k hk).1).1,(h.keeps _ (hg.w0 k hk).1).2.trans (hg.w0 k hk).2⟩⟩
theorem dv{a b:Nat}(h:a≠b):Nat.beq a b=false:=by cases hh:Nat.beq a b;all_goals simp_all
theorem eY(l:List (Nat×V))(t s:Nat)(v:V):get (put l t v) s=if s=t then v else get l s:=by
 induction l with
  |nil=>
   simp only[put,get];by_cases h:s=t
   ·subst h;simp
   ·have:Nat.beq t s=false:=dv (by omega);grind
  |cons p l ih=>
   obtain⟨q,u⟩:=p;simp only[put];by_cases hq:q=t
   ·subst hq;simp only[aaS,aaw,get];by_cases h:s=q
    ·subst h;simp
    ·have:Nat.beq q s=false:=dv (by omega);grind
   ·have hb:Nat.beq q t=false:=dv hq;simp only[hb,aaK];cases hle:Nat.ble t q with
     |true=>
      simp only[aaw,get];by_cases h:s=t
      ·subst h;simp
      ·have:Nat.beq t s=false:=dv (by omega);grind
     |false=>simp only[aaK,get,ih];grind
theorem R.put{g:G}{a:Act}{σ:St}{H':ao}(h:R GL g w a σ)(e:bA g w g' w')(hh:ax g' w' H')(t:Nat)(v:V)(x:Value)(ht:t<σ.n)(hv:RV g' w' v x):R GL g' w' (a.put (some t) x) ⟨σ.n,Fw.put σ.tm t v,H'⟩:=by
 refine⟨h.defers.ext e,by simp[Act.put,h.size],fun s=>?_,hh,h.cB.ext e⟩;simp only[eY,Act.put];by_cases hs:s=t
 ·subst hs;have hs:s<a.tmps.size:=by rw[h.size];exact ht
  simp_all
 ·simp only[hs,abN];rw[aaP,abF (by omega),←aaP];exact RV.ext e _ _ (h.tmps s)
theorem R.D0{g:G}{a:Act}{σ:St}{H':ao}(h:R GL g w a σ)(e:bA g w g' w')(hh:ax g' w' H')(x:Value):R GL g' w' (a.put none x) ⟨σ.n,σ.tm,H'⟩:=⟨h.defers.ext e,h.size,fun s=>RV.ext e _ _ (h.tmps s),hh,h.cB.ext e⟩
end Fw
/-
  Steps of world and boxes: a new box, a box written, a box that has grown.
-/
namespace Fw
open Go
variable {w w':World}{H:ao}{b k:Nat}{y:bW}{ko:Option Nat}
theorem RB.jJ{g g':G}(h:rm g w g' w'){x:GB}(ho:∀k,x.own=some k->w'.heap[k]? =w.heap[k]? )(hr:RB g w x y):RB g' w' x y:=by
 cases x with
  |cells aK cp cur=>
   cases y with
    |cells cs=>simp only[RB]at hr⊢;obtain⟨h1,h2,h3,c,e,h4,h5,h6⟩:=hr;exact⟨h1,h2,h3,c,e,by rw[ho aK rfl];exact h4,h5,aM.jJ h _ _ h6⟩
    |_=>grind[RB]
  |nil=>grind[RB]
  |obj aK=>
   cases y with
    |map es=>simp only[RB]at hr⊢;obtain⟨bG,clock,h1,h2,h3,h4⟩:=hr;refine⟨bG,clock,by rw[ho aK rfl];exact h1,h2,fun i k v hi=>?_,h4⟩;obtain⟨z,KT,Hx,Hy,Ou⟩:=h3 i k v hi;exact⟨z,KT,Hx,Rd.keeps h.keeps _ _ Hy,RV.jJ h _ _ Ou⟩
    |uo s pos=>simp only[RB]at hr⊢;obtain⟨b,h1,h2⟩:=hr;exact⟨b,by rw[ho aK rfl];exact h1,h2⟩
    |loop n tm ps ca cb st=>simp only[RB]at hr⊢;obtain⟨r,h1,h2,h3,h4⟩:=hr;exact⟨r,by rw[ho aK rfl];exact h1,h2,fun t=>RV.jJ h _ _ (h3 t),h4⟩
    |bM m n seen=>
     simp only[RB]at hr⊢;obtain⟨mb,sa,h1,h2,h3,h4⟩:=hr;refine⟨mb,sa,by rw[ho aK rfl];exact h1,h2,h.cr m h3,fun x hx=>?_ ⟩;have hs:=h.step m h3;rw[hx]at hs;cases hb:g.γ m with
      |none=>rw[hb]at hs;exact hs.elim
      |some y=>have:=h4 y hb;subst this;rw[hb]at hs;exact hs
    |_=>grind[RB]
theorem RB.ext{g g':G}(h:bA g w g' w'){x:GB}(ho:∀k,x.own=some k->w'.heap[k]? =w.heap[k]? )(hr:RB g w x y):RB g' w' x y:=RB.jJ h.US ho hr
theorem ax.bt{g:G}(hh:ax g w H)(n:Nat):ax (g.bt n) w H:=⟨hh.cr,fun b x hx=>by obtain⟨h1,y,h2,h3⟩:=hh.live b x hx;exact⟨h1,y,h2,RB.jJ (rm.bt g w n) (fun _ _=>rfl) h3⟩,hh.back,hh.inj,hh.fo⟩
theorem dY.bt{GL:bR}{g:G}(h:dY GL g w)(n:Nat):dY GL (g.bt n) w:=⟨h.rd,h.w0⟩
theorem RB.lt{g:G}{x:GB}(h:RB g w x y):∀k,x.own=some k->k<w.heap.size:=by
 intro k hk;have key:∀o,w.heap[k]? =some o->k<w.heap.size:=fun o ho=>(aa6.1 ho).1
 cases x with
  |cells aK cp cur=>simp only[GB.own,aat]at hk;subst hk;cases y<;>grind[RB]
  |nil=>grind[GB.own]
  |obj aK=>simp only[GB.own,aat]at hk;subst hk;cases y<;>grind[RB]
theorem oi(h:aA H b=some y):b<H.length:=by
 induction H generalizing b with
  |nil=>simp[aA]at h
  |cons z H ih=>cases b<;>grind[aA]
theorem fm(H:ao)(b:Nat)(y:bW)(c:Nat):aA (aR H b y) c=if c=b then some y else aA H c:=by
 induction H generalizing b c with
  |nil=>
   induction b generalizing c with
    |zero=>cases c<;>simp[aR,aA]
    |succ b ih=>cases c<;>grind[aR,aA]
  |cons z H ih=>
   cases b with
    |zero=>cases c<;>simp[aR,aA]
    |succ b=>cases c<;>simp[aR,aA,ih]
theorem fB(H:ao)(b:Nat)(y:bW):aA (aR H b y) b=some y:=by grind[fm]
theorem dp{b':Nat}(y:bW)(h:b'≠b):aA (aR H b y) b'=aA H b':=by grind[fm]
theorem AZ(h:H.length<=b):aA H b=none:=by
 cases hg:aA H b with
  |none=>rfl
  |some y=>have:=oi hg;omega
theorem bA.drawn(g:G)(w:World)(n:Nat):bA g w g {w with drawn:=n}:=⟨rfl,rfl,rfl,aaE _,fun _ h=>⟨h,rfl⟩,fun _ h=>h,fun _ _=>GB.step.refl _,rfl,rfl,fun _ _=>rfl⟩
theorem ax.ext{g:G}(hh:ax g w H)(h:bA g w g w')(ho:∀b x k,g.γ b=some x->x.own=some k->w'.heap[k]? =w.heap[k]? ):ax g w' H:=⟨hh.cr,fun b x hx=>by obtain⟨h1,y,h2,h3⟩:=hh.live b x hx;exact⟨h1,y,h2,RB.ext h (fun k hk=>ho b x k hx hk) h3⟩,hh.back,hh.inj,fun k hk=>⟨aaY (hh.fo k hk).1 h.size,(hh.fo k hk).2⟩⟩
def G.add(g:G)(b:Nat)(x:GB):G:=⟨fun c=>g.cr c\/c=b,fun c=>if c=b then some x else g.γ c,g.fo,g.base⟩
def gg(g:G)(ns:Nat):Prop:=¬g.cr ns
theorem ax.fresh{g:G}(hh:ax g w H):gg g H.length:=fun h=>by have:=hh.cr _ h;omega
theorem ct(w:World)(o:Obj)(h:k<w.heap.size):(w.alloc o).heap[k]? =w.heap[k]? :=by show(w.heap.push o)[k]? =_;grind
theorem bf(w:World)(o:Obj):(w.alloc o).heap[w.heap.size]? =some o:=by show(w.heap.push o)[w.heap.size]? =_;grind
theorem bA.new{g:G}{ns:Nat}(hh:ax g w H)(fC:gg g ns)(o:Obj)(x:GB)(hx:x.own=some w.heap.size):bA g w (g.add ns x) (w.alloc o):=by
 refine⟨rfl,rfl,rfl,by simp,?_,fun b h=>.inl h,?_,rfl,rfl,fun k hk=>ct _ _ (hh.fo k hk).1⟩
 ·intro k hk;refine⟨⟨by have:=hk.1;simp;omega,hk.2.1,fun b y hy=>?_ ⟩,ct _ _ hk.1⟩;simp only[G.add]at hy;split at hy
  ·simp at hy;subst hy;rw[hx];intro e;have:=hk.1;grind
  ·exact hk.2.2 b y hy
 ·intro b hb;have:b≠ns:=by rintro rfl;exact fC hb
  simp only[G.add,this,abN];exact GB.step.refl _
theorem gT(H:ao)(b:Nat)(y:bW):H.length<=(aR H b y).length/\b<(aR H b y).length:=by
 induction H generalizing b with
  |nil=>induction b<;>grind[aR,List.length_cons]
  |cons z H ih=>cases b<;>grind[aR,List.length_cons]
theorem ax.new{g:G}{ns:Nat}(hh:ax g w H)(fC:gg g ns)(o:Obj)(x:GB)(y:bW)(hx:x.own=some w.heap.size)(hr:RB (g.add ns x) (w.alloc o) x y):ax (g.add ns x) (w.alloc o) (aR H ns y):=by
 have he:=bA.new hh fC o x hx;refine⟨?_,?_,?_,?_,?_⟩
 ·intro b hb;have hl:=gT H ns y;rcases hb with hb|rfl
  ·have:=hh.cr b hb;omega
  grind
 ·intro b z hz;simp only[G.add]at hz;split at hz
  ·rename_i hb;simp at hz;subst hz;subst hb;exact⟨.inr rfl,y,fB _ _ _,hr⟩
  ·rename_i hb;obtain⟨h1,y',h2,h3⟩:=hh.live b z hz;refine⟨.inl h1,y',by rw[dp y hb];exact h2,RB.ext he (fun k hk=>ct _ _ (h3.lt k hk)) h3⟩
 ·intro b z hz;by_cases hb:b=ns
  ·simp_all[G.add]
  ·rw[dp y hb]at hz;obtain⟨q,hq⟩:=hh.back b z hz;simp_all[G.add]
 ·intro b b' z z' k hz tO hk kg;simp only[G.add]at hz tO;split at hz
  ·rename_i hb;split at tO
   ·grind
   ·simp at hz;subst hz;rw[hx]at hk;simp at hk;subst hk;obtain⟨_,_,_,h3⟩:=hh.live b' z' tO;have:=h3.lt _ kg;omega
  ·split at tO
   ·simp at tO;subst tO;rw[hx]at kg;simp at kg;subst kg;obtain⟨_,_,_,h3⟩:=hh.live b z hz;have:=h3.lt _ hk;omega
   ·exact hh.inj b b' z z' k hz tO hk kg
 ·intro k hk;have hl:=(hh.fo k hk).1;refine⟨by simp;omega,fun c z hz=>?_ ⟩;simp only[G.add]at hz;split at hz
  ·grind
  ·exact(hh.fo k hk).2 c z hz
theorem bA.write{g:G}{x:GB}(hx:g.γ b=some x)(hk:x.own=some k)(hfk:¬g.fo k)(UU:w'.os=w.os)(ht:w'.tape=w.tape)(KU:w'.output=w.output)(cG:w'.heap.size=w.heap.size)(hw:∀j,j≠k->w'.heap[j]? =w.heap[j]? ):bA g w g w':=by
 refine⟨UU,ht,KU,by omega,fun j hj=>⟨⟨by have:=hj.1;omega,hj.2⟩,hw j ?_⟩,fun _ h=>h,fun _ _=>GB.step.refl _,rfl,rfl,fun j hj=>hw j ?_ ⟩
 ·rintro rfl;exact hj.2.2 b x hx hk
 grind
theorem ax.write{g:G}(hh:ax g w H){x:GB}(y:bW)(hx:g.γ b=some x)(hk:x.own=some k)(he:bA g w g w')(hw:∀j,j≠k->w'.heap[j]? =w.heap[j]? )(hr:RB g w' x y):ax g w' (aR H b y):=by
 refine⟨fun c hc=>aaY (hh.cr c hc) (gT H b y).1,?_,?_,hh.inj,fun j hj=>⟨aaY (hh.fo j hj).1 he.size,(hh.fo j hj).2⟩⟩
 ·intro c z hz;obtain⟨h1,y',h2,h3⟩:=hh.live c z hz;by_cases hc:c=b
  ·subst hc;rw[hx]at hz;simp at hz;subst hz;exact⟨h1,y,fB _ _ _,hr⟩
  ·refine⟨h1,y',by rw[dp y hc];exact h2,RB.ext he (fun j hj=>hw j ?_ ) h3⟩;rintro rfl;exact hc (hh.inj c b z x j hz hx hj hk)
 ·intro c z hz;by_cases hc:c=b
  ·grind
  ·rw[dp y hc]at hz;exact hh.back c z hz
def G.set(g:G)(b:Nat)(x:GB):G:=⟨g.cr,fun c=>if c=b then some x else g.γ c,g.fo,g.base⟩
theorem bA.grow{g:G}{x x':GB}(Hk:∀k,g.fo k->k<w.heap.size/\some k≠ko)(hx:g.γ b=some x)(Ov:x.own=ko)(qK:GB.step (some x) (some x'))(hn:x'.own=ko\/∃k,x'.own=some k/\w.heap.size<=k)(UU:w'.os=w.os)(ht:w'.tape=w.tape)(KU:w'.output=w.output)(cG:w.heap.size<=w'.heap.size)(hw:∀j,j<w.heap.size->some j≠ko->w'.heap[j]? =w.heap[j]? ):bA g w (g.set b x') w':=by
 refine⟨UU,ht,KU,cG,fun j hj=>?_,fun _ h=>h,?_,rfl,rfl,fun j hj=>hw j (Hk j hj).1 (Hk j hj).2⟩
 ·have fp:some j≠ko:=by rw[←Ov];intro e;exact hj.2.2 b x hx e.symm
  refine⟨⟨by have:=hj.1;omega,hj.2.1,fun c z hz=>?_ ⟩,hw j hj.1 fp⟩;simp only[G.set]at hz;split at hz
  ·simp at hz;subst hz;rcases hn with h|⟨k,h,hl⟩
   ·grind
   ·rw[h];intro e;simp at e;have:=hj.1;omega
  ·exact hj.2.2 c z hz
 ·intro c hc;simp only[G.set];split
  ·grind
  ·exact GB.step.refl _
theorem ax.grow{g:G}(hh:ax g w H){x x':GB}(y:bW)(hx:g.γ b=some x)(Ov:x.own=ko)(hn:x'.own=ko\/∃k,x'.own=some k/\w.heap.size<=k)(he:bA g w (g.set b x') w')(hw:∀j,j<w.heap.size->some j≠ko->w'.heap[j]? =w.heap[j]? )(hr:RB (g.set b x') w' x' y):ax (g.set b x') w' (aR H b y):=by
 have UV:∀c z k,c≠b->g.γ c=some z->z.own=some k->k<w.heap.size/\some k≠ko:=by intro c z k hc hz hk;obtain⟨_,_,_,h3⟩:=hh.live c z hz;refine⟨h3.lt k hk,fun e=>hc (hh.inj c b z x k hz hx hk (by grind))⟩
 refine⟨fun c hc=>aaY (hh.cr c hc) (gT H b y).1,?_,?_,?_,?_ ⟩
 ·intro c z hz;simp only[G.set]at hz;split at hz
  ·rename_i hc;subst hc;simp at hz;subst hz;obtain⟨h1,y',h2,h3⟩:=hh.live c x hx;exact⟨h1,y,fB _ _ _,hr⟩
  ·rename_i hc;obtain⟨h1,y',h2,h3⟩:=hh.live c z hz;exact⟨h1,y',by rw[dp y hc];exact h2,RB.ext he (fun j hj=>by grind) h3⟩
 ·intro c z hz;by_cases hc:c=b
  ·simp_all[G.set]
  ·rw[dp y hc]at hz;obtain⟨q,hq⟩:=hh.back c z hz;simp_all[G.set]
 ·intro c c' z z' k hz tO hk kg;simp only[G.set]at hz tO;split at hz<;>split at tO
  ·grind
  ·grind
  ·grind
  ·exact hh.inj c c' z z' k hz tO hk kg
 ·intro k hk;refine⟨aaY (hh.fo k hk).1 he.size,fun c z hz=>?_ ⟩;simp only[G.set]at hz;split at hz
  ·simp at hz;subst hz;rcases hn with h|⟨j,h,hl⟩
   ·rw[h,←Ov];exact(hh.fo k hk).2 b x hx
   ·rw[h];intro e;simp at e;have:=(hh.fo k hk).1;omega
  ·exact(hh.fo k hk).2 c z hz
theorem ax.KV{g:G}(hh:ax g w H){x:GB}(hx:g.γ b=some x)(Ov:x.own=ko):∀k,g.fo k->k<w.heap.size/\some k≠ko:=by intro k hk;refine⟨(hh.fo k hk).1,?_⟩;rw[←Ov];exact fun e=>(hh.fo k hk).2 b x hx e.symm
theorem ax.qL{g:G}(hh:ax g w H){x:GB}(hx:g.γ b=some x)(hk:x.own=some k):¬g.fo k:=fun h=>(hh.fo k h).2 b x hx hk
end Fw
/-
  Scopes and labels along a body's spine, taken away: no code jumps to them.
-/
namespace Fw
open Go
section
variable {F:Fence}{n:Nat}{P:Program}{Q:Exit->Act->World->Prop}{a:Act}{w:World}{b:Frame}{k:List Item}{cs:List Frame}
variable {c:Code}
theorem fq:step P (lone (b.atR a (.code (.scope c)::k)) cs w)=.next (lone (b.atR a (.code c:: .inScope c::k)) cs w):=step_lone_go (by simp[stepG,stepG.exec,Frame.atR])
theorem tP:step P (lone (b.atR a (.inScope c::k)) cs w)=.next (lone (b.atR a k) cs w):=step_lone_go (by simp[stepG,stepG.exec,Frame.atR])
theorem zt(h:c.wpIn F n P (Exit.noGoto Q) a w):(Code.scope c).wpIn F n P Q a w:=by
 intro b k cs n_ hb hr;have h0:(lone (b.atR a (.code (.scope c)::k)) cs w).fenced P F:=fenced_calm hb hr rfl;obtain⟨e,D1,D2,hq,Cb⟩:=h b (.inScope c::k) cs n_ hb hr;cases e with
  |normal=>exact⟨.normal,D1,D2,hq,.head h0 fq (StepsIn.trans Cb (.one (fenced_calm hb hr rfl) tP))⟩
  |exit id=>
   have hx:exitTo id (.inScope c::k)=exitTo id k:=by simp[exitTo]
   exact⟨.exit id,D1,D2,hq,fun k' hk=>.head h0 fq (Cb.1 k' (by rw[hx];exact hk)),fun ur hk=>let⟨UW,h1,h2⟩:=Cb.2 ur (by rw[hx];exact hk);⟨UW,h1,.head h0 fq h2⟩⟩
  |goto l=>exact hq.elim
  |ret=>exact⟨_,D1,D2,hq,.of_steps (.one h0 fq) Cb⟩
  |panic ch=>exact⟨_,D1,D2,hq,.of_steps (.one h0 fq) Cb⟩
  |outgrown=>exact⟨_,D1,D2,hq,.of_steps (.one h0 fq) Cb⟩
def Ow(Q:Exit->Act->World->Prop):Prop:=∀l a w,¬Q (.goto l) a w
theorem Cc(hQ:Ow Q):∀e a w,Q e a w->Exit.noGoto Q e a w:=by
 intro e a w h;cases e with
  |goto l=>exact hQ l a w h
  |_=>exact h
end
end Fw
/-
  From the model's code to the operations of the abstract machine.
-/
namespace Fw
open Go
def Hz:Value->Option V| .bool b=>some (.d (.bool b))| .int k n=>some (.d (.int k n))| .string s=>some (.d (.str s.data.toList))| .slice none 0 0=>some .aj| .pointer none=>some .lu| .map none=>some .kj| .nilFunc=>some .ob| .nilIface=>some .fA|_=>none
def Ua:Value->Option V| .agg cs=>(bS Hz cs.toList).map .agg|v=>Hz v
def aw:Operand->Option aX| .tmp t=>some (.t t)| .const v=>(Ua v).map .c| .global g=>some (.g g)| .func f=>some (.f f)
def fD(P:Program)(t:TypeId):Option Nat:=(P.info? t).map (·.size)
def oj(P:Program)(t:TypeId):Option Bool:=(P.underlying t).map fun| .struct _| .array _ _=>true|_=>false
def di(P:Program)(t:TypeId):Option (List V):=((P.info? t).bind (·.zero)).bind fun z=>bS Hz z.cells.toList
def D3(P:Program)(t:TypeId):Option V:=((P.info? t).bind (·.zero)).bind Ua
def cz:Option Operand->Option (Option aX)|none=>some none|some x=>(aw x).map some
def dD(place:Nat->Option (Nat×Nat)):List (Nat×Operand)->Option (List (Nat×Nat×aX))
 |[]=>some []
 |(i,x)::ps=>
  match place i with
   |none=>none
   |some (off,size)=>
    match aw x with
     |none=>none
     |some y=>
      match dD place ps with
       |none=>none
       |some qs=>some ((off,size,y)::qs)
def ky(P:Program)(fs:Array Field)(i:Nat):Option (Nat×Nat):=(fs[i]? ).bind fun f=>(fD P f.type).map fun s=>(f.offset,s)
def KW:TypeDesc->Bool| .slice _=>true| .string=>true|_=>false
def vE(P:Program)(t:TypeId):Option dn:=match P.underlying t with
 |some (.int _)=>some .int
 |some .string=>some .str
 |some .bool=>some .bool
 |_=>none
def gU(P:Program):Nat->List Field->Option (List dn)
 |_,[]=>some []
 |n,f::fs=>
  if f.offset=n/\f.name≠ "_" then
   match vE P f.type,gU P (n+1) fs with
    |some k,some ks=>some (k::ks)
    |_,_=>none else none
def jr(P:Program)(t:TypeId):Option (List dn):=match P.underlying t with
 |some (.struct fs)=>if P.stoodInHeld t=false/\P.eqGuardType P.depth t=false then gU P 0 fs.toList else none
 |_=>none
def dq(P:Program)(c:Call):Option jG:=match c.callee with
 | .builtin .len=>
  match c.args.toList,c.argTypes.toList with
   |[x],[t]=>
    match P.underlying t with
     |some .string=>(aw x).map (.len .str)
     |some (.slice _)=>(aw x).map (.len .slice)
     |some (.map _ _)=>(aw x).map (.len .map)
     |some (.array n _)=>(aw x).map (.len (.arr n))
     |_=>none
   |_,_=>none
 | .builtin .append=>
  match c.args.toList,c.argTypes.toList with
   |[x,y],[t,u]=>
    match P.underlying t,P.underlying u with
     |some (.slice e),some (.int _)=>
      match P.info? e,di P e,aw x,aw y with
       |some i,some z,some x',some y'=>some (.oc i.size i.bytes z x' y')
       |_,_,_,_=>none
     |some (.slice e),some d=>
      match KW d,P.info? e,di P e,aw x,aw y with
       |true,some i,some z,some x',some y'=>if 0<i.size/\z.length=i.size then some (.append i.size i.bytes x' y')else none
       |_,_,_,_,_=>none
     |_,_=>none
   |_,_=>none
 | .builtin .cap=>
  match c.args.toList,c.argTypes.toList with
   |[x],[t]=>
    match P.underlying t with
     |some (.slice _)=>(aw x).map .cap
     |_=>none
   |_,_=>none
 | .builtin .min=>(bS aw c.args.toList).map (.nF false)
 | .builtin .max=>(bS aw c.args.toList).map (.nF true)
 | .value (.func f)=>
  match(P.funcs[f]? ).map (fun fn=>(fn.body.isSome,fn.name== "runtime.NumGoroutine"))with
   |some (true,false)=>(bS aw c.args.toList).map (.call f)
   |_=>none
 | .value (.tmp t)=>(bS aw c.args.toList).map (.b_ (.t t))
 |_=>none
def aU(P:Program)(op:Op):Option jG:=match op with
 | .move x=>(aw x).map .mv
 | .assign x=>(aw x).map .mv
 | .pick c a b=>
  match aw c,aw a,aw b with
   |some c',some a',some b'=>some (.pick c' a' b')
   |_,_,_=>none
 | .alloc t=>(di P t).map .alloc
 | .box t x=>
  match fD P t,aw x with
   |some n,some x'=>some (.box n x')
   |_,_=>none
 | .build t ps=>
  match P.underlying t,di P t with
   |some (.struct fs),some z=>
    match fs.toList.mapM (fun f=>(P.info? f.type).map fun i=>(f.offset,i.size))with
     |some rP=>(dD (fun i=>rP.toArray[i]? ) ps.toList).map (.build z)
     |none=>none
   |some (.array _ e),some z=>
    match P.info? e with
     |some ie=>(dD (fun i=>some (i*ie.size,ie.size)) ps.toList).map (.build z)
     |none=>none
   |_,_=>none
 | .buildSlice t len ps=>
  match P.underlying t with
   |some (.slice e)=>
    match fD P e,di P e with
     |some s,some z=>if len*s<=2^24/\z.length=s/\0<s then(dD (fun i=>some (i*s,s)) ps.toList).map (.mkSlice s len ((List.range (len*s)).map fun i=>z.getD (i%s) .any))else none
     |_,_=>none
   |_=>none
 | .load t a=>
  match fD P t,oj P t,aw a with
   |some n,some g,some a'=>if g=true\/n=1 then some (.load n g a')else none
   |_,_,_=>none
 | .store t a x=>
  match fD P t,aw a,aw x with
   |some n,some a',some x'=>some (.store n a' x')
   |_,_,_=>none
 | .nilCheck x=>(aw x).map .kp
 | .binOp op t x y _=>
  match aw x,aw y with
   |some x',some y'=>
    match op with
     | .eql=>
      match P.underlying t with
       |some (.int _)=>some (.bin op x' y')
       |some .string=>some (.bin op x' y')
       |some .bool=>some (.eq false .bool x' y')
       |some (.slice _)=>some (.eq false .slice x' y')
       |some (.struct _)=>(jr P t).map fun ks=>.Ca false ks x' y'
       |some (.interface _)=>
        match x,y with
         | .const _,_=>some (.eq false .iface x' y')
         |_,.const _=>some (.eq false .iface x' y')
         |_,_=>none
       |_=>none
     | .neq=>
      match P.underlying t with
       |some (.int _)=>some (.bin op x' y')
       |some .string=>some (.bin op x' y')
       |some .bool=>some (.eq true .bool x' y')
       |some (.slice _)=>some (.eq true .slice x' y')
       |some (.struct _)=>(jr P t).map fun ks=>.Ca true ks x' y'
       |some (.interface _)=>
        match x,y with
         | .const _,_=>some (.eq true .iface x' y')
         |_,.const _=>some (.eq true .iface x' y')
         |_,_=>none
       |_=>none
     |_=>some (.bin op x' y')
   |_,_=>none
 | .unOp op _ x=>(aw x).map (.un op)
 | .convert s d x=>
  match P.underlying s,P.underlying d,aw x with
   |some (.int _),some (.int k),some x'=>some (.conv k x')
   |some .string,some (.slice e),some x'=>
    match P.underlying e with
     |some (.int .u8)=>some (.kq x')
     |_=>none
   |some (.slice e),some .string,some x'=>
    match P.underlying e with
     |some (.int .u8)=>some (.same x')
     |_=>none
   |some (.slice e),some (.slice e'),some x'=>
    match s==d,P.underlying e' with
     |true,some (.int .u8)=>some (.od x')
     |_,_=>none
   |_,_,_=>none
 | .makeFunc (.func f) a b=>
  match bS aw a.toList,bS aw b.toList with
   |some a',some b'=>some (.h_ f a' b')
   |_,_=>none
 | .makeMap _ none=>some .AV
 | .makeSlice t l c=>
  match P.underlying t,aw l,aw c with
   |some (.slice e),some l',some c'=>
    match P.info? e,di P e with
     |some i,some z=>some (.nb i.size i.bytes z l' c')
     |_,_=>none
   |_,_,_=>none
 | .slice t x lo hi none=>
  match aw x,cz lo,cz hi with
   |some x',some xo,some jU=>
    match P.underlying t with
     |some .string=>some (.ic x' xo jU)
     |some (.slice e)=>(fD P e).map fun s=>.nD s x' xo jU
     |some (.array n e)=>(fD P e).map fun s=>.lD n s x' xo jU
     |_=>none
   |_,_,_=>none
 | .slice t x none (some hi) (some mx)=>
  match aw x,aw hi,aw mx with
   |some x',some jU,some Ox=>
    match P.underlying t with
     |some (.slice e)=>(fD P e).map fun s=>.clip s x' jU Ox
     |_=>none
   |_,_,_=>none
 | .fieldAddr s x f=>
  match P.underlying s,aw x with
   |some (.struct fs),some x'=>
    match ky P fs f with
     |some (off,n)=>if 0<n then some (.cJ off n x')else none
     |none=>none
   |_,_=>none
 | .indexAddr t x i=>
  match aw x,aw i with
   |some x',some i'=>
    match P.underlying t with
     |some (.slice e)=>(fD P e).map fun s=>.a_ s x' i'
     |some (.array n e)=>(fD P e).map fun s=>.rN n s x' i'
     |_=>none
   |_,_=>none
 | .index t x i=>
  match aw x,aw i with
   |some x',some i'=>
    match P.underlying t with
     |some .string=>some (.jh x' i')
     |some (.array n e)=>
      match fD P e,oj P e with
       |some s,some g=>if g=true\/s=1 then some (.Hv n s g x' i')else none
       |_,_=>none
     |_=>none
   |_,_=>none
 | .extract x i=>(aw x).map fun x'=>.ext x' i
 | .makeInterface t x=>
  match P.underlying t,aw x with
   |some (.interface _),_=>none
   |some _,some x'=>some (.rE t x')
   |_,_=>none
 | .lookup t m k ok=>
  match P.underlying t,aw m,aw k with
   |some (.map kt e),some m',some k'=>
    match D3 P e,P.underlying kt with
     |some z,some (.int _)=>some (.lookup .int z ok m' k')
     |some z,some .string=>some (.lookup .str z ok m' k')
     |some z,some .bool=>some (.lookup .bool z ok m' k')
     |_,_=>none
   |_,_,_=>none
 | .mapUpdate t m k x=>
  match P.underlying t,aw m,aw k,aw x with
   |some (.map kt _),some m',some k',some x'=>
    match P.underlying kt with
     |some (.int _)=>some (.iO .int m' k' x')
     |some .string=>some (.iO .str m' k' x')
     |some .bool=>some (.iO .bool m' k' x')
     |_=>none
   |_,_,_,_=>none
 | .range t x=>
  match P.underlying t with
   |some (.map _ _)=>(aw x).map (.range true)
   |_=>none
 | .next it s=>if s then none else(aw it).map .f_
 | .entry it=>(aw it).map .entry
 | .call c=>dq P c
 |_=>none
def iK(o:Oper):List Nat:=(o.after.toList.filter (Region.binds .any)).map (·.on)
def eE(ops:List Oper)(o:Oper):Option (Option (Nat×Bool)):=match o.guard with
 |none=>some none
 |some (j,nH)=>
  match(ops[j]? ).bind (·.dst)with
   |some d=>some (some (d,nH))
   |none=>none
def dU(P:Program)(ops:List Oper)(draw:Bool)(o:Oper):Option ab:=match eE ops o with
 |some g=>some {dst:=o.dst,op:=(aU P o.op).getD .bad,guard:=g,after:=if draw then iK o else[]}
 |none=>none
theorem cE{P:Program}{op:Op}{io:jG}(h:(aU P op).getD .bad=io)(fp:io≠ .bad):aU P op=some io:=by cases hc:aU P op<;>grind
def fE(P:Program)(ops:List Oper)(draw:Bool)(l:List Oper):Option (List ab):=bS (dU P ops draw) l
def aD(P:Program):Code->Option IR
 | .skip=>some .skip
 | .region _ ops draw=>
  match fE P ops.toList draw ops.toList with
   |some l=>some (if draw then .draw l else .region l)
   |none=>none
 | .scope b=>aD P b
 | .seq (.label _) b=>aD P b
 | .seq a b=>
  match aD P a,aD P b with
   |some a',some b'=>some (.seq a' b')
   |_,_=>none
 | .cond c a b=>
  match aw c,aD P a,aD P b with
   |some c',some a',some b'=>some (.cond c' a' b')
   |_,_,_=>none
 | .block id b=>(aD P b).map (.block id)
 | .loop b=>(aD P b).map .loop
 | .exit id=>some (.exit id)
 | .ret=>some .ret
 | .rangeFunc g ps a b=>(aw g).map fun f=>.dC f ps.toList a b
 |_=>none
def lE:Code->Bool| .scope _=>false| .seq (.label _) _=>false|_=>true
def mw(P:Program):ResultVar->Option jH
 | .tmp t=>some (.t t)
 | .cell a t=>
  match fD P t,oj P t with
   |some n,some g=>if g=true\/n=1 then some (.cell a n g)else none
   |_,_=>none
def au(P:Program)(f:FuncId):Option bL:=match P.funcs[f]? with
 |none=>none
 |some fn=>
  match fn.body with
   |none=>none
   |some c=>
    match aD P c,bS (mw P) fn.results.toList with
     |some b,some r=>some {nparams:=fn.params.size+fn.nfree,ntmps:=fn.ntmps,res:=r,body:=b}
     |_,_=>none
end Fw
/-
  Each operation that calls nothing, carried out in the model: what the abstract machine says of it.
-/
namespace Fw
open Go
variable {w:World}{v:Value}{u:V}
def A0(g g':G)(ns:Nat):Prop:=∀b,g'.cr b->g.cr b\/b=ns
def Good(P:Program)(a:Act)(o:Oper)(g:G)(w:World)(ns:Nat)(v:V)(H':ao):Prop:=∃g' w' nx,(execOp a.eval o).run P w=.ok nx w'/\((∃x,nx=.value x/\RV g' w' v x)\/(nx=.skip/\v=.any))/\ax g' w' H'/\bA g w g' w'/\A0 g g' ns
def Ev(ρ:aX->V)(a:Act)(g:G)(w:World):Prop:=∀x y,aw x=some y->RV g w (ρ y) (a.eval x)
theorem bU{α β:Type}{f:α->Option β}:∀{l:List α}{l':List β},bS f l=some l'->l.length=l'.length
 |[],l',h=>by grind[bS]
 |x::xs,l',h=>by
  simp only[bS]at h;split at h
  ·cases h
  ·split at h
   ·cases h
   ·rename_i ys D4;simp at h;subst h;simp[bU D4]
theorem gV{α β:Type}{f:α->Option β}:∀{l:List α}{l':List β}(i:Nat)(x:α),bS f l=some l'->l[i]? =some x->∃y,l'[i]? =some y/\f x=some y
 |[],l',i,x,h,hx=>by simp at hx
 |z::xs,l',i,x,h,hx=>by
  simp only[bS]at h;split at h
  ·cases h
  ·rename_i y hy;split at h
   ·cases h
   ·rename_i ys D4;simp at h;subst h;cases i with
     |zero=>grind
     |succ i=>simp at hx⊢;exact gV i x D4 hx
theorem D5{g:G}(h:Hz v=some u):RV g w u v:=by unfold Hz at h;grind[Option.some.injEq,reduceCtorEq,RV,Rd]
theorem KX(h:Hz v=some u):eC u=true:=by unfold Hz at h;split at h<;>simp only[aat,reduceCtorEq]at h<;>subst h<;>rfl
theorem iR{g:G}{w:World}:∀{l:List Value}{us:List V},bS Hz l=some us->aM g w us l/\us.all eC=true
 |[],us,h=>by grind[bS,aM]
 |x::xs,us,h=>by
  simp only[bS]at h;split at h
  ·cases h
  ·rename_i y hy;split at h
   ·cases h
   ·rename_i ys D4;simp at h;subst h;have ih:=iR (g:=g) (w:=w) D4;refine⟨by simp only[aM];exact⟨D5 hy,ih.1⟩,by simp[KX hy];grind⟩
theorem D6{g:G}(h:Ua v=some u):RV g w u v:=by
 unfold Ua at h;split at h
 ·rename_i cs;cases hm:bS Hz cs.toList with
   |none=>grind
   |some us=>simp[hm]at h;subst h;simp only[RV];exact⟨cs,rfl,(iR hm).1⟩
 ·exact D5 h
theorem R.ev{GL:bR}{g:G}{a:Act}{σ:St}(h:R GL g w a σ):Ev (aW GL σ.tm) a g w:=by
 intro x y N2;cases x with
  |tmp t=>simp[aw]at N2;subst N2;exact h.tmps t
  |const v=>simp only[aw,aaB]at N2;obtain⟨u,hu,rfl⟩:=N2;exact D6 hu
  |global n=>
   simp[aw]at N2;subst N2;simp only[aW,Act.eval];cases hn:GL.rd n with
    |none=>simp only[RV]
    |some cs=>simp;exact⟨n,0,rfl,fun _=>(h.cB.rd n cs hn).1,(h.cB.rd n cs hn).2⟩
  |func f=>grind[aw,aW,Act.eval,RV,aM]
theorem Good.val{P:Program}{a:Act}{o:Oper}{g:G}{ns:Nat}{v:V}{H:ao}{x:Value}(hh:ax g w H)(hr:(execOp a.eval o).run P w=.ok (.value x) w)(hv:RV g w v x):Good P a o g w ns v H:=⟨g,w,_,hr,.inl ⟨x,rfl,hv⟩,hh,bA.refl _ _,fun _ h=>.inl h⟩
section
variable {P:Program}{a:Act}{o:Oper}{g:G}{w:World}{ρ:aX->V}{H:ao}{ns:Nat}
variable {t:TypeId}{cs z:List V}{n:Nat}{v:Value}{b:Bool}{y:aX}{u:V}{ps:Array (Nat×Operand)}{qs:List (Nat×Nat×aX)}
theorem RV.bool(h:RV g w (.d (.bool b)) v):v=.bool b:=by grind[RV,Rd]
theorem RV.int{k:IntKind}{n:Int}(h:RV g w (.d (.int k n)) v):v=.int k n:=by grind[RV,Rd]
theorem RV.A1(b:Bool):RV g w (.d (.bool b)) (.bool b):=by grind[RV,Rd]
theorem RV.zj(k:IntKind)(n:Int):RV g w (.d (.int k n)) (.int k n):=by grind[RV,Rd]
theorem RV.str{l:List UInt8}(h:RV g w (.d (.str l)) v):∃s:ByteArray,v=.string s/\s.data.toList=l:=by grind[RV,Rd]
theorem RV.UX(s:ByteArray):RV g w (.d (.str s.data.toList)) (.string s):=by grind[RV,Rd]
theorem Oy{x:Operand}(ho:o.op=.move x\/o.op=.assign x)(hx:aw x=some y)(ev:Ev ρ a g w)(hh:ax g w H):Good P a o g w ns (ρ y) H:=by refine Good.val (x:=a.eval x) hh ?_ (ev _ _ hx);rcases ho with ho|ho<;>simp[execOp,ho]
theorem KY{c x y:Operand}{c' x' y':aX}(ho:o.op=.pick c x y)(hc:aw c=some c')(hx:aw x=some x')(hy:aw y=some y')(hb:ρ c'=.d (.bool b))(ev:Ev ρ a g w)(hh:ax g w H):Good P a o g w ns (bif b then ρ x' else ρ y') H:=by
 have h1:=ev _ _ hc;rw[hb]at h1;have h2:=RV.bool h1;cases b with
  |true=>exact Good.val (x:=a.eval x) hh (by simp_all[execOp,asBool]) (ev _ _ hx)
  |false=>exact Good.val (x:=a.eval y) hh (by simp_all[execOp,asBool]) (ev _ _ hy)
theorem rT{c:Array Value}(e:TypeId)(kz:cs.all eC=true)(hv:aM g w cs c.toList)(hh:ax g w H)(fC:gg g ns)(n:Nat)(hn:n=cs.length):let g':=g.add ns (.cells w.heap.size n n);let w':=w.alloc (.cells c e);ax g' w' (aR H ns (.cells cs))/\bA g w g' w'/\g'.cr ns/\g'.γ ns=some (.cells w.heap.size n n):=by subst hn;have he:=bA.new hh fC (.cells c e) (.cells w.heap.size cs.length cs.length) rfl;refine⟨ax.new hh fC _ _ _ rfl ?_,he,.inr rfl,by simp[G.add]⟩;have hl:=hv.length;simp only[RB];refine⟨trivial,kz,aaE _,c,e,bf _ _,by grind,?_ ⟩;rw[List.take_of_length_le (by grind)];exact aM.ext he _ _ hv
theorem RV.D7{g':G}{w':World}{b aK:Nat}(h1:g'.cr b)(h2:g'.γ b=some (.cells aK n n)):RV g' w' (.ptr b n 0) (.pointer (some ⟨aK,0,none⟩)):=by grind[RV,Option.some.injEq]
theorem run_typeInfo{i:TypeInfo}(h:P.info? t=some i)(w:World):(typeInfo t).run P w=.ok i w:=by simp[typeInfo,h]
theorem oo{i:TypeInfo}{z:Value}(h:P.info? t=some i)(hz:i.zero=some z)(w:World):(zeroValue t).run P w=.ok z w:=by simp[zeroValue,run_typeInfo h,hz]
theorem cu(h:fD P t=some n)(w:World):(Go.sizeOf t).run P w=.ok n w:=by simp only[fD,aaB]at h;obtain⟨i,hi,rfl⟩:=h;simp[Go.sizeOf,run_typeInfo hi]
theorem rF(h:oj P t=some b)(w:World):(isAgg t).run P w=.ok b w:=by simp only[oj,aaB]at h;obtain⟨d,hd,rfl⟩:=h;cases d<;>simp[isAgg,run_underlying hd]
theorem HA(ho:o.op=.alloc t)(hz:di P t=some z)(hh:ax g w H)(fC:gg g ns):Good P a o g w ns (.ptr ns z.length 0) (aR H ns (.cells z)):=by simp only[di,aa7]at hz;obtain⟨zv,⟨i,hi,xp⟩,hm⟩:=hz;obtain⟨hv,kz⟩:=iR (g:=g) (w:=w) hm;obtain⟨h1,h2,h3,h4⟩:=rT t kz hv hh fC _ rfl;refine⟨_,_,.value (.pointer (some ⟨w.heap.size,0,none⟩)),?_,.inl ⟨_,rfl,RV.D7 h3 h4⟩,h1,h2,fun _ h=>h⟩;simp[execOp,ho,Instr.alloc,oo hi xp,newVar,newRow]
theorem pU(hu:(bP u).all eC=true)(h:RV g w u v):aM g w (bP u) v.cells.toList:=by
 cases u with
  |agg cs=>grind[RV,bP,Value.cells]
  |any=>grind[bP,eC]
  |tuple=>grind[bP,eC]
  |_=>
   simp only[bP]at hu⊢;have h1:=RV.one (by grind) h;have h2:v.cells= #[v]:=by cases v<;>first|rfl|grind[Value.oneCell']
   simp_all[aM]
theorem Oz{x:Operand}(ho:o.op=.box t x)(hx:aw x=some y)(kz:(bP (ρ y)).all eC=true)(ev:Ev ρ a g w)(hh:ax g w H)(fC:gg g ns):Good P a o g w ns (.ptr ns (bP (ρ y)).length 0) (aR H ns (.cells (bP (ρ y)))):=by obtain⟨h1,h2,h3,h4⟩:=rT t kz (pU kz (ev _ _ hx)) hh fC _ rfl;refine⟨_,_,.value (.pointer (some ⟨w.heap.size,0,none⟩)),?_,.inl ⟨_,rfl,RV.D7 h3 h4⟩,h1,h2,fun _ h=>h⟩;simp[execOp,ho,Instr.box,newVar,newRow]
theorem vF:∀{cs:List V}{vs:List Value}(off:Nat){us:List V}{xs:List Value},aM g w cs vs->aM g w us xs->∀(c:Array Value),c.toList=vs->aM g w (putCells cs off us) ((xs.zipIdx).foldl (fun(ds:Array Value)(p:Value×Nat)=>ds.setIfInBounds (off+p.2) p.1) c).toList:=by
 suffices h:∀(us:List V)(xs:List Value)(k off:Nat)(cs:List V)(c:Array Value),aM g w cs c.toList->aM g w us xs->aM g w (putCells cs (off+k) us) ((xs.zipIdx k).foldl (fun(ds:Array Value)(p:Value×Nat)=>ds.setIfInBounds (off+p.2) p.1) c).toList by intro cs vs off us xs h1 h2 c hc;subst hc;exact h us xs 0 off cs c h1 h2
 intro us;induction us with
  |nil=>
   intro xs k off cs c h1 h2;cases xs with
    |nil=>simp_all[putCells]
    |cons=>grind[aM]
  |cons u us ih=>
   intro xs k off cs c h1 h2;cases xs with
    |nil=>grind[aM]
    |cons x xs=>simp only[aM]at h2;simp only[putCells,List.zipIdx_cons,abp];have:=ih xs (k+1) off (cs.set (off+k) u) (c.setIfInBounds (off+k) x) (by simpa using aM.set _ h1 h2.1) h2.2;grind
theorem eZ(l:List V)(i:Nat)(vs:List V):(putCells l i vs).length=l.length:=by induction vs generalizing l i<;>grind[putCells]
theorem qM{l:List V}{i:Nat}{vs:List V}(h:l.all eC=true)(hv:vs.all eC=true):(putCells l i vs).all eC=true:=by
 induction vs generalizing l i with
  |nil=>exact h
  |cons v vs ih=>simp only[aaM,aas]at hv;refine ih ?_ hv.2;grind
theorem vG{place:Nat->Option (Nat×Nat)}(ev:Ev ρ a g w):∀{ps:List (Nat×Operand)}{qs:List (Nat×Nat×aX)}{cs rU:List V}{c:Array Value},dD place ps=some qs->eR ρ cs qs=some rU->cs.all eC=true->aM g w cs c.toList->∃c',Instr.fill place c (ps.map fun p=>(p.1,a.eval p.2))=some c'/\aM g w rU c'.toList/\rU.all eC=true
 |[],qs,cs,rU,c,h1,h2,h3,h4=>by simp only[dD,aat]at h1;subst h1;simp only[eR,aat]at h2;subst h2;exact⟨c,rfl,h4,h3⟩
 |(i,x)::ps,qs,cs,rU,c,h1,h2,h3,h4=>by
  simp only[dD]at h1;split at h1
  ·cases h1
  ·rename_i off size hp;split at h1
   ·cases h1
   ·rename_i y hy;split at h1
    ·cases h1
    ·rename_i qs' OA;simp at h1;subst h1;simp only[eR]at h2;cases hc:(Nat.beq (bP (ρ y)).length size&&Nat.ble (off+size) cs.length&&(bP (ρ y)).all eC)with
      |false=>grind
      |true=>
       rw[hc]at h2;simp at h2;simp only[aas]at hc;have hv:=pU hc.2 (ev _ _ hy);have hl:=hv.length;have hl4:=h4.length;have e1:(bP (ρ y)).length=size:=aav hc.1.1;have e2:off+size<=cs.length:=aax hc.1.2;have key:=vF off h4 hv c rfl;obtain⟨c',q1,q2,q3⟩:=vG ev OA h2 (qM h3 hc.2) key;refine⟨c',?_,q2,q3⟩;simp only[aaG,Instr.fill,hp];have e3:(a.eval x).cells.size=size:=by grind
       have e4:¬((decide ((a.eval x).cells.size≠size)||decide (off+(a.eval x).cells.size>c.size))=true):=by grind
       grind[Array.toList_zipIdx]
theorem A2{place:Nat->Option (Nat×Nat)}(ho:o.op=.build t ps)(hz:di P t=some z)(hb:∀(i:TypeInfo)(zv:Value)(parts:List (Nat×Value)),P.info? t=some i->i.zero=some zv->P.built t parts=Instr.fill place zv.cells parts)(hq:dD place ps.toList=some qs)(hf:eR ρ z qs=some cs)(ev:Ev ρ a g w)(hh:ax g w H):Good P a o g w ns (.agg cs) H:=by simp only[di,aa7]at hz;obtain⟨zv,⟨i,hi,xp⟩,hm⟩:=hz;obtain⟨hv,kz⟩:=iR (g:=g) (w:=w) hm;obtain⟨c',h1,h2,h3⟩:=vG ev hq hf kz hv;have hbt:=hb i zv (ps.map fun p=>(p.1,a.eval p.2)).toList hi xp;rw[Array.toList_map,h1]at hbt;refine Good.val (x:=.agg c') hh ?_ (by grind[RV]);have hr:=run_build (P:=P) w t (ps.map fun p=>(p.1,a.eval p.2)) c' (by simp_all);simp[execOp,ho,hr]
theorem rV(z:Array Value)(hz:0<z.size)(n:Nat):∀i,((Array.range n).map (z[·%z.size]! )).toList[i]? =if i<n then z[i%z.size]? else none:=by intro i;have hm:=abY i hz;grind
theorem aM.eN:∀{us:List V}{vs:List Value},us.length=vs.length->(∀(i:Nat)(u:V)(v:Value),us[i]? =some u->vs[i]? =some v->RV g w u v)->aM g w us vs
 |[],[],_,_=>by simp only[aM]
 |u::us,v::vs,hl,h=>by simp only[aM];exact⟨h 0 u v rfl rfl,aM.eN (by grind) (fun i x y hx hy=>h (i+1) x y (by grind) (by grind))⟩
 |[],_::_,hl,_=>by simp at hl
 |_::_,[],hl,_=>by simp at hl
theorem lF{e:TypeId}{len s:Nat}(ho:o.op=.buildSlice t len ps)(hu:P.underlying t=some (.slice e))(hs:fD P e=some s)(hz:di P e=some z)(h1:len*s<=2^24)(h2:z.length=s)(h3:0<s)(hq:dD (fun i=>some (i*s,s)) ps.toList=some qs)(hf:eR ρ ((List.range (len*s)).map fun i=>z.getD (i%s) .any) qs=some cs)(ev:Ev ρ a g w):∃c':Array Value,aM g w cs c'.toList/\cs.all eC=true/\cs.length=len*s/\(execOp a.eval o).run P w=.ok (.value (.slice (some ⟨w.heap.size,0,none⟩) len len)) (w.alloc (.cells c' e)):=by
 simp only[di,aa7]at hz;obtain⟨zv,⟨i,hi,xp⟩,hm⟩:=hz;obtain⟨hv,kz⟩:=iR (g:=g) (w:=w) hm;have UY:=hv.length;have cG:0<zv.cells.size:=by grind
 have hze:zv.cells.size=s:=by grind
 have UZ:((List.range (len*s)).map fun i=>z.getD (i%s) .any).all eC=true:=by simp only[aaJ,abg,abn];rintro x ⟨j,_,rfl⟩;have:=abY j h3;grind
 have fY:aM g w ((List.range (len*s)).map fun i=>z.getD (i%s) .any) ((Array.range (len*s)).map (zv.cells[·%zv.cells.size]! )).toList:=by
  refine aM.eN (by simp) fun j u v hu xq=>?_
  rw[rV _ cG]at xq;by_cases hj:j<len*s
  ·simp at xq;simp[hj]at hu;subst hu;have Ub:=abY j h3;rw[hze]at xq;have hg:z[j%s]? =some (z[j%s]'(by omega)):=aaz _;rw[hg,abx];obtain⟨v',h5,h6⟩:=aM.get (j%s) hv hg;grind
  grind
 obtain⟨c',h5,h6,h7⟩:=vG ev hq hf UZ fY;have tM:cs.length=len*s:=by
  have N3:∀(cs:List V)(qs:List (Nat×Nat×aX))(rU:List V),eR ρ cs qs=some rU->rU.length=cs.length:=by intro cs qs;induction qs generalizing cs<;>grind[eR,eZ]
  grind
 refine⟨c',h6,h7,tM,?_⟩
 ·by_cases h0:len*s=0
  ·have h5':Instr.fill (fun i=>some (i*s,s)) ((Array.range (len*s)).map ((#[]:Array Value)[·%(#[]:Array Value).size]! )) (ps.toList.map fun p=>(p.1,a.eval p.2))=some c':=by grind
   simp[execOp,ho,Instr.buildSlice,run_underlying hu,cu hs,h0];simp_all[newRow]
  ·simp[execOp,ho,Instr.buildSlice,run_underlying hu,cu hs,h0,Nat.not_lt.2 h1,oo hi xp,h5,newRow]
theorem Cd{e:TypeId}{len s:Nat}(ho:o.op=.buildSlice t len ps)(hu:P.underlying t=some (.slice e))(hs:fD P e=some s)(hz:di P e=some z)(h1:len*s<=2^24)(h2:z.length=s)(h3:0<s)(hq:dD (fun i=>some (i*s,s)) ps.toList=some qs)(hf:eR ρ ((List.range (len*s)).map fun i=>z.getD (i%s) .any) qs=some cs)(ev:Ev ρ a g w)(hh:ax g w H)(fC:gg g ns):Good P a o g w ns (.sl ns cs.length 0 len s) (aR H ns (.cells cs))/\cs.length=len*s:=by obtain⟨c',h6,h7,tM,ep⟩:=lF ho hu hs hz h1 h2 h3 hq hf ev;refine⟨?_,tM⟩;obtain⟨k1,k2,k3,k4⟩:=rT e h7 h6 hh fC _ rfl;refine⟨_,_,.value (.slice (some ⟨w.heap.size,0,none⟩) len len),ep,.inl ⟨_,rfl,?_⟩,k1,k2,fun _ h=>h⟩;simp only[RV];refine⟨⟨rfl,k3⟩,fun x hx=>?_ ⟩;grind
theorem xr(h:jq H n u=some cs)(hv:RV g w u v)(hh:ax g w H):∃aK off vs,v=.pointer (some ⟨aK,off,none⟩)/\vs.length=n/\aM g w cs vs/\∀j x,vs[j]? =some x->w.cell? ⟨aK,off+j,none⟩=some x:=by
 cases u with
  |ptr b hb off=>
   simp only[jq]at h;cases hg:aA H b with
    |none=>grind
    |some y=>
     cases y with
      |cells rU=>
       simp only[hg]at h;cases hc:(Nat.beq rU.length hb&&Nat.ble (off+n) hb)with
        |false=>grind
        |true=>rw[hc]at h;simp at h;simp only[aas]at hc;have e1:=aav hc.1;have e2:=aax hc.2;obtain⟨x,hx⟩:=hh.back b _ hg;obtain⟨_,y',tQ,hr⟩:=hh.live b x hx;rw[hg]at tQ;simp at tQ;subst tQ;simp only[RV]at hv;obtain⟨aK,cp,cur,rfl,h1,h2⟩:=hv.2 x hx;simp only[RB]at hr;obtain⟨r1,r2,r3,c,e,r4,r5,r6⟩:=hr;subst h;refine⟨aK,off,((c.toList.take rU.length).drop off).take n,h1 (by omega),?_,(r6.drop off).take n,fun j x hj=>?_ ⟩;all_goals grind[World.cell?]
      |_=>grind
  |aL ds=>
   simp only[jq]at h;cases hc:Nat.ble n ds.length with
    |false=>grind
    |true=>rw[hc]at h;simp only[aaw,aat]at h;have e1:=aax hc;simp only[RV]at hv;obtain⟨aK,off,rfl,_,h3⟩:=hv;obtain⟨vs,h4,h5⟩:=cV.KR h3;subst h;have hl:=h4.length;simp at hl;refine⟨aK,off,vs.take n,rfl,by simp;omega,by rw[List.map_take];exact h4.take n,fun j x hj=>?_ ⟩;grind
  |_=>simp[jq]at h
theorem Addr.fF(aK off j:Nat):(⟨aK,off,none⟩:Addr).add j=⟨aK,off+j,none⟩:=by unfold Addr.add;grind
theorem zu{v:V}{vs:List Value}(h:AX b cs=some v)(hv:aM g w cs vs):RV g w v (if b then .agg vs.toArray else vs.headD undef)/\(b=false->vs.length=1):=by
 cases b with
  |true=>simp[AX]at h;subst h;simp_all[RV]
  |false=>
   simp only[AX,aaK]at h;split at h
   ·simp at h;subst h;cases vs<;>grind[aM]
   ·cases h
theorem lG{aK off:Nat}{vs:List Value}(hn:fD P t=some n)(hb:oj P t=some b)(hl:vs.length=n)(h1:b=false->vs.length=1)(hc:∀j x,vs[j]? =some x->w.cell? ⟨aK,off+j,none⟩=some x):(loadVar t ⟨aK,off,none⟩).run P w=.ok (if b then .agg vs.toArray else vs.headD undef) w:=by
 cases b with
  |true=>have:=run_loadCells_list (P:=P) w ⟨aK,off,none⟩ vs (fun j x hj=>by grind[Addr.fF]);subst hl;simp[loadVar,rF hb,cu hn,this]
  |false=>
   have U0:=h1 rfl;obtain⟨x,rfl⟩:∃x,vs=[x]:=by match vs,U0 with|[x],_=>grind
   have:=hc 0 x rfl;simp at this;simp[loadVar,rF hb,this]
theorem KZ{x:Operand}{v:V}(ho:o.op=.load t x)(hn:fD P t=some n)(hb:oj P t=some b)(hx:aw x=some y)(h1:jq H n (ρ y)=some cs)(h2:AX b cs=some v)(ev:Ev ρ a g w)(hh:ax g w H):Good P a o g w ns v H:=by obtain⟨aK,off,vs,e1,e2,e3,e4⟩:=xr h1 (ev _ _ hx) hh;obtain⟨h3,h4⟩:=zu h2 e3;refine Good.val hh ?_ h3;simp[execOp,ho,e1,Instr.loadAt,Instr.sureAddr,lG hn hb e2 h4 e4]
theorem js:∀(us cs:List Value)(off:Nat),off+us.length<=cs.length->putCells cs off us=cs.take off++us++cs.drop (off+us.length)
 |[],cs,off,_=>by simp[putCells]
 |u::us,cs,off,h=>by simp at h;simp only[putCells];rw[js us (cs.set off u) (off+1) (by simp;omega)];apply acB;intro i;simp;grind
theorem tR(cs us:List Value)(off k:Nat)(h:off+us.length<=k):(putCells cs off us).take k=putCells (cs.take k) off us:=by induction us generalizing cs off<;>grind[List.length_cons,putCells,List.take_set]
theorem nc:∀{us:List V}{xs:List Value}{cs:List V}{vs:List Value}(off:Nat),aM g w cs vs->aM g w us xs->aM g w (putCells cs off us) (putCells vs off xs)
 |[],[],_,_,_,h,_=>h
 |u::us,x::xs,cs,vs,off,h,h2=>by simp only[aM]at h2;simp only[putCells];exact nc (off+1) (h.set off h2.1) h2.2
 |[],_::_,_,_,_,_,h=>by grind[aM]
 |_::_,[],_,_,_,_,h=>by grind[aM]
theorem uv{x:V}{y:Value}{p:Nat×bW}(h:dL H n u x=some p)(hv:RV g w u v)(hx:RV g w x y)(hh:ax g w H):∃aK off w',v=.pointer (some ⟨aK,off,none⟩)/\y.cells.size=n/\(storeCells ⟨aK,off,none⟩ y.cells.toList).run P w=.ok () w'/\ax g w' (bn H (some p))/\bA g w g w':=by
 cases u with
  |ptr b hb off=>
   simp only[dL]at h;cases hg:aA H b with
    |none=>grind
    |some yb=>
     cases yb with
      |cells cs=>
       simp only[hg]at h;cases hc:(Nat.beq cs.length hb&&Nat.ble (off+n) hb&&Nat.beq (bP x).length n&&(bP x).all eC)with
        |false=>grind
        |true=>
         rw[hc]at h;simp at h;simp only[aas]at hc;have e1:=aav hc.1.1.1;have e2:=aax hc.1.1.2;have e3:=aav hc.1.2;obtain⟨z,hz⟩:=hh.back b _ hg;obtain⟨_,y',tQ,hr⟩:=hh.live b z hz;rw[hg]at tQ;simp at tQ;subst tQ;simp only[RV]at hv;obtain⟨aK,cp,cur,rfl,h1,h2⟩:=hv.2 z hz;simp only[RB]at hr;obtain⟨r1,r2,r3,c,e,r4,r5,r6⟩:=hr;have D8:=pU hc.2 hx;have K3:=D8.length;have D4:y.cells.size=n:=by grind
         have qK:=run_storeCells_at P aK off e y.cells.toList 0 c w r4 (by simp;omega) (aM.one hc.2 D8);simp only[aci]at qK;rw[←js _ _ _ (by simp;omega)]at qK;have hw:∀j,j≠aK->(w.setRow aK (putCells c.toList off y.cells.toList).toArray).heap[j]? =w.heap[j]? :=fun j hj=>setRow_other w aK j _ hj
         have he:bA g w g (w.setRow aK (putCells c.toList off y.cells.toList).toArray):=bA.write hz rfl (hh.qL hz rfl) rfl rfl rfl (by simp) hw;refine⟨aK,off,_,h1 (by omega),D4,qK,?_,he⟩;subst h;refine ax.write hh _ hz rfl he hw ?_;simp only[RB];have Ce:∀(l:List Value)(i:Nat)(vs:List Value),(putCells l i vs).length=l.length:=by intro l i vs;induction vs generalizing l i<;>grind[putCells]
         refine⟨by grind[eZ],qM r2 hc.2,by grind[eZ],_,e,setRow_heap w aK c _ e _ r4,by grind,?_ ⟩;rw[eZ,List.toList_toArray,tR _ _ _ _ (by simp;omega)];exact nc off (aM.ext he _ _ r6) (aM.ext he _ _ D8)
      |_=>grind
  |_=>simp[dL]at h
theorem HB{x y:Operand}{x' y':aX}{p:Nat×bW}(ho:o.op=.store t x y)(hn:fD P t=some n)(hx:aw x=some x')(hy:aw y=some y')(h1:dL H n (ρ x') (ρ y')=some p)(ev:Ev ρ a g w)(hh:ax g w H):Good P a o g w ns .any (bn H (some p)):=by obtain⟨aK,off,w',e1,e2,e3,e4,e5⟩:=uv (P:=P) h1 (ev _ _ hx) (ev _ _ hy) hh;refine⟨g,w',.skip,?_,.inr ⟨rfl,rfl⟩,e4,e5,fun _ h=>.inl h⟩;simp[execOp,ho,e1,Instr.storeAt,Instr.sureAddr,storeVar,cu hn,e2,e3]
end
end Fw
/-
  Operations, further: arithmetic, tests, strings, slices, fields, indexes.
-/
namespace Fw
open Go
section
variable {P:Program}{a:Act}{o:Oper}{g:G}{w:World}{ρ:aX->V}{H:ao}{ns:Nat}
variable {t yt:TypeId}{op:BinOp}{x':aX}{v:V}{d:D}{n:Nat}{y:Operand}
theorem D9{x:Operand}{y:aX}(ho:o.op=.nilCheck x)(hx:aw x=some y)(h:bw ρ H ns (.kp y)=some (v,none))(ev:Ev ρ a g w)(hh:ax g w H):Good P a o g w ns v H:=by
 have hv:=ev _ _ hx;simp only[bw]at h;split at h<;>simp only[aat,aay,reduceCtorEq]at h
 ·rename_i b hb off e;obtain⟨rfl,_⟩:=h;rw[e]at hv;have fY:=hv;simp only[RV]at fY;obtain⟨⟨⟨aK,q,e2⟩,_⟩,_⟩:=fY;exact Good.val (x:=a.eval x) hh (by simp[execOp,ho,e2]) hv
 ·rename_i cs e;obtain⟨rfl,_⟩:=h;rw[e]at hv;have fY:=hv;simp only[RV]at fY;obtain⟨aK,q,e2,_⟩:=fY;exact Good.val (x:=a.eval x) hh (by simp[execOp,ho,e2]) hv
 ·rename_i f p q e;obtain⟨rfl,_⟩:=h;rw[e]at hv;have fY:=hv;simp only[RV]at fY;obtain⟨p',q',e2,_⟩:=fY;exact Good.val (x:=a.eval x) hh (by simp[execOp,ho,e2]) hv
theorem bytesLess_eq:∀(x y:List UInt8),Fw.bytesLess x y=Op.bytesLess x y
 |x,[]=>by cases x<;>rfl
 |[],_::_=>rfl
 |p::x,q::y=>by
  simp only[Fw.bytesLess,Op.bytesLess,bytesLess_eq x y];by_cases h1:p.toNat<q.toNat
  ·grind[Nat.blt_eq,UInt8.lt_iff_toNat_lt]
  ·have e1:Nat.blt p.toNat q.toNat=false:=by grind[Nat.blt_eq]
   have:decide (p<q)=false:=by grind[UInt8.lt_iff_toNat_lt]
   rw[e1,this];simp;by_cases h2:p=q
   ·simp_all
   ·have:Nat.beq p.toNat q.toNat=false:=dv (fun e=>h2 (ab6.1 e));grind
theorem cN:∀(x y:List UInt8),Fw.ah x y=(x==y)
 |[],[]=>rfl
 |[],_::_=>rfl
 |_::_,[]=>rfl
 |p::x,q::y=>by
  simp only[Fw.ah,cN x y];by_cases h2:p=q
  ·simp_all
  ·have:Nat.beq p.toNat q.toNat=false:=dv (fun e=>h2 (ab6.1 e));grind
theorem cT(x y:List UInt8):Fw.ah x y=decide (x=y):=by grind[cN]
theorem ig{x y:Value}{r:Result Bool}(h:∀d,(Op.equalIn (d+1) t x y).run P w=r):(Op.equal t x y).run P w=r:=h 9999
theorem A3{s t:ByteArray}(h:zr op s.data.toList t.data.toList=some d):∃v,(Op.stringOp op s t).run P w=.ok v w/\RV g w (.d d) v:=by
 unfold zr at h;split at h
 ·split at h
  ·rename_i hl;simp at h;subst h;have JA:s.size+t.size<=2^62:=by simp_all[iP]
   refine⟨.string (s++t),?_,?_⟩
   ·have:¬(((s.size+t.size:Nat):Int)>IntKind.i64.max):=by
     have e:IntKind.i64.max=9223372036854775807:=by decide
     grind
    simp_all[Op.stringOp]
   ·have:s.data.toList++t.data.toList=(s++t).data.toList:=by simp_all
    rw[this];exact RV.UX _
  ·cases h
 all_goals (simp only[aat,reduceCtorEq]at h<;>subst h)
 all_goals simp_all[Op.stringOp,Lib.toList_data,cN,bytesLess_eq,RV,Rd]
theorem HC{s t:ByteArray}{m:Nat}(hs:s.data.toList.length<=n)(ht:t.data.toList.length<=m)(h:oh op n m=some d):op=.add/\∃v,(Op.stringOp op s t).run P w=.ok v w/\RV g w (.d d) v:=by
 unfold oh at h;split at h
 ·cases hb:Nat.ble (n+m) iP with
   |false=>rw[hb]at h;cases h
   |true=>rw[hb]at h;simp only[aaw,aat]at h;subst h;have hl:=aax hb;obtain⟨v,h1,h2⟩:=A3 (P:=P) (g:=g) (w:=w) (op:=.add) (s:=s) (t:=t) (d:=.str (s.data.toList++t.data.toList)) (by unfold zr;exact aaD (by omega));refine⟨rfl,v,h1,?_⟩;obtain⟨r,rfl,hr⟩:=RV.str h2;simp only[RV,Rd];exact⟨r,rfl,by rw[hr,aap];omega⟩
 ·cases h
theorem RV.OB{a:List UInt8}{v:Value}(h:RV g w (.d (.str a)) v):∃s:ByteArray,v=.string s/\s.data.toList.length<=a.length:=by simp only[RV,Rd]at h;obtain⟨s,k1,k2⟩:=h;exact⟨s,k1,Nat.le_of_eq (aca List.length k2)⟩
theorem RV.HD{v:Value}(h:RV g w (.d (.sN n)) v):∃s:ByteArray,v=.string s/\s.data.toList.length<=n:=by simp only[RV,Rd]at h;exact h
theorem zw{x:Operand}{m:Nat}(ho:o.op=.binOp op t x y yt)(h1:∃s:ByteArray,a.eval x=.string s/\s.data.toList.length<=n)(h2:∃s:ByteArray,a.eval y=.string s/\s.data.toList.length<=m)(hd:oh op n m=some d)(hh:ax g w H):Good P a o g w ns (.d d) H:=by
 obtain⟨s1,f1,b1⟩:=h1;obtain⟨s2,f2,b2⟩:=h2;obtain⟨rfl,r,hr,A4⟩:=HC (P:=P) (g:=g) (w:=w) b1 b2 hd;have hg:(eqGuard .add t x y (a.eval x) (a.eval y)).run P w=.ok () w:=by rw[f1,f2];unfold eqGuard;simp_all
 refine Good.val hh ?_ A4;have hb:(binOp .add t (.string s1) (.string s2)).run P w=.ok r w:=by rw[←hr];rfl
 grind[execOp,Sem.run_bind,Result.andThen_ok,Sem.run_pure]
theorem OD{x:Operand}{y':aX}(ho:o.op=.binOp op t x y yt)(hx:aw x=some x')(hy:aw y=some y')(h:pT op (ρ x') (ρ y')=some v)(ev:Ev ρ a g w)(hh:ax g w H):Good P a o g w ns v H:=by
 have cW:=ev _ _ hx;have eO:=ev _ _ hy;unfold pT at h;split at h
 ·rename_i k n k' m e1 e2;split at h
  ·rename_i hk;subst hk;simp at h;obtain⟨d,hd,rfl⟩:=h;rw[e1]at cW;rw[e2]at eO;have f1:=RV.int cW;have f2:=RV.int eO;have hg:(eqGuard op t x y (a.eval x) (a.eval y)).run P w=.ok () w:=by rw[f1,f2];unfold eqGuard;simp_all
   unfold DZ at hd;split at hd;case h_4=>
    split at hd
    ·cases hd
    ·rename_i hz;simp at hd;subst hd;exact Good.val hh (by simp_all[execOp,Result.andThen_ok,binOp,Op.intDiv]) (RV.zj _ _)
   case h_5=>
    split at hd
    ·cases hd
    ·rename_i hz;simp at hd;subst hd;exact Good.val hh (by simp_all[execOp,Result.andThen_ok,binOp,Op.intDiv]) (RV.zj _ _)
   case h_6=>
    simp only[aat]at hd;subst hd;have hi:(Op.intBits BinOp.and k n m).run P w=.ok (.int k (k.wrap (BitVec.ofInt k.bits n&&&BitVec.ofInt k.bits m).toNat)) w:=by unfold Op.intBits;simp_all
    have hb:(binOp BinOp.and t (.int k n) (.int k m)).run P w=.ok (.int k (k.wrap (BitVec.ofInt k.bits n&&&BitVec.ofInt k.bits m).toNat)) w:=by grind[binOp]
    refine Good.val hh ?_ (RV.zj _ _);grind[execOp,Sem.run_bind,Result.andThen_ok,Sem.run_pure]
   all_goals (simp only[aat,reduceCtorEq]at hd<;>subst hd)
   all_goals first
    |exact Good.val hh (by simp only[execOp,ho,Sem.run_bind,hg,Result.andThen_ok];simp only[f1,f2,binOp];simp[Op.intArith]) (RV.zj _ _)
    |exact Good.val hh (by simp_all[execOp,Result.andThen_ok,binOp,Op.intCmp]) (RV.A1 _)
  ·cases h
 ·rename_i s t' e1 e2;simp at h;obtain⟨d,hd,rfl⟩:=h;rw[e1]at cW;rw[e2]at eO;obtain⟨s1,f1,rfl⟩:=RV.str cW;obtain⟨s2,f2,rfl⟩:=RV.str eO;obtain⟨r,hr,A4⟩:=A3 (P:=P) (g:=g) (w:=w) hd;have hg:(eqGuard op t x y (a.eval x) (a.eval y)).run P w=.ok () w:=by rw[f1,f2];unfold eqGuard;simp_all
  refine Good.val hh ?_ A4;have hb:(binOp op t (.string s1) (.string s2)).run P w=.ok r w:=by rw[←hr];cases op<;>rfl
  grind[execOp,Sem.run_bind,Result.andThen_ok,Sem.run_pure]
 ·rename_i e1 e2;simp only[aaB]at h;obtain⟨d,hd,rfl⟩:=h;rw[e1]at cW;rw[e2]at eO;exact zw ho cW.OB eO.HD hd hh
 ·rename_i e1 e2;simp only[aaB]at h;obtain⟨d,hd,rfl⟩:=h;rw[e1]at cW;rw[e2]at eO;exact zw ho cW.HD eO.OB hd hh
 ·rename_i e1 e2;simp only[aaB]at h;obtain⟨d,hd,rfl⟩:=h;rw[e1]at cW;rw[e2]at eO;exact zw ho cW.HD eO.HD hd hh
 ·cases h
set_option maxHeartbeats 1000000 in
theorem U1{x:Operand}{y':aX}{k:pS}{b neg:Bool}(ho:o.op=.binOp op t x y yt)(fX:(op=.eql/\neg=false)\/(op=.neq/\neg=true))(hk:match k with| .bool=>P.underlying t=some .bool| .ptr=>∃e,P.underlying t=some (.pointer e)| .iface=>(∃e,P.underlying t=some (.interface e))/\((∃c,x=.const c)\/∃c,y=.const c)| .slice=>∃e,P.underlying t=some (.slice e)| .func=>∃s:Array TypeId×Array TypeId×Bool,P.underlying t=some (.func s.1 s.2.1 s.2.2))(hx:aw x=some x')(hy:aw y=some y')(h:Hj H k (ρ x') (ρ y')=some b)(ev:Ev ρ a g w)(hh:ax g w H):Good P a o g w ns (.d (.bool (bif neg then !b else b))) H:=by
 have cW:=ev _ _ hx;have eO:=ev _ _ hy;have key:∀(vx vy:Value),a.eval x=vx->a.eval y=vy->(eqGuard op t x y vx vy).run P w=.ok () w->(Op.equal t vx vy).run P w=.ok b w->(∀k n,vx≠ .int k n)->(∀k n,vx≠ .float k n)->(∀k n m,vx≠ .complex k n m)->(∀s,vx≠ .string s)->Good P a o g w ns (.d (.bool (bif neg then !b else b))) H:=by
  intro vx vy h1 h2 h3 h4 n1 n2 n3 n4;refine Good.val (x:=.bool (bif neg then !b else b)) hh ?_ (RV.A1 _);have hb:(binOp op t vx vy).run P w=.ok (.bool (bif neg then !b else b)) w:=by rcases fX with⟨rfl,rfl⟩|⟨rfl,rfl⟩;all_goals simp_all[binOp]
  simp_all[execOp]
 unfold Hj at h;have HE:(match op with| .eql| .neq=>true|_=>false)=true:=by grind
 have fin:∀(vx vy:Value)(e:TypeId),P.underlying t=some (.slice e)->((∃a l c,vx=.slice a l c)/\vy=.slice none 0 0\/(∃a l c,vy=.slice a l c)/\vx=.slice none 0 0)->a.eval x=vx->a.eval y=vy->(∀a l c a' l' c',vx=.slice a l c->vy=.slice a' l' c'->b=(a.isNone&&a'.isNone))->Good P a o g w ns (.d (.bool (bif neg then !b else b))) H:=by
  intro vx vy e he hs h1 h2 hb;rcases hs with⟨⟨p,l,c,rfl⟩,rfl⟩|⟨⟨p,l,c,rfl⟩,rfl⟩
  ·have:=hb _ _ _ _ _ _ rfl rfl;subst this;refine key _ _ h1 h2 (by unfold eqGuard;simp_all) (ig fun d=>?_ ) (by simp) (by simp) (by simp) (by simp);cases p<;>simp[Op.equalIn,run_underlying he]
  ·have:=hb _ _ _ _ _ _ rfl rfl;subst this;refine key _ _ h1 h2 (by unfold eqGuard;simp_all) (ig fun d=>?_ ) (by simp) (by simp) (by simp) (by simp);cases p<;>simp[Op.equalIn,run_underlying he]
 have own:∀{bb h0 off len sz:Nat}{u:Value},vC H bb h0=some b->RV g w (.sl bb h0 off len sz) u->∃a l c,u=.slice a l c/\b=a.isNone:=by
  intro bb h0 off len sz u hn hu;unfold vC at hn;split at hn
  ·rename_i cs hg;cases hc:Nat.beq cs.length h0 with
    |false=>grind
    |true=>rw[hc]at hn;simp at hn;have hl:=aav hc;obtain⟨xb,oq⟩:=hh.back bb _ hg;obtain⟨_,y0,DO,hr⟩:=hh.live bb xb oq;rw[hg]at DO;simp at DO;subst DO;simp only[RV]at hu;have Jz:=hu.2 xb oq;grind[RB]
  ·rename_i hg;cases hc:Nat.beq h0 0 with
    |false=>grind
    |true=>rw[hc]at hn;simp at hn;obtain⟨xb,oq⟩:=hh.back bb _ hg;obtain⟨_,y0,DO,hr⟩:=hh.live bb xb oq;grind[Option.some.injEq,RV,RB]
  ·cases hn
 split at h<;>try simp only[aat,reduceCtorEq]at h
 ·rename_i bb h0 _ _ _ e1 e2;rw[e1]at cW;rw[e2]at eO;obtain⟨p,l,c,q1,q2⟩:=own h cW;simp only[RV]at eO;obtain⟨e,he⟩:=hk;exact fin _ _ e he (.inl ⟨⟨p,l,c,rfl⟩,rfl⟩) q1 eO (by grind)
 ·rename_i bb h0 _ _ _ e1 e2;rw[e1]at cW;rw[e2]at eO;obtain⟨p,l,c,q1,q2⟩:=own h eO;simp only[RV]at cW;obtain⟨e,he⟩:=hk;exact fin _ _ e he (.inr ⟨⟨p,l,c,rfl⟩,rfl⟩) cW q1 (by grind)
 ·rename_i p q e1 e2;rw[e1]at cW;rw[e2]at eO;subst h;simp only at hk;exact key _ _ (RV.bool cW) (RV.bool eO) (by unfold eqGuard;simp_all) (ig fun d=>by simp[Op.equalIn,run_underlying hk]) (by simp) (by simp) (by simp) (by simp)
 ·rename_i e1 e2;rw[e1]at cW;rw[e2]at eO;simp only[RV]at cW eO;subst h;obtain⟨⟨e,he⟩,hc⟩:=hk;refine key _ _ cW eO ?_ (ig fun d=>by simp[Op.equalIn,run_underlying he]) (by simp) (by simp) (by simp) (by simp);unfold eqGuard;rcases fX with⟨rfl,_⟩|⟨rfl,_⟩<;>rcases hc with⟨c,rfl⟩|⟨c,rfl⟩<;>simp
 ·rename_i e1 e2;rw[e1]at cW;rw[e2]at eO;simp only[RV]at cW eO;obtain⟨tt,z,cW⟩:=cW;subst h;obtain⟨⟨e,he⟩,hc⟩:=hk;exact key _ _ cW eO (by unfold eqGuard;simp_all) (ig fun d=>by simp[Op.equalIn,run_underlying he]) (by simp) (by simp) (by simp) (by simp)
 ·rename_i e1 e2;rw[e1]at cW;rw[e2]at eO;simp only[RV]at cW eO;obtain⟨tt,z,eO⟩:=eO;subst h;obtain⟨⟨e,he⟩,hc⟩:=hk;exact key _ _ cW eO (by unfold eqGuard;simp_all) (ig fun d=>by simp[Op.equalIn,run_underlying he]) (by simp) (by simp) (by simp) (by simp)
 ·rename_i tt z e1 e2;rw[e1]at cW;rw[e2]at eO;simp only[RV]at cW eO;obtain⟨z',cW,_⟩:=cW;subst h;obtain⟨⟨e,he⟩,hc⟩:=hk;exact key _ _ cW eO (by unfold eqGuard;simp_all) (ig fun d=>by simp[Op.equalIn,run_underlying he]) (by simp) (by simp) (by simp) (by simp)
 ·rename_i tt z e1 e2;rw[e1]at cW;rw[e2]at eO;simp only[RV]at cW eO;obtain⟨z',eO,_⟩:=eO;subst h;obtain⟨⟨e,he⟩,hc⟩:=hk;exact key _ _ cW eO (by unfold eqGuard;simp_all) (ig fun d=>by simp[Op.equalIn,run_underlying he]) (by simp) (by simp) (by simp) (by simp)
 ·rename_i e1 e2;rw[e1]at cW;rw[e2]at eO;simp only[RV]at cW eO;subst h;obtain⟨e,he⟩:=hk;exact key _ _ cW eO (by unfold eqGuard;simp_all) (ig fun d=>by simp[Op.equalIn,run_underlying he]) (by simp) (by simp) (by simp) (by simp)
 ·rename_i e0 es0 e1 e2;rw[e1]at cW;rw[e2]at eO;simp only[RV,Rd,reduceCtorEq,false_and,false_or]at cW eO;obtain⟨aK,off,cap,sz,cW,-⟩:=cW;subst h;obtain⟨e,he⟩:=hk;exact key _ _ cW eO (by unfold eqGuard;simp_all) (ig fun d=>by simp[Op.equalIn,run_underlying he]) (by simp) (by simp) (by simp) (by simp)
 ·rename_i e0 es0 e1 e2;rw[e1]at cW;rw[e2]at eO;simp only[RV,Rd,reduceCtorEq,false_and,false_or]at cW eO;obtain⟨aK,off,cap,sz,eO,-⟩:=eO;subst h;obtain⟨e,he⟩:=hk;exact key _ _ cW eO (by unfold eqGuard;simp_all) (ig fun d=>by simp[Op.equalIn,run_underlying he]) (by simp) (by simp) (by simp) (by simp)
theorem U2{op:UnOp}{x:Operand}(ho:o.op=.unOp op t x)(hx:aw x=some x')(h:T' op (ρ x')=some v)(ev:Ev ρ a g w)(hh:ax g w H):Good P a o g w ns v H:=by
 have cW:=ev _ _ hx;unfold T' at h;split at h
 ·rename_i k n e1;rw[e1]at cW;split at h<;>simp only[aat,reduceCtorEq]at h;subst h;exact Good.val hh (by simp only[execOp,ho,RV.int cW];simp[Op.unary,Op.intArith]) (RV.zj _ _)
 ·rename_i b e1;rw[e1]at cW;split at h<;>simp only[aat,reduceCtorEq]at h;subst h;exact Good.val hh (by simp only[execOp,ho,RV.bool cW];simp[Op.unary]) (RV.A1 _)
 ·cases h
theorem K4{s d:TypeId}{k k0:IntKind}{x:Operand}{k1:IntKind}{n:Int}(ho:o.op=.convert s d x)(hs:P.underlying s=some (.int k0))(hd:P.underlying d=some (.int k))(hx:aw x=some x')(e:ρ x'=.d (.int k1 n))(ev:Ev ρ a g w)(hh:ax g w H):Good P a o g w ns (.d (.int k (k.wrap n))) H:=by have cW:=ev _ _ hx;rw[e]at cW;exact Good.val hh (by simp only[execOp,ho,RV.int cW];simp[convert,run_underlying hs,run_underlying hd,Conv.intToInt]) (RV.zj _ _)
end
end Fw
/-
  Operations, further: parts of strings and slices, fields, indexes, lengths.
-/
namespace Fw
open Go
section
variable {P:Program}{a:Act}{o:Oper}{g:G}{w:World}{ρ:aX->V}{H:ao}{ns:Nat}
variable {h b off l n aK cp cap:Nat}{v:Value}{hi:Option Operand}{xo jU:Option aX}{t el:TypeId}{x':aX}{es:List (List D)}
theorem er{u:V}(h:dh u=some n)(hv:RV g w u v):∃k,v=.int k n:=by
 unfold dh at h;split at h
 ·rename_i k z;split at h
  ·rename_i hz;simp at h;subst h;exact⟨k,by rw[RV.int hv,Int.toNat_of_nonneg hz]⟩
  ·cases h
 ·cases h
theorem my{k:IntKind}{y:Nat}(c:BoundsCode)(h:n<=y):(Instr.sliceBound (.int k n) y c).run P w=.ok n w:=by simp[Instr.sliceBound,asIntOf,h]
theorem ft{len:Nat}{lo:Option Operand}(Cg:Bool)(kh:cz lo=some xo)(ji:cz hi=some jU)(hb:bounds ρ len xo jU=some (l,h))(ev:Ev ρ a g w)(hc:len<=cap):(Instr.sliceBounds Cg len cap (lo.map a.eval) (hi.map a.eval) none).run P w=.ok (l,h,cap) w/\l<=h/\h<=len:=by
 unfold bounds at hb;split at hb
 ·cases hb
 ·rename_i h0 eh;split at hb
  ·cases hb
  ·rename_i l0 el;cases eS:(Nat.ble l0 h0&&Nat.ble h0 len)with
    |false=>grind
    |true=>
     rw[eS]at hb;simp at hb;obtain⟨rfl,rfl⟩:=hb;simp only[aas]at eS;have e1:=aax eS.1;have e2:=aax eS.2;have f1:(match hi.map a.eval with|some v=>Instr.sliceBound v cap (if Cg then .sliceAcap else .sliceAlen)|none=>pure len:Sem Nat).run P w=.ok h0 w:=by
      cases hi with
       |none=>simp[cz]at ji;subst ji;simp_all
       |some x=>simp only[cz,aaB]at ji;obtain⟨y,hy,rfl⟩:=ji;simp only at eh;obtain⟨k,hk⟩:=er eh (ev _ _ hy);simp only[aaI,hk];exact my _ (by omega)
     have f2:(match lo.map a.eval with|some v=>Instr.sliceBound v h0 (if(none:Option Value).isSome then .slice3C else .sliceB)|none=>pure 0:Sem Nat).run P w=.ok l0 w:=by
      cases lo with
       |none=>simp[cz]at kh;subst kh;simp_all
       |some x=>simp only[cz,aaB]at kh;obtain⟨y,hy,rfl⟩:=kh;simp only at el;obtain⟨k,hk⟩:=er el (ev _ _ hy);simp only[aaI,hk];exact my _ e1
     refine⟨?_,e1,e2⟩;cases hi with
      |none=>
       simp at f1;subst f1;cases lo with
        |none=>simp_all[abj,Sem.run_pure,Result.ok.injEq,ab9,Instr.sliceBounds]
        |some x=>grind[Instr.sliceBounds,Sem.run_bind,Sem.run_pure,Result.andThen_ok]
      |some y=>
       simp at f1;cases lo with
        |none=>simp_all[abj,Sem.run_pure,Result.ok.injEq,ab9,Instr.sliceBounds,aaI,Result.andThen_ok]
        |some x=>simp_all[aaI,Instr.sliceBounds,Sem.run_bind,Result.andThen_ok]
theorem extract_toList(b:ByteArray)(l h:Nat):(b.extract l h).data.toList=(b.data.toList.take h).drop l:=by rw[ByteArray.data_extract,Array.toList_extract];apply acB;grind
theorem D_{x:Operand}{lo:Option Operand}{s:List UInt8}(ho:o.op=.slice t x lo hi none)(ht:P.underlying t=some .string)(hx:aw x=some x')(kh:cz lo=some xo)(ji:cz hi=some jU)(e:ρ x'=.d (.str s))(hb:bounds ρ s.length xo jU=some (l,h))(ev:Ev ρ a g w)(hh:ax g w H):Good P a o g w ns (.d (.str ((s.take h).drop l))) H:=by
 have hv:=ev _ _ hx;rw[e]at hv;obtain⟨b,zk,rfl⟩:=RV.str hv;have cG:b.data.toList.length=b.size:=by simp
 rw[cG]at hb;obtain⟨f1,f2,f3⟩:=ft (P:=P) false kh ji hb ev (aaE _);refine Good.val (x:=.string (b.extract l h)) hh ?_ (by rw[←extract_toList];exact RV.UX _);simp[execOp,ho,zk,Instr.sliceAt,run_underlying ht,Instr.slice,f1]
theorem eD.get{im:Nat->Prop}{aK:Nat}:∀{es:List (List D)}{off sz:Nat}(i:Nat){e:List D},eD w im aK off sz es->es[i]? =some e->e.length=sz/\cV w im aK (off+i*sz) e
 |[],_,_,i,e,_,h=>by simp at h
 |e0::es,off,sz,0,e,h,he=>by grind[eD]
 |e0::es,off,sz,i+1,e,h,he=>by simp only[eD]at h;simp at he;have:=eD.get i h.2.2 he;grind
theorem eD.eN{im:Nat->Prop}{aK sz:Nat}:∀{es:List (List D)}{off:Nat},(∀i e,es[i]? =some e->e.length=sz/\cV w im aK (off+i*sz) e)->eD w im aK off sz es
 |[],_,_=>by simp only[eD]
 |e::es,off,h=>by simp only[eD];have h0:=h 0 e rfl;simp at h0;refine⟨h0.1,h0.2,eD.eN fun i e' he=>?_ ⟩;have:=h (i+1) e' (by grind);grind
theorem vH{sz:Nat}(h:es.all (fun e=>Nat.beq e.length sz)=true):∀e∈es,e.length=sz:=fun e he=>aav ((aaJ.1 h) e he)
theorem RV.list{sz:Nat}(hv:RV g w (.d (.list es)) v)(hl:∀e∈es,e.length=sz):(es=[]/\(v=.slice none 0 0\/∃a c,v=.slice (some a) 0 c))\/∃aK off cap,v=.slice (some ⟨aK,off,none⟩) es.length cap/\es.length<=cap/\(es≠[]->cw g w aK)/\eD w (cw g w) aK off sz es:=by
 simp only[RV,Rd]at hv;rcases hv with h|⟨aK,off,cap,uq,h1,h2,h3,h4⟩
 ·grind
 ·refine .inr ⟨aK,off,cap,h1,h2,h3,?_⟩;cases es<;>grind[eD]
theorem Ea{x:Operand}{lo:Option Operand}{sz:Nat}(ho:o.op=.slice t x lo hi none)(ht:P.underlying t=some (.slice el))(hs:fD P el=some sz)(hx:aw x=some x')(kh:cz lo=some xo)(ji:cz hi=some jU)(e:ρ x'=.d (.list es))(hl:es.all (fun e=>Nat.beq e.length sz)=true)(hb:bounds ρ es.length xo jU=some (l,h))(ev:Ev ρ a g w)(hh:ax g w H):Good P a o g w ns (.d (.list ((es.take h).drop l))) H:=by
 have hv:=ev _ _ hx;rw[e]at hv;rcases RV.list hv (vH hl)with⟨rfl,hn⟩|⟨aK,off,cap,h1,h2,h3,h4⟩
 ·rcases hn with hn|⟨a0,c0,hn⟩
  ·obtain⟨f1,f2,f3⟩:=ft (P:=P) (cap:=0) true kh ji hb ev (by simp);simp at f3;subst f3;have:l=0:=by omega
   subst this;refine Good.val (x:=.slice none 0 0) hh ?_ (by grind);simp at f1;simp[execOp,ho,hn,Instr.sliceAt,run_underlying ht,Instr.slice,f1,cu hs]
  ·obtain⟨f1,f2,f3⟩:=ft (P:=P) (cap:=c0) true kh ji hb ev (by simp);simp at f3;subst f3;have:l=0:=by omega
   subst this;refine Good.val (x:=.slice (some (if c0=0 then a0 else a0.add 0)) 0 c0) hh ?_ (by grind[RV,Rd]);simp at f1;simp[execOp,ho,hn,Instr.sliceAt,run_underlying ht,Instr.slice,f1,cu hs];grind
 ·obtain⟨f1,f2,f3⟩:=ft (P:=P) true kh ji hb ev h2;have hlen:((es.take h).drop l).length=h - l:=by simp;omega
  refine Good.val (x:=.slice (some (if cap=l then⟨aK,off,none⟩else⟨aK,off+l*sz,none⟩)) (h - l) (cap - l)) hh ?_ ?_
  ·simp only[execOp,ho,h1,Instr.sliceAt,Sem.run_bind,run_underlying ht,Result.andThen_ok,Instr.slice,abj,f1,cu hs,Sem.run_pure];grind[Addr.fF]
  ·simp only[RV,Rd];refine .inr ⟨aK,if cap=l then off else off+l*sz,cap - l,sz,?_,by omega,fun hn=>h3 ?_,?_ ⟩
   ·grind
   ·grind
   ·by_cases hc:cap=l
    ·grind[eD]
    ·simp only[hc,abN];refine eD.eN fun i e' he=>?_
     rw[acy,aa4]at he;split at he
     ·have:=eD.get (l+i) h4 he;grind
     ·cases he
theorem kB{cs:List V}(hg:aA H b=some (.cells cs))(hl:Nat.beq cs.length h=true)(hh:ax g w H):∃aK cp c e,g.γ b=some (.cells aK cp h)/\cs.all eC=true/\cs.length=h/\h<=cp/\w.heap[aK]? =some (.cells c e (0,0))/\cp<=c.size/\aM g w cs (c.toList.take h):=by
 have e1:=aav hl;obtain⟨x,hx⟩:=hh.back b _ hg;obtain⟨_,y,hy,hr⟩:=hh.live b x hx;rw[hg]at hy;simp at hy;subst hy;cases x with
  |cells aK cp cur=>simp only[RB]at hr;obtain⟨r1,r2,r3,c,e,r4,r5,r6⟩:=hr;subst r1;subst e1;exact⟨aK,cp,c,e,hx,r2,rfl,r3,r4,r5,r6⟩
  |nil=>grind[RB]
  |obj=>grind[RB]
theorem RV.pV{len sz:Nat}(hv:RV g w (.sl b h off len sz) v)(hg:g.γ b=some (.cells aK cp h)):∃cap,v=.slice (some ⟨aK,off,none⟩) len cap/\len<=cap/\off+cap*sz<=cp:=by grind[RV]
theorem RV.uw{len sz:Nat}(hv:RV g w (.sl b h off len sz) v)(hg:g.γ b=some .nil):h=0/\len=0/\off=0/\v=.slice none 0 0:=by grind[RV]
theorem RV.cr{len sz:Nat}(hv:RV g w (.sl b h off len sz) v):g.cr b:=by grind[RV]
theorem RV.xt{len sz:Nat}(hd:g.cr b)(hg:g.γ b=some (.cells aK cp h))(h1:len<=cap)(h2:off+cap*sz<=cp):RV g w (.sl b h off len sz) (.slice (some ⟨aK,off,none⟩) len cap):=by simp only[RV];refine⟨⟨rfl,hd⟩,fun x hx=>?_ ⟩;grind
theorem jt(hl:eL H b h=true)(hh:ax g w H):(∃aK cp,g.γ b=some (.cells aK cp h))\/(h=0/\g.γ b=some .nil):=by
 unfold eL at hl;split at hl
 ·rename_i cs hg;obtain⟨aK,cp,_,_,h1,_⟩:=kB hg hl hh;grind
 ·rename_i hg;obtain⟨x,hx⟩:=hh.back b _ hg;obtain⟨_,y,hy,hr⟩:=hh.live b x hx;rw[hg]at hy;simp at hy;subst hy;cases x with
   |cells=>grind[RB]
   |nil=>simp_all
   |obj=>grind[RB]
 ·cases hl
theorem A5{pW sz:Nat}(hd:g.cr b)(hg:g.γ b=some (.cells aK cp pW))(h1:l<=h)(h2:h<=n)(h3:n<=cap)(h4:off+cap*sz<=cp):RV g w (xn b pW off sz l h) (.slice (some (if cap=l then⟨aK,off,none⟩else⟨aK,off+l*sz,none⟩)) (h - l) (cap - l)):=by
 unfold xn;cases hc:(Nat.beq l h&& !(Nat.beq l 0))with
  |true=>simp_all[aas,aaw,RV,Rd,eD,acF,aar]
  |false=>
   simp;have key:(if cap=l then(⟨aK,off,none⟩:Addr)else⟨aK,off+l*sz,none⟩)=⟨aK,off+l*sz,none⟩:=by
    split
    ·rename_i e;by_cases h0:l=0
     ·grind
     ·have:l=h:=by omega
      simp_all
    ·rfl
   rw[key];refine RV.xt hd hg (by omega) ?_;have:l*sz+(cap - l)*sz=cap*sz:=by rw[←abI];grind
   omega
theorem Ch{x:Operand}{lo:Option Operand}{hb len sz:Nat}(ho:o.op=.slice t x lo hi none)(ht:P.underlying t=some (.slice el))(hs:fD P el=some sz)(hx:aw x=some x')(kh:cz lo=some xo)(ji:cz hi=some jU)(e:ρ x'=.sl b hb off len sz)(hl:eL H b hb=true)(xa:bounds ρ len xo jU=some (l,h))(ev:Ev ρ a g w)(hh:ax g w H):Good P a o g w ns (xn b hb off sz l h) H:=by
 have hv:=ev _ _ hx;rw[e]at hv;rcases jt hl hh with⟨aK,cp,hg⟩|⟨rfl,hg⟩
 ·obtain⟨cap,h1,h2,h3⟩:=RV.pV hv hg;obtain⟨f1,f2,f3⟩:=ft (P:=P) true kh ji xa ev h2;refine Good.val hh ?_ (A5 (RV.cr hv) hg f2 f3 h2 h3);simp only[execOp,ho,h1,Instr.sliceAt,Sem.run_bind,run_underlying ht,Result.andThen_ok,Instr.slice,abj,f1,cu hs,Sem.run_pure];grind[Addr.fF]
 ·obtain⟨_,rfl,rfl,h1⟩:=RV.uw hv hg;obtain⟨f1,f2,f3⟩:=ft (P:=P) (cap:=0) true kh ji xa ev (aaE _);have e1:h=0:=by omega
  have e2:l=0:=by omega
  subst e1;subst e2;rw[h1]at hv;refine Good.val (x:=.slice none 0 0) hh ?_ (by grind[xn]);simp[execOp,ho,h1,Instr.sliceAt,run_underlying ht,Instr.slice,f1,cu hs]
theorem K5{x hi mx:Operand}{jU Ox:aX}{sz:Nat}(ho:o.op=.slice t x none (some hi) (some mx))(ht:P.underlying t=some (.slice el))(hs:fD P el=some sz)(hx:aw x=some x')(ji:aw hi=some jU)(U3:aw mx=some Ox)(e:ρ x'=.d (.list es))(hl:es.all (fun e=>Nat.beq e.length sz)=true)(h1:dh (ρ jU)=some h)(h2:dh (ρ Ox)=some h)(hb:h<=es.length)(ev:Ev ρ a g w)(hh:ax g w H):Good P a o g w ns (.full (es.take h)) H:=by
 have hv:=ev _ _ hx;rw[e]at hv;obtain⟨k1,Uc⟩:=er h1 (ev _ _ ji);obtain⟨k2,pX⟩:=er h2 (ev _ _ U3);have xa:∀{len cap:Nat},h<=cap->(Instr.sliceBounds true len cap none (some (a.eval hi)) (some (a.eval mx))).run P w=.ok (0,h,h) w:=by intro len cap hc;simp only[Instr.sliceBounds,Uc,pX,Sem.run_bind,my _ hc,Result.andThen_ok,my _ (aaE h),Sem.run_pure]
 rcases RV.list hv (vH hl)with⟨rfl,hn⟩|⟨aK,off,cap,h3,h4,h5,h6⟩
 ·have h0:h=0:=by grind
  subst h0;rcases hn with hn|⟨a0,c0,hn⟩
  ·refine Good.val (x:=.slice none 0 0) hh ?_ (by simp[RV,Rd]);simp only[execOp,ho,hn,aaI,abj,Instr.sliceAt,Sem.run_bind,run_underlying ht,Result.andThen_ok,Instr.slice,xa (aaE 0),cu hs,Sem.run_pure];rfl
  ·refine Good.val (x:=.slice (some a0) 0 0) hh ?_ ?_
   ·simp only[execOp,ho,hn,aaI,abj,Instr.sliceAt,Sem.run_bind,run_underlying ht,Result.andThen_ok,Instr.slice,xa (aaO c0),cu hs,Sem.run_pure];rfl
   grind[RV,Rd,List.length_nil]
 ·have hlen:(es.take h).length=h:=by grind
  refine Good.val (x:=.slice (some ⟨aK,off,none⟩) h h) hh ?_ ?_
  ·simp only[execOp,ho,h3,aaI,abj,Instr.sliceAt,Sem.run_bind,run_underlying ht,Result.andThen_ok,Instr.slice,xa (show h<=cap by omega),cu hs,Sem.run_pure];grind[Addr.fF]
  ·simp only[RV,Rd];refine⟨.inr ⟨aK,off,h,sz,by rw[hlen],by omega,fun hn=>h5 (fun h7=>hn (by grind)),?_ ⟩,_,by rw[hlen]⟩;refine eD.eN fun i e' he=>?_
   rw[aa4]at he;split at he
   ·exact eD.get i h6 he
   ·cases he
theorem Ci{x:Operand}{lo:Option Operand}{sz:Nat}(ho:o.op=.slice t x lo hi none)(ht:P.underlying t=some (.slice el))(hs:fD P el=some sz)(hx:aw x=some x')(kh:cz lo=some xo)(ji:cz hi=some jU)(e:ρ x'=.aj)(xa:bounds ρ 0 xo jU=some (l,h))(ev:Ev ρ a g w)(hh:ax g w H):Good P a o g w ns .aj H:=by
 have hv:=ev _ _ hx;rw[e]at hv;simp only[RV]at hv;obtain⟨f1,f2,f3⟩:=ft (P:=P) (cap:=0) true kh ji xa ev (aaE _);have e1:h=0:=by omega
 have e2:l=0:=by omega
 subst e1;subst e2;refine Good.val (x:=.slice none 0 0) hh ?_ (by simp only[RV]);simp[execOp,ho,hv,Instr.sliceAt,run_underlying ht,Instr.slice,f1,cu hs]
theorem RV.HF(hv:RV g w (.ptr b h off) v)(hg:g.γ b=some (.cells aK cp h)):v=.pointer (some ⟨aK,off,none⟩):=by grind[RV,GB.cells.injEq]
theorem RV.K6(hv:RV g w (.ptr b h off) v):g.cr b:=by grind[RV]
theorem Eb{x:Operand}{lo:Option Operand}{hb sz:Nat}(ho:o.op=.slice t x lo hi none)(ht:P.underlying t=some (.array n el))(hs:fD P el=some sz)(hx:aw x=some x')(kh:cz lo=some xo)(ji:cz hi=some jU)(e:ρ x'=.ptr b hb off)(hl:eL H b hb=true)(hn:off+n*sz<=hb)(h0:0<hb)(xa:bounds ρ n xo jU=some (l,h))(ev:Ev ρ a g w)(hh:ax g w H):Good P a o g w ns (xn b hb off sz l h) H:=by
 have hv:=ev _ _ hx;rw[e]at hv;rcases jt hl hh with⟨aK,cp,hg⟩|⟨rfl,hg⟩
 ·have h1:=RV.HF hv hg;obtain⟨f1,f2,f3⟩:=ft (P:=P) false kh ji xa ev (aaE n);have OE:hb<=cp:=by obtain⟨_,y,hy,hr⟩:=hh.live b _ hg;cases y<;>grind[RB]
  refine Good.val hh ?_ (A5 (n:=n) (cap:=n) (RV.K6 hv) hg f2 f3 (aaE _) (by omega));simp only[execOp,ho,h1,Instr.sliceAt,Sem.run_bind,run_underlying ht,Result.andThen_ok,Instr.sureAddr,Sem.run_pure,abj,f1,cu hs];grind[Addr.fF]
 ·omega
end
end Fw
