/-
  The abstract machine: data, values, own boxes, the operations as they are used here, and what each of them computes.
-/
import Derived.Orders
import Derived.KernelRfl
import Derived.Below
import Derived.Laws.AppendOwn
import Derived.Laws.CopyRow
import Derived.ControlIn
import Derived.Scope
import Derived.Laws.Entries
import Derived.Laws.Append
import Derived.Lib.Strings
set_option linter.defProp false
def aao:=@List.length_append
def aap:=@List.length_cons
def aaq:=@List.length_nil
def aar:=@Option.some.injEq
def aas:=@Bool.and_eq_true
def aat:=@List.mem_of_getElem?
def aau:=@Nat.eq_of_beq_eq_true
def aav:=@Prod.mk.injEq
def aaw:=@cond_true
def aax:=@Nat.le_of_ble_eq_true
def aay:=@List.getElem?_eq_getElem
def aaz:=@List.getElem?_eq_some_iff
def aaA:=@Option.map_eq_some_iff
def aaB:=@List.map_cons
def aaC:=@Nat.le_refl
def aaD:=@decide_eq_true_eq
def aaE:=@List.length_map
def aaF:=@if_pos
def aaG:=@Array.getD_eq_getD_getElem?
def aaH:=@if_neg
def aaI:=@Option.map_some
def aaJ:=@List.all_eq_true
def aaK:=@Nat.zero_add
def aaL:=@List.all_cons
def aaM:=@cond_false
def aaN:=@decide_eq_false
def aaO:=@List.findIdx?_cons
def aaP:=@Nat.zero_le
def aaQ:=@decide_eq_true
def aaR:=@Nat.blt_eq
def aaS:=@Nat.beq_refl
def aaT:=@List.mem_cons
def aaU:=@Bool.true_and
def aaV:=@List.flatMap_cons
def aaW:=@Bool.and_true
def aaX:=@Nat.lt_of_lt_of_le
def aaY:=@List.mem_cons_of_mem
def aaZ:=@List.map_nil
def aa0:=@Nat.mul_le_mul_right
def aa1:=@List.mem_singleton
def aa2:=@List.length_singleton
def aa3:=@List.mem_append
def aa4:=@List.getElem?_map
def aa5:=@List.getElem?_take
def aa6:=@Array.getElem?_eq_some_iff
def aa7:=@Array.toList_inj
def aa8:=@List.sum_cons
def aa9:=@Option.bind_eq_some_iff
def aa':=@List.mem_range
def aa_:=@List.mem_filter
def aba:=@List.mem_map
def abb:=@Array.getElem?_setIfInBounds_ne
def abc:=@List.getElem?_append_right
def abd:=@Bool.and_self
def abe:=@Bool.eq_iff_iff
def abf:=@Int.ofNat_eq_natCast
def abg:=@List.findIdx?_isSome
def abh:=@List.not_mem_nil
def abi:=@Nat.lt_or_ge
def abj:=@Bool.or_eq_true
def abk:=@decide_eq_false_iff_not
def abl:=@Option.getD_some
def abm:=@Array.all_eq_true_iff_forall_mem
def abn:=@Array.getElem?_setIfInBounds_self_of_lt
def abo:=@List.getD_eq_getElem?_getD
def abp:=@Option.map_none
def abq:=@List.drop_eq_getElem_cons
def abr:=@List.getElem?_append_left
def abt:=@List.map_append
def abu:=@List.drop_zero
def abv:=@Nat.le_mul_of_pos_right
def abw:=@List.foldl_cons
def abx:=@List.dropWhile_cons
def aby:=@Nat.le_trans
def abz:=@Nat.mod_two_eq_zero_or_one
def abA:=@List.take_length
def abB:=@List.length_take
def abC:=@Array.getElem?_modify
def abD:=@List.mem_cons_self
def abE:=@Nat.ble_eq_true_of_le
def abF:=@Nat.shiftRight_eq_div_pow
def abG:=@Nat.ble_eq
def abH:=@List.eq_nil_of_length_eq_zero
def abI:=@List.cons_append
def abJ:=@Nat.add_mul
def abK:=@if_true
def abL:=@List.append_nil
def abM:=@Bool.not_eq_true'
def abN:=@of_decide_eq_true
def abO:=@List.replicate_succ
def abP:=@List.map_congr_left
def abQ:=@Bool.not_true
def abR:=@Bool.false_eq_true
def abS:=@List.filter_append
def abT:=@Nat.and_one_is_mod
def abU:=@Nat.mul_one
def abV:=@or_false
def abW:=@List.filter_eq_nil_iff
def abX:=@Nat.add_zero
def abY:=@List.map_map
def abZ:=@List.sum_nil
def ab0:=@if_false
def ab1:=@Nat.mod_lt
def ab2:=@List.any_eq_true
def ab3:=@Nat.eq_of_mul_eq_mul_right
def ab4:=@Array.getElem?_append_left
def ab5:=@List.drop_succ_cons
def ab6:=@List.flatMap_append
def ab7:=@List.take_succ_cons
def ab8:=@UInt8.toNat_inj
def ab9:=@List.nodup_cons
def ab':=@and_true
def ab_:=@Bool.not_false
def aca:=@Bool.and_false
def acb:=@List.findIdx?_eq_some_iff_getElem
def acd:=@Nat.mul_add
def ace:=@congrArg
def acf:=@List.range'_succ
def acg:=@List.length_drop
def ach:=@List.filter_cons
def aci:=@List.cons_ne_nil
def acj:=@List.take_append_drop
def ack:=@Nat.mul_eq_zero
def acm:=@List.cons.injEq
def acn:=@Nat.sub_zero
def aco:=@Option.some.inj
def acp:=@Array.toList_append
def acq:=@List.getD_cons_succ
def acr:=@List.filter_eq_self
def acs:=@List.map_eq_nil_iff
def acu:=@List.mem_map_of_mem
def acv:=@List.mergeSort_perm
def acw:=@List.drop_drop
def acx:=@List.getElem?_drop
def acy:=@UInt8.toNat_ofNat'
def acz:=@List.map_take
def acA:=@List.ext_getElem?
def acB:=@List.flatten_cons
def acC:=@Int.toNat_natCast
def acD:=@Nat.sub_self
def acE:=@Nat.succ_mul
def acF:=@Nat.le_of_lt
def acG:=@getElem!_pos
set_option linter.unusedSimpArgs false
set_option linter.unusedVariables false
theorem k_.{u} {α:Sort u} {a b:α} (h:a=b:=by kernel_rfl):a=b:=h
namespace Fw
open Go
inductive D where
 |bool (b:Bool)
 |int (k:IntKind) (n:Int)
 |str (s:List UInt8)
 |list (es:List (List D))
 |sN (n:Nat)
 deriving Inhabited
inductive V where
 |any
 |d (x:D)
 |ak
 |ptr (b h off:Nat)
 |lD
 |aO (cs:List D)
 |sl (b h off len sz:Nat)
 |map (b:Nat)
 |kC
 |func (f:FuncId) (first cap:List V)
 |oK
 |iface (t:TypeId) (v:V)
 |bz
 |fy
 |agg (cs:List V)
 |tuple (vs:List V)
 |iter (b m:Nat)
 |full (es:List (List D))
 |gI (b:Nat)
 deriving Inhabited
def eL:V->Bool| .any=>false| .agg _=>false| .tuple _=>false|_=>true
inductive aU where
 |t (n:Nat)
 |c (v:V)
 |g (n:Nat)
 |f (n:FuncId)
 deriving Inhabited
inductive kD where
 |str|slice|map|arr (n:Nat)
 deriving Inhabited
inductive dj where
 |int|str|bool
 deriving Inhabited
inductive qd where
 |bool|ptr|iface|slice|func
 deriving Inhabited
inductive jv where
 |mv (x:aU)
 |pick (c a b:aU)
 |alloc (z:List V)
 |box (n:Nat) (x:aU)
 |build (z:List V) (ps:List (Nat×Nat×aU))
 |mkSlice (sz:Nat) (len:Nat) (z:List V) (ps:List (Nat×Nat×aU))
 |load (n:Nat) (agg:Bool) (a:aU)
 |store (n:Nat) (a x:aU)
 |kE (x:aU)
 |bin (op:BinOp) (x y:aU)
 |eq (neg:Bool) (k:qd) (x y:aU)
 |Cn (neg:Bool) (ks:List dj) (x y:aU)
 |un (op:UnOp) (x:aU)
 |conv (k:IntKind) (x:aU)
 |same (x:aU)
 |kF (x:aU)
 |iO (f:FuncId) (first cap:List aU)
 |A6
 |hX (x:aU) (lo hi:Option aU)
 |nO (sz:Nat) (x:aU) (lo hi:Option aU)
 |lK (n sz:Nat) (x:aU) (lo hi:Option aU)
 |N1 (off n:Nat) (agg:Bool) (x:aU)
 |dm (off n:Nat) (x:aU)
 |bj (sz:Nat) (x i:aU)
 |sb (len sz:Nat) (x i:aU)
 |iB (x i:aU)
 |Hs (len sz:Nat) (agg:Bool) (x i:aU)
 |ext (x:aU) (i:Nat)
 |len (k:kD) (x:aU)
 |append (sz bytes:Nat) (x y:aU)
 |np (sz bytes:Nat) (z:List V) (l c:aU)
 |cap (x:aU)
 |oO (sz bytes:Nat) (z:List V) (x n:aU)
 |lookup (kk:dj) (z:V) (ok:Bool) (m k:aU)
 |iP (kk:dj) (m k x:aU)
 |range (Zf:Bool) (x:aU)
 |oP (x:aU)
 |fX (x:aU)
 |entry (x:aU)
 |rL (t:TypeId) (x:aU)
 |nP (isMax:Bool) (xs:List aU)
 |call (f:FuncId) (args:List aU)
 |bY (x:aU) (args:List aU)
 |clip (sz:Nat) (x hi mx:aU)
 |bad
 deriving Inhabited
structure ab where
 dst:Option Nat
 op:jv
 guard:Option (Nat×Bool)
 after:List Nat:=[]
 deriving Inhabited
inductive IR where
 |skip
 |region (ops:List ab)
 |draw (ops:List ab)
 |seq (a b:IR)
 |cond (c:aU) (a b:IR)
 |block (id:Nat) (b:IR)
 |loop (b:IR)
 |exit (id:Nat)
 |ret
 |cZ (f:aU) (ps:List Nat) (ca cb:Code)
 deriving Inhabited
inductive kG where
 |ready
 |busy
 |done (e:Option Nat)
 |over
 deriving Inhabited
inductive bR where
 |cells (cs:List V)
 |nil
 |map (es:List (D×V))
 |uz (s:List UInt8) (pos:Nat)
 |bH (m n:Nat) (seen:List Nat)
 |loop (n:Nat) (tm:List (Nat×V)) (ps:List Nat) (ca cb:Code) (st:kG)
 deriving Inhabited
abbrev an:=List (Option bR)
inductive iQ where
 |t (n:Nat)
 |cell (n:Nat) (size:Nat) (agg:Bool)
 deriving Inhabited
structure bL where
 nparams:Nat
 ntmps:Nat
 res:List iQ
 body:IR
 deriving Inhabited
def get:List (Nat×V)->Nat->V|[],_=>.any|(s,u)::l,t=>bif Nat.beq s t then u else get l t
def put:List (Nat×V)->Nat->V->List (Nat×V)|[],t,v=>[(t,v)]|(s,u)::l,t,v=>bif Nat.beq s t then(t,v)::l else bif Nat.ble t s then(t,v)::(s,u)::l else(s,u)::put l t v
structure St where
 n:Nat
 tm:List (Nat×V)
 hp:an
 deriving Inhabited
def aC:an->Nat->Option bR|[],_=>none|b::_,0=>b|_::l,n+1=>aC l n
def aR:an->Nat->bR->an|[],0,x=>[some x]|[],n+1,x=>none::aR [] n x|_::l,0,x=>some x::l|b::l,n+1,x=>b::aR l n x
abbrev Wr:=Option (Nat×bR)
def bp(H:an):Wr->an|none=>H|some (b,x)=>aR H b x
structure bM where
 rd:Nat->Option (List D)
 w0:World
def aT(GL:bM)(tm:List (Nat×V)):aU->V
 | .t n=>get tm n
 | .c v=>v
 | .g n=>match GL.rd n with|some cs=>.aO cs|none=>.any
 | .f f=>.func f [] []
def A7(agg:Bool)(cs:List V):Option V:=bif agg then some (V.agg cs)else match cs with|[v]=>some v|_=>none
def bU:V->List V| .agg cs=>cs|v=>[v]
def fY(sz:Nat):Nat->List D->List (List D)|0,_=>[]|n+1,l=>l.take sz::fY sz n (l.drop sz)
def iR:List V->Option (List D)|[]=>some []| .d x::l=>(iR l).map (x:: ·)| .ak::l=>(iR l).map (.list []:: ·)|_=>none
def bS{α β:Type}(f:α->Option β):List α->Option (List β)
 |[]=>some []
 |x::xs=>
  match f x with
   |none=>none
   |some y=>
    match bS f xs with
     |none=>none
     |some ys=>some (y::ys)
def lr(H:an):Nat->V->Option D
 |_,.d x=>some x
 |_,.ak=>some (.list [])
 |f+1,.sl b h off len sz=>
  match aC H b with
   |some (.cells cs)=>
    bif Nat.beq cs.length h&&Nat.ble (off+len*sz) h then
     match bS (lr H f) ((cs.drop off).take (len*sz))with
      |some l=>some (.list (fY sz len l))
      |none=>none
    else none
   |some .nil=>bif Nat.beq len 0 then some (.list [])else none
   |_=>none
 |_,_=>none
def sc:Nat:=6
def oQ(H:an):V->Option V
 | .agg cs=>
  match bS (lr H sc) cs with
   |some l=>some (.agg (l.map V.d))
   |none=>none
 | .fy=>some .fy
 | .bz=>some .bz
 | .lD=>some .lD
 |v=>
  match lr H sc v with
   |some x=>some (.d x)
   |none=>none
def fA(H:an):V->Option V
 | .tuple vs=>
  match bS (oQ H) vs with
   |some l=>some (.tuple l)
   |none=>none
 |v=>oQ H v
def bytesLess:List UInt8->List UInt8->Bool|_,[]=>false|[],_::_=>true|a::x,b::y=>bif Nat.blt a.toNat b.toNat then true else bif Nat.beq a.toNat b.toNat then bytesLess x y else false
def ah:List UInt8->List UInt8->Bool|[],[]=>true|a::x,b::y=>bif Nat.beq a.toNat b.toNat then ah x y else false|_,_=>false
def vI(op:BinOp)(k:IntKind)(a b:Int):Option D:=match op with
 | .add=>some (.int k (k.wrap (a+b)))
 | .sub=>some (.int k (k.wrap (a - b)))
 | .mul=>some (.int k (k.wrap (a*b)))
 | .quo=>if b=0 then none else some (.int k (k.wrap (a.tdiv b)))
 | .rem=>if b=0 then none else some (.int k (a.tmod b))
 | .and=>some (.int k (k.wrap (BitVec.ofInt k.bits a&&&BitVec.ofInt k.bits b).toNat))
 | .eql=>some (.bool (a==b))
 | .neq=>some (.bool (a !=b))
 | .lss=>some (.bool (decide (a<b)))
 | .leq=>some (.bool (decide (a<=b)))
 | .gtr=>some (.bool (decide (b<a)))
 | .geq=>some (.bool (decide (b<=a)))
 |_=>none
def iS:Nat:=2^62
def zD(op:BinOp)(a b:List UInt8):Option D:=match op with
 | .add=>if a.length+b.length<=iS then some (.str (a++b))else none
 | .eql=>some (.bool (ah a b))
 | .neq=>some (.bool (!ah a b))
 | .lss=>some (.bool (bytesLess a b))
 | .leq=>some (.bool (bytesLess a b||ah a b))
 | .gtr=>some (.bool !(bytesLess a b||ah a b))
 | .geq=>some (.bool !bytesLess a b)
 |_=>none
def oS(op:BinOp)(a b:Nat):Option D:=match op with
 | .add=>bif Nat.ble (a+b) iS then some (.sN (a+b))else none
 |_=>none
def lL(op:BinOp):V->V->Option V| .d (.int k a),.d (.int k' b)=>if k=k' then(vI op k a b).map .d else none| .d (.str a),.d (.str b)=>(zD op a b).map .d| .d (.str a),.d (.sN m)=>(oS op a.length m).map .d| .d (.sN n),.d (.str b)=>(oS op n b.length).map .d| .d (.sN n),.d (.sN m)=>(oS op n m).map .d|_,_=>none
def A8:D->D->Option Bool| .int k a,.int k' b=>if k=k' then some (a==b)else none| .str a,.str b=>some (ah a b)| .bool a,.bool b=>some (a==b)|_,_=>none
def fZ:dj->D->Bool| .int,.int _ _=>true| .str,.str _=>true| .bool,.bool _=>true|_,_=>false
def iT:List dj->List V->List V->Option Bool
 |[],[],[]=>some true
 |k::ks,.d x::xs,.d y::ys=>
  bif fZ k x then
   match A8 x y with
    |some true=>iT ks xs ys
    |some false=>some false
    |none=>none else none
 |_,_,_=>none
def vJ(H:an)(b h:Nat):Option Bool:=match aC H b with
 |some (.cells cs)=>bif Nat.beq cs.length h then some false else none
 |some .nil=>bif Nat.beq h 0 then some true else none
 |_=>none
def Hj(H:an)(k:qd)(x y:V):Option Bool:=match k,x,y with
 | .slice,.sl b h _ _ _,.ak=>vJ H b h
 | .slice,.ak,.sl b h _ _ _=>vJ H b h
 | .bool,.d (.bool a),.d (.bool b)=>some (a==b)
 | .iface,.fy,.fy=>some true
 | .iface,.bz,.fy=>some false
 | .iface,.fy,.bz=>some false
 | .iface,.iface _ _,.fy=>some false
 | .iface,.fy,.iface _ _=>some false
 | .slice,.ak,.ak=>some true
 | .slice,.d (.list (_::_)),.ak=>some false
 | .slice,.ak,.d (.list (_::_))=>some false
 |_,_,_=>none
def TW(op:UnOp):V->Option V
 | .d (.int k a)=>
  match op with
   | .neg=>some (.d (.int k (k.wrap (0 - a))))
   |_=>none
 | .d (.bool b)=>
  match op with
   | .not=>some (.d (.bool !b))
   |_=>none
 |_=>none
def putCells{α:Type}:List α->Nat->List α->List α|l,_,[]=>l|l,i,v::vs=>putCells (l.set i v) (i+1) vs
def fg(ρ:aU->V):List V->List (Nat×Nat×aU)->Option (List V)|cs,[]=>some cs|cs,(off,size,x)::ps=>let vs:=bU (ρ x);bif Nat.beq vs.length size&&Nat.ble (off+size) cs.length&&vs.all eL then fg ρ (putCells cs off vs) ps else none
def jw(H:an)(n:Nat):V->Option (List V)
 | .ptr b h off=>
  match aC H b with
   |some (.cells cs)=>bif Nat.beq cs.length h&&Nat.ble (off+n) h then some ((cs.drop off).take n)else none
   |_=>none
 | .aO cs=>bif Nat.ble n cs.length then some ((cs.take n).map .d)else none
 |_=>none
def eg(H:an)(n:Nat)(a x:V):Option (Nat×bR):=match a with
 | .ptr b h off=>
  match aC H b with
   |some (.cells cs)=>bif Nat.beq cs.length h&&Nat.ble (off+n) h&&Nat.beq (bU x).length n&&(bU x).all eL then some (b,.cells (putCells cs off (bU x)))else none
   |_=>none
 |_=>none
def bO(H:an)(sz:Nat):V->Option (List V)
 | .ak=>some []
 | .d (.list es)=>bif es.all (fun e=>Nat.beq e.length sz)then some (es.flatten.map .d)else none
 | .d (.str s)=>bif Nat.beq sz 1 then some (s.map fun b=>.d (.int .u8 b.toNat))else none
 | .sl b h off len uA=>
  bif Nat.beq sz uA then
   match aC H b with
    |some (.cells cs)=>bif Nat.beq cs.length h&&Nat.ble (off+len*sz) h then some ((cs.drop off).take (len*sz))else none
    |some .nil=>bif Nat.beq len 0 then some []else none
    |_=>none
  else none
 |_=>none
def kH:List V->Option (List UInt8)
 |[]=>some []
 | .d (.int .u8 n)::l=>
  match kH l with
   |some s=>some (UInt8.ofNat n.toNat::s)
   |none=>none
 |_=>none
def cN:V->Option Nat| .d (.int _ n)=>if 0<=n then some n.toNat else none|_=>none
def eI(H:an)(b h:Nat):Bool:=match aC H b with
 |some (.cells cs)=>Nat.beq cs.length h
 |some .nil=>Nat.beq h 0
 |_=>false
def jN(H:an)(k:kD):V->Option Nat
 | .d (.str s)=>match k with| .str=>some s.length|_=>none
 | .d (.list es)=>match k with| .slice=>some es.length|_=>none
 | .ak=>match k with| .slice=>some 0|_=>none
 | .sl b h _ len _=>match k with| .slice=>bif eI H b h then some len else none|_=>none
 | .kC=>match k with| .map=>some 0|_=>none
 | .map b=>match k,aC H b with| .map,some (.map es)=>some es.length|_,_=>none
 |_=>none
def cf:Nat:=2^40
def dG(H:an)(ns sz bytes:Nat)(x:V)(xs:List V):Option (V×Wr):=bif Nat.beq sz 0 then none else
 bif !(Nat.beq (xs.length%sz) 0)then none else
  bif !(xs.all eL)then none else
   match x with
    | .ak=>
     match xs with
      |[]=>some (.ak,none)
      |_=>bif Nat.ble (xs.length*(bytes+1)) cf then some (.sl ns xs.length 0 (xs.length / sz) sz,some (ns,.cells xs))else none
    | .sl b h off len uA=>
     bif Nat.beq sz uA then
      match aC H b with
       |some (.cells cs)=>
        bif Nat.beq cs.length h&&Nat.beq off 0&&Nat.beq (len*sz) h&&Nat.ble ((h+xs.length)*(bytes+1)) cf then some (.sl b (h+xs.length) 0 (len+xs.length / sz) sz,some (b,.cells (cs++xs)))
        else none
       |some .nil=>
        bif Nat.beq h 0&&Nat.beq off 0&&Nat.beq len 0 then
         match xs with
          |[]=>some (x,none)
          |_=>bif Nat.ble (xs.length*(bytes+1)) cf then some (.sl b xs.length 0 (xs.length / sz) sz,some (b,.cells xs))else none
        else none
       |_=>none
     else none
    | .full es=>bif es.all (fun e=>Nat.beq e.length sz)&& !xs.isEmpty&&Nat.ble ((es.flatten.length+xs.length)*(bytes+1)) cf then some (.sl ns (es.flatten.length+xs.length) 0 (es.length+xs.length / sz) sz,some (ns,.cells (es.flatten.map .d++xs)))else none
    |_=>none
def bounds(ρ:aU->V)(len:Nat)(lo hi:Option aU):Option (Nat×Nat):=match(match hi with|some x=>cN (ρ x)|none=>some len)with
 |none=>none
 |some h=>
  match(match lo with|some x=>cN (ρ x)|none=>some 0)with
   |none=>none
   |some l=>bif Nat.ble l h&&Nat.ble h len then some (l,h)else none
def qM(k:D):List (D×V)->Nat->Option (Option (Nat×V))
 |[],_=>some none
 |(x,v)::es,i=>
  match A8 k x with
   |some true=>some (some (i,v))
   |some false=>qM k es (i+1)
   |none=>none
def qN(H:an):V->Option (List (D×V))
 | .kC=>some []
 | .map b=>match aC H b with|some (.map es)=>some es|_=>none
 |_=>none
def bI(ρ:aU->V):List aU->List V|[]=>[]|x::xs=>ρ x::bI ρ xs
def nQ(isMax:Bool):Int->List V->IntKind->Option Int|a,[],_=>some a|a,.d (.int k b)::l,k'=>if k=k' then nQ isMax (if isMax then(if a<b then b else a)else(if b<a then b else a)) l k' else none|_,_,_=>none
def xn(b hh off sz l h:Nat):V:=bif Nat.beq l h&& !(Nat.beq l 0)then .d (.list [])else .sl b hh (off+l*sz) (h - l) sz
def bt(ρ:aU->V)(H:an)(ns:Nat):jv->Option (V×Wr)
 | .mv x=>some (ρ x,none)
 | .pick c a b=>
  match ρ c with
   | .d (.bool t)=>some (bif t then ρ a else ρ b,none)
   |_=>none
 | .alloc z=>some (.ptr ns z.length 0,some (ns,.cells z))
 | .box n x=>let cs:=bU (ρ x);bif Nat.beq cs.length n&&cs.all eL then some (.ptr ns n 0,some (ns,.cells cs))else none
 | .build z ps=>(fg ρ z ps).map fun cs=>(.agg cs,none)
 | .mkSlice sz len z ps=>bif Nat.beq z.length (len*sz)&&z.all eL then(fg ρ z ps).map fun cs=>(.sl ns (len*sz) 0 len sz,some (ns,.cells cs))else none
 | .load n agg a=>
  match jw H n (ρ a)with
   |some cs=>(A7 agg cs).map fun v=>(v,none)
   |none=>none
 | .store n a x=>(eg H n (ρ a) (ρ x)).map fun p=>(.any,some p)
 | .kE x=>
  match ρ x with
   | .ptr b h off=>some (.ptr b h off,none)
   | .aO cs=>some (.aO cs,none)
   | .func f a b=>some (.func f a b,none)
   |_=>none
 | .bin op x y=>(lL op (ρ x) (ρ y)).map fun v=>(v,none)
 | .eq neg k x y=>(Hj H k (ρ x) (ρ y)).map fun b=>(.d (.bool (bif neg then !b else b)),none)
 | .Cn neg ks x y=>
  match ρ x with
   | .agg a=>
    match ρ y with
     | .agg b=>
      match iT ks a b with
       |some r=>some (.d (.bool (bif neg then !r else r)),none)
       |none=>none
     |_=>none
   |_=>none
 | .un op x=>(TW op (ρ x)).map fun v=>(v,none)
 | .conv k x=>
  match ρ x with
   | .d (.int _ n)=>some (.d (.int k (k.wrap n)),none)
   |_=>none
 | .same x=>
  match ρ x with
   | .sl b h off len sz=>
    match bO H 1 (.sl b h off len sz)with
     |some xs=>
      match kH xs with
       |some s=>some (.d (.str s),none)
       |none=>none
     |none=>none
   |_=>none
 | .kF x=>
  match ρ x with
   | .d (.str s)=>some (.d (.list (s.map fun b=>[.int .u8 b.toNat])),none)
   |_=>none
 | .np sz bytes z l c=>
  match cN (ρ l),cN (ρ c)with
   |some l,some c=>bif Nat.ble l c&&Nat.ble (c*(bytes+1)) cf&&Nat.ble c cf&&z.all eL&&Nat.beq z.length sz&&Nat.blt 0 sz then some (.sl ns (l*sz) 0 l sz,some (ns,.cells ((List.range (l*sz)).map fun i=>z.getD (i%sz) .any)))else none
   |_,_=>none
 | .cap x=>
  match ρ x with
   | .ak=>some (.d (.int .i64 0),none)
   |_=>none
 | .oO sz bytes z x n=>
  match ρ x,cN (ρ n)with
   | .ak,some n=>bif Nat.blt 0 n&&Nat.ble (n*(bytes+1)) cf&&Nat.ble n cf&&z.all eL&&Nat.beq z.length sz&&Nat.blt 0 sz then some (.sl ns (n*sz) 0 n sz,some (ns,.cells ((List.range (n*sz)).map fun i=>z.getD (i%sz) .any)))else none
   |_,_=>none
 | .iO f a b=>some (.func f (bI ρ a) (bI ρ b),none)
 | .A6=>some (.map ns,some (ns,.map []))
 | .range m x=>
  bif m then
   match ρ x with
    | .map b=>
     match aC H b with
      |some (.map es)=>some (.iter ns b,some (ns,.bH b es.length []))
      |_=>none
    |_=>none else none
 | .entry x=>
  match ρ x with
   | .iter b m=>
    match aC H b with
     |some (.bH m' n seen)=>
      match aC H m with
       |some (.map es)=>
        bif Nat.beq m' m&&Nat.beq es.length n then
         match seen.getLast? with
          |some i=>
           match es[i]? with
            |some (k,v)=>some (.tuple [.d k,v],none)
            |none=>none
          |none=>none else none
       |_=>none
     |_=>none
   |_=>none
 | .hX x lo hi=>
  match ρ x with
   | .d (.str s)=>(bounds ρ s.length lo hi).map fun(l,h)=>(.d (.str ((s.take h).drop l)),none)
   |_=>none
 | .nO sz x lo hi=>
  match ρ x with
   | .d (.list es)=>bif es.all (fun e=>Nat.beq e.length sz)then(bounds ρ es.length lo hi).map fun(l,h)=>(.d (.list ((es.take h).drop l)),none)else none
   | .sl b hh off len uA=>bif Nat.beq sz uA&&eI H b hh then(bounds ρ len lo hi).map fun(l,h)=>(xn b hh off sz l h,none)else none
   | .ak=>(bounds ρ 0 lo hi).map fun _=>(.ak,none)
   |_=>none
 | .clip sz x hi mx=>
  match ρ x,cN (ρ hi),cN (ρ mx)with
   | .d (.list es),some h,some m=>bif es.all (fun e=>Nat.beq e.length sz)&&Nat.beq h m&&Nat.ble h es.length then some (.full (es.take h),none)else none
   |_,_,_=>none
 | .lK n sz x lo hi=>
  match ρ x with
   | .ptr b hh off=>bif eI H b hh&&Nat.ble (off+n*sz) hh&&Nat.blt 0 hh then(bounds ρ n lo hi).map fun(l,h)=>(xn b hh off sz l h,none)else none
   |_=>none
 | .N1 off n agg x=>
  match ρ x with
   | .agg cs=>bif Nat.ble (off+n) cs.length then(A7 agg ((cs.drop off).take n)).map fun v=>(v,none)else none
   |_=>none
 | .dm off n x=>
  match ρ x with
   | .ptr b h o=>some (.ptr b h (o+off),none)
   | .aO cs=>some (.aO ((cs.drop off).take n),none)
   |_=>none
 | .bj sz x i=>
  match cN (ρ i)with
   |none=>none
   |some j=>
    match ρ x with
     | .d (.list es)=>
      match es[j]? with
       |some e=>bif Nat.beq e.length sz then some (.aO e,none)else none
       |none=>none
     | .sl b h off len uA=>bif Nat.beq sz uA&&Nat.blt j len&&eI H b h then some (.ptr b h (off+j*sz),none)else none
     |_=>none
 | .sb len sz x i=>
  match cN (ρ i)with
   |none=>none
   |some j=>
    bif Nat.blt j len then
     match ρ x with
      | .ptr b h off=>some (.ptr b h (off+j*sz),none)
      | .aO cs=>some (.aO (cs.drop (j*sz)),none)
      |_=>none else none
 | .iB x i=>
  match cN (ρ i)with
   |none=>none
   |some j=>
    match ρ x with
     | .d (.str s)=>
      match s[j]? with
       |some b=>some (.d (.int .u8 b.toNat),none)
       |none=>none
     |_=>none
 | .Hs len sz agg x i=>
  match cN (ρ i)with
   |none=>none
   |some j=>
    match ρ x with
     | .agg cs=>bif Nat.blt j len&&Nat.ble (len*sz) cs.length then(A7 agg ((cs.drop (j*sz)).take sz)).map fun v=>(v,none)else none
     |_=>none
 | .ext x i=>
  match ρ x with
   | .tuple vs=>vs[i]?.map fun v=>(v,none)
   |_=>none
 | .len k x=>
  match k with
   | .arr n=>some (.d (.int .i64 n),none)
   |k=>
    match jN H k (ρ x)with
     |some n=>some (.d (.int .i64 (n:Nat)),none)
     |none=>none
 | .append sz bytes x y=>
  match bO H sz (ρ y)with
   |some xs=>dG H ns sz bytes (ρ x) xs
   |none=>none
 | .rL t x=>some (.iface t (ρ x),none)
 | .nP isMax xs=>
  match bI ρ xs with
   | .d (.int k a)::l=>(nQ isMax a l k).map fun n=>(.d (.int k n),none)
   |_=>none
 | .lookup kk z ok m k=>
  match ρ k with
   | .d kd=>
    bif fZ kk kd then
     match qN H (ρ m)with
      |some es=>
       match qM kd es 0 with
        |some (some (_,v))=>some (bif ok then .tuple [v,.d (.bool true)]else v,none)
        |some none=>some (bif ok then .tuple [z,.d (.bool false)]else z,none)
        |none=>none
      |none=>none else none
   |_=>none
 | .iP kk m k x=>
  match ρ m,ρ k with
   | .map b,.d kd=>
    bif fZ kk kd then
     match aC H b with
      |some (.map es)=>
       match qM kd es 0 with
        |some (some (i,_))=>some (.any,some (b,.map (es.set i (kd,ρ x))))
        |some none=>some (.any,some (b,.map (es++[(kd,ρ x)])))
        |none=>none
      |_=>none else none
   |_,_=>none
 |_=>none
end Fw
/-
  What a value of the abstract machine says of a value of the model: the relation, and what keeps it.
-/
namespace Fw
open Go
mutual
def Rd(w:World)(im:Nat->Prop):D->Value->Prop| .bool b,v=>v=.bool b| .int k n,v=>v=.int k n| .str l,v=>∃s:ByteArray,v=.string s/\s.data.toList=l| .sN n,v=>∃s:ByteArray,v=.string s/\s.data.toList.length<=n| .list es,v=>(es=[]/\(v=.slice none 0 0\/∃a c,v=.slice (some a) 0 c))\/∃aM off cap sz,v=.slice (some ⟨aM,off,none⟩) es.length cap/\es.length<=cap/\(es≠[]->im aM)/\dR w im aM off sz es
def dR(w:World)(im:Nat->Prop)(aM off sz:Nat):List (List D)->Prop|[]=>True|e::es=>e.length=sz/\cP w im aM off e/\dR w im aM (off+sz) sz es
def cP(w:World)(im:Nat->Prop)(aM off:Nat):List D->Prop|[]=>True|d::ds=>(∃v,w.cell? ⟨aM,off,none⟩=some v/\Rd w im d v)/\cP w im aM (off+1) ds
end
def gR(w w':World)(im vL:Nat->Prop):Prop:=∀k,im k->vL k/\w'.heap[k]? =w.heap[k]?
theorem gR.cell{w w':World}{im vL:Nat->Prop}(h:gR w w' im vL){k o:Nat}(hk:im k):w'.cell? ⟨k,o,none⟩=w.cell? ⟨k,o,none⟩:=by have:=(h k hk).2;grind[World.cell?]
mutual
theorem Rd.keeps{w w':World}{im vL:Nat->Prop}(h:gR w w' im vL):∀(d:D)(v:Value),Rd w im d v->Rd w' vL d v
 | .bool _,_,hd=>by grind[Rd]
 | .int _ _,_,hd=>by grind[Rd]
 | .str _,_,hd=>by grind[Rd]
 | .sN _,_,hd=>by grind[Rd]
 | .list es,v,hd=>by
  simp only[Rd]at hd⊢;rcases hd with hd|⟨aM,off,cap,sz,h1,h2,h3,h4⟩
  ·grind
  ·refine .inr ⟨aM,off,cap,sz,h1,h2,fun hn=>(h _ (h3 hn)).1,?_ ⟩;cases es with
    |nil=>simp only[dR]
    |cons e es=>exact dR.keeps h (h3 (by simp)) _ _ _ h4
theorem dR.keeps{w w':World}{im vL:Nat->Prop}(h:gR w w' im vL){aM:Nat}(hb:im aM):∀(off sz:Nat)(es:List (List D)),dR w im aM off sz es->dR w' vL aM off sz es
 |_,_,[],_=>by simp only[dR]
 |off,sz,e::es,hd=>by simp only[dR]at hd⊢;exact⟨hd.1,cP.keeps h hb _ _ hd.2.1,dR.keeps h hb _ _ _ hd.2.2⟩
theorem cP.keeps{w w':World}{im vL:Nat->Prop}(h:gR w w' im vL){aM:Nat}(hb:im aM):∀(off:Nat)(ds:List D),cP w im aM off ds->cP w' vL aM off ds
 |_,[],_=>by simp only[cP]
 |off,d::ds,hd=>by simp only[cP]at hd⊢;obtain⟨⟨v,h1,h2⟩,h3⟩:=hd;exact⟨⟨v,by rw[h.cell hb];exact h1,Rd.keeps h _ _ h2⟩,cP.keeps h hb _ _ h3⟩
end
inductive GB where
 |cells (aM cp cur:Nat)
 |nil
 |obj (aM:Nat)
def GB.own:GB->Option Nat| .cells b _ _=>some b| .nil=>none| .obj b=>some b
structure G where
 cd:Nat->Prop
 γ:Nat->Option GB
 fo:Nat->Prop
 base:Nat
def cl(g:G)(w:World)(k:Nat):Prop:=k<w.heap.size/\¬g.fo k/\∀b x,g.γ b=some x->x.own≠some k
mutual
def RV(g:G)(w:World):V->Value->Prop
 | .any,_=>True
 | .full es,v=>Rd w (cl g w) (.list es) v/\∃a,v=.slice a es.length es.length
 | .d x,v=>Rd w (cl g w) x v
 | .ak,v=>v=.slice none 0 0
 | .ptr b h off,v=>((∃aM o,v=.pointer (some ⟨aM,o,none⟩))/\g.cd b)/\∀x,g.γ b=some x->∃aM cp cur,x=.cells aM cp cur/\(cur=h->v=.pointer (some ⟨aM,off,none⟩))/\h<=cur
 | .lD,v=>v=.pointer none
 | .aO cs,v=>∃aM off,v=.pointer (some ⟨aM,off,none⟩)/\(cs≠[]->cl g w aM)/\cP w (cl g w) aM off cs
 | .sl b h off len sz,v=>
  (v.oneCell'=true/\g.cd b)/\∀x,g.γ b=some x->match x with
   | .nil=>h=0/\len=0/\off=0/\v=.slice none 0 0
   | .cells aM cp cur=>h<=cur/\(cur=h->∃cap,v=.slice (some ⟨aM,off,none⟩) len cap/\len<=cap/\off+cap*sz<=cp)
   | .obj _=>False
 | .map b,v=>(v.oneCell'=true/\g.cd b)/\∀x,g.γ b=some x->∃aM,x=.obj aM/\v=.map (some aM)
 | .kC,v=>v=.map none
 | .func f a c,v=>∃x y,v=.func (.func f) x y/\aN g w a x.toList/\aN g w c y.toList
 | .oK,v=>v=.nilFunc
 | .iface t u,v=>∃x,v=.iface t x/\RV g w u x
 | .bz,v=>∃t x,v=.iface t x
 | .fy,v=>v=.nilIface
 | .agg cs,v=>∃x,v=.agg x/\aN g w cs x.toList
 | .tuple vs,v=>∃x,v=.tuple x/\aN g w vs x.toList
 | .iter b _,v=>(v.oneCell'=true/\g.cd b)/\∀x,g.γ b=some x->∃aM,x=.obj aM/\v=.pointer (some ⟨aM,0,none⟩)
 | .gI b,v=>(v.oneCell'=true/\g.cd b)/\∀x,g.γ b=some x->∃aM,x=.obj aM/\v=.func (.yield aM) #[] #[]
def aN(g:G)(w:World):List V->List Value->Prop|[],[]=>True|a::as,b::bs=>RV g w a b/\aN g w as bs|_,_=>False
end
variable {g':G}{w w':World}
def GB.step:Option GB->Option GB->Prop|_,none=>True|none,some _=>False|some (.cells b c u),some x=>x=.cells b c u\/∃b' c' u',x=.cells b' c' u'/\u<u'|some .nil,some x=>x=.nil\/∃b' c' u',x=.cells b' c' u'/\0<u'|some (.obj b),some x=>x=.obj b
theorem GB.step.refl:∀x,GB.step x x|none=>trivial|some (.cells _ _ _)=>.inl rfl|some .nil=>.inl rfl|some (.obj _)=>rfl
structure bu (g:G) (w:World) (g':G) (w':World):Prop where
 os:w'.os=w.os
 tape:w'.tape=w.tape
 output:w'.output=w.output
 size:w.heap.size<=w'.heap.size
 keeps:gR w w' (cl g w) (cl g' w')
 cd:∀b,g.cd b->g'.cd b
 step:∀b,g.cd b->GB.step (g.γ b) (g'.γ b)
 fo:g'.fo=g.fo
 base:g'.base=g.base
 dw:∀k,g.fo k->w'.heap[k]? =w.heap[k]?
theorem bu.refl(g:G)(w:World):bu g w g w:=⟨rfl,rfl,rfl,aaC _,fun _ h=>⟨h,rfl⟩,fun _ h=>h,fun _ _=>GB.step.refl _,rfl,rfl,fun _ _=>rfl⟩
theorem GB.step.trans:∀{x y z:Option GB},GB.step x y->GB.step y z->GB.step x z
 |_,_,none,_,_=>by simp only[GB.step]
 |x,none,some z,_,h=>by grind[GB.step]
 |none,some y,_,h,_=>by grind[GB.step]
 |some (.cells b c u),some y,some z,h1,h2=>by
  rcases h1 with rfl|⟨b',c',u',rfl,hu⟩
  ·exact h2
  ·rcases h2 with rfl|⟨b2,c2,u2,rfl,Jy⟩
   ·exact .inr ⟨_,_,_,rfl,hu⟩
   ·exact .inr ⟨_,_,_,rfl,by omega⟩
 |some .nil,some y,some z,h1,h2=>by
  rcases h1 with rfl|⟨b',c',u',rfl,hu⟩
  ·exact h2
  ·rcases h2 with rfl|⟨b2,c2,u2,rfl,Jy⟩
   ·exact .inr ⟨_,_,_,rfl,hu⟩
   ·exact .inr ⟨_,_,_,rfl,by omega⟩
 |some (.obj b),some y,some z,h1,h2=>by grind[GB.step]
theorem bu.trans{g Zg:G}{TX:World}(h:bu g w g' w')(k:bu g' w' Zg TX):bu g w Zg TX:=⟨k.os.trans h.os,k.tape.trans h.tape,k.output.trans h.output,aby h.size k.size,fun b hb=>⟨(k.keeps b (h.keeps b hb).1).1,((k.keeps b (h.keeps b hb).1).2).trans (h.keeps b hb).2⟩,fun b hb=>k.cd b (h.cd b hb),fun b hb=>(h.step b hb).trans (k.step b (h.cd b hb)),k.fo.trans h.fo,k.base.trans h.base,fun b hb=>(k.dw b (by rw[h.fo];exact hb)).trans (h.dw b hb)⟩
structure rr (g:G) (w:World) (g':G) (w':World):Prop where
 keeps:gR w w' (cl g w) (cl g' w')
 cd:∀b,g.cd b->g'.cd b
 step:∀b,g.cd b->GB.step (g.γ b) (g'.γ b)
theorem bu.UJ{g:G}(h:bu g w g' w'):rr g w g' w':=⟨h.keeps,h.cd,h.step⟩
def G.br(g:G)(n:Nat):G:=⟨g.cd,g.γ,g.fo,n⟩
theorem rr.br(g:G)(w:World)(n:Nat):rr g w (g.br n) w:=⟨fun _ h=>⟨h,rfl⟩,fun _ h=>h,fun _ _=>GB.step.refl _⟩
theorem bu.br{g:G}(h:bu g w g' w')(n:Nat):bu (g.br n) w (g'.br n) w':=⟨h.os,h.tape,h.output,h.size,h.keeps,h.cd,h.step,h.fo,rfl,h.dw⟩
mutual
theorem RV.jO{g g':G}{w w':World}(h:rr g w g' w'):∀(u:V)(v:Value),RV g w u v->RV g' w' u v
 | .any,_,_=>by simp only[RV]
 | .d x,v,hv=>by simp only[RV]at hv⊢;exact Rd.keeps h.keeps _ _ hv
 | .full es,v,hv=>by simp only[RV]at hv⊢;exact⟨Rd.keeps h.keeps _ _ hv.1,hv.2⟩
 | .ak,_,hv=>by grind[RV]
 | .ptr b hh off,v,hv=>by
  simp only[RV]at hv⊢;refine⟨⟨hv.1.1,h.cd b hv.1.2⟩,fun x hx=>?_ ⟩;have hs:=h.step b hv.1.2;rw[hx]at hs;cases hb:g.γ b with
   |none=>rw[hb]at hs;exact hs.elim
   |some y=>obtain⟨aM,cp,cur,rfl,h1,h2⟩:=hv.2 y hb;rw[hb]at hs;rcases hs with rfl|⟨b',c',u',rfl,hu⟩;all_goals grind
 | .lD,_,hv=>by grind[RV]
 | .aO cs,v,hv=>by
  simp only[RV]at hv⊢;obtain⟨aM,off,h1,h2,h3⟩:=hv;refine⟨aM,off,h1,fun hn=>(h.keeps _ (h2 hn)).1,?_ ⟩;cases cs with
   |nil=>simp only[cP]
   |cons c cs=>exact cP.keeps h.keeps (h2 (by simp)) _ _ h3
 | .sl b hh off len sz,v,hv=>by
  simp only[RV]at hv⊢;refine⟨⟨hv.1.1,h.cd b hv.1.2⟩,fun x hx=>?_ ⟩;have hs:=h.step b hv.1.2;rw[hx]at hs;cases hb:g.γ b with
   |none=>rw[hb]at hs;exact hs.elim
   |some y=>
    have hy:=hv.2 y hb;rw[hb]at hs;cases y with
     |nil=>rcases hs with rfl|⟨b',c',u',rfl,hu⟩;all_goals grind
     |cells bb cc uu=>rcases hs with rfl|⟨b',c',u',rfl,hu⟩;all_goals grind
     |obj bb=>grind
 | .map b,v,hv=>by simp only[RV]at hv⊢;refine⟨⟨hv.1.1,h.cd b hv.1.2⟩,fun x hx=>?_ ⟩;have hs:=h.step b hv.1.2;rw[hx]at hs;cases hb:g.γ b<;>grind[GB.step]
 | .kC,_,hv=>by grind[RV]
 | .func f a c,v,hv=>by simp only[RV]at hv⊢;obtain⟨x,y,h1,h2,h3⟩:=hv;exact⟨x,y,h1,aN.jO h _ _ h2,aN.jO h _ _ h3⟩
 | .oK,_,hv=>by grind[RV]
 | .iface t u,v,hv=>by simp only[RV]at hv⊢;obtain⟨x,h1,h2⟩:=hv;exact⟨x,h1,RV.jO h _ _ h2⟩
 | .bz,_,hv=>by grind[RV]
 | .fy,_,hv=>by grind[RV]
 | .agg cs,v,hv=>by simp only[RV]at hv⊢;obtain⟨x,h1,h2⟩:=hv;exact⟨x,h1,aN.jO h _ _ h2⟩
 | .tuple vs,v,hv=>by simp only[RV]at hv⊢;obtain⟨x,h1,h2⟩:=hv;exact⟨x,h1,aN.jO h _ _ h2⟩
 | .iter b _,v,hv=>by simp only[RV]at hv⊢;refine⟨⟨hv.1.1,h.cd b hv.1.2⟩,fun x hx=>?_ ⟩;have hs:=h.step b hv.1.2;rw[hx]at hs;cases hb:g.γ b<;>grind[GB.step]
 | .gI b,v,hv=>by simp only[RV]at hv⊢;refine⟨⟨hv.1.1,h.cd b hv.1.2⟩,fun x hx=>?_ ⟩;have hs:=h.step b hv.1.2;rw[hx]at hs;cases hb:g.γ b<;>grind[GB.step]
theorem aN.jO{g g':G}{w w':World}(h:rr g w g' w'):∀(us:List V)(vs:List Value),aN g w us vs->aN g' w' us vs
 |[],[],_=>by simp only[aN]
 |u::us,v::vs,hv=>by simp only[aN]at hv⊢;exact⟨RV.jO h _ _ hv.1,aN.jO h _ _ hv.2⟩
 |[],_::_,hv=>by grind[aN]
 |_::_,[],hv=>by grind[aN]
end
variable {w w':World}{g':G}{GL:bM}{a:Act}{σ:St}
theorem RV.ext{g:G}(h:bu g w g' w')(u:V)(v:Value):RV g w u v->RV g' w' u v:=RV.jO h.UJ u v
theorem aN.ext{g:G}(h:bu g w g' w')(us:List V)(vs:List Value):aN g w us vs->aN g' w' us vs:=aN.jO h.UJ us vs
theorem RV.one{g:G}:∀{u:V}{v:Value},eL u=true->RV g w u v->v.oneCell'=true:=by
 intro u v hu hv;cases u with
  |any=>grind[eL]
  |agg=>grind[eL]
  |tuple=>grind[eL]
  |d x=>
   cases x with
    |bool=>simp only[RV,Rd]at hv;subst hv;rfl
    |int=>simp only[RV,Rd]at hv;subst hv;rfl
    |str=>simp only[RV,Rd]at hv;obtain⟨s,rfl,_⟩:=hv;rfl
    |sN=>simp only[RV,Rd]at hv;obtain⟨s,rfl,_⟩:=hv;rfl
    |list es=>simp only[RV,Rd]at hv;rcases hv with⟨_,rfl|⟨_,_,rfl⟩⟩|⟨_,_,_,_,rfl,_⟩<;>rfl
  |full=>simp only[RV]at hv;obtain⟨_,_,rfl⟩:=hv;rfl
  |ak=>simp only[RV]at hv;subst hv;rfl
  |lD=>simp only[RV]at hv;subst hv;rfl
  |kC=>simp only[RV]at hv;subst hv;rfl
  |oK=>simp only[RV]at hv;subst hv;rfl
  |fy=>simp only[RV]at hv;subst hv;rfl
  |aO=>simp only[RV]at hv;obtain⟨_,_,rfl,_⟩:=hv;rfl
  |func=>simp only[RV]at hv;obtain⟨_,_,rfl,_⟩:=hv;rfl
  |iface=>simp only[RV]at hv;obtain⟨_,rfl,_⟩:=hv;rfl
  |bz=>simp only[RV]at hv;obtain⟨_,_,rfl⟩:=hv;rfl
  |ptr=>simp only[RV]at hv;obtain⟨⟨⟨_,_,rfl⟩,_⟩,_⟩:=hv;rfl
  |sl=>grind[RV]
  |map=>grind[RV]
  |iter=>grind[RV]
  |gI=>grind[RV]
theorem aN.length{g:G}{w:World}:∀{us:List V}{vs:List Value},aN g w us vs->us.length=vs.length
 |[],[],_=>rfl
 |u::us,v::vs,h=>by simp only[aN]at h;simp[aN.length h.2]
 |[],_::_,h=>by grind[aN]
 |_::_,[],h=>by grind[aN]
theorem aN.get{g:G}{w:World}:∀{us:List V}{vs:List Value}(i:Nat){u:V},aN g w us vs->us[i]? =some u->∃v,vs[i]? =some v/\RV g w u v
 |[],[],i,u,_,hu=>by simp at hu
 |x::us,v::vs,0,u,h,hu=>by grind[aN]
 |x::us,v::vs,i+1,u,h,hu=>by simp only[aN]at h;simp at hu⊢;exact aN.get i h.2 hu
 |[],_::_,_,_,h,_=>by grind
 |_::_,[],_,_,h,_=>by grind[aN]
theorem aN.append{g:G}{w:World}:∀{us:List V}{vs:List Value}{Zh:List V}{UK:List Value},aN g w us vs->aN g w Zh UK->aN g w (us++Zh) (vs++UK)
 |[],[],_,_,_,h=>by grind
 |u::us,v::vs,_,_,h,h'=>by simp only[aN]at h;simp;exact⟨h.1,aN.append h.2 h'⟩
 |[],_::_,_,_,h,_=>by grind[aN]
 |_::_,[],_,_,h,_=>by grind[aN]
theorem aN.take{g:G}{w:World}:∀{us:List V}{vs:List Value}(n:Nat),aN g w us vs->aN g w (us.take n) (vs.take n)
 |[],[],n,_=>by simp[aN]
 |u::us,v::vs,0,h=>by simp[aN]
 |u::us,v::vs,n+1,h=>by simp only[aN]at h;simp;exact⟨h.1,aN.take n h.2⟩
 |[],_::_,_,h=>by grind[aN]
 |_::_,[],_,h=>by grind[aN]
theorem aN.drop{g:G}{w:World}:∀{us:List V}{vs:List Value}(n:Nat),aN g w us vs->aN g w (us.drop n) (vs.drop n)
 |[],[],n,_=>by simp[aN]
 |u::us,v::vs,0,h=>by grind
 |u::us,v::vs,n+1,h=>by simp only[aN]at h;simp;exact aN.drop n h.2
 |[],_::_,_,h=>by grind[aN]
 |_::_,[],_,h=>by grind[aN]
theorem aN.set{g:G}{w:World}:∀{us:List V}{vs:List Value}(n:Nat){u:V}{v:Value},aN g w us vs->RV g w u v->aN g w (us.set n u) (vs.set n v)
 |[],[],n,_,_,_,_=>by simp[aN]
 |u::us,v::vs,0,_,_,h,hv=>by grind[aN]
 |u::us,v::vs,n+1,_,_,h,hv=>by simp only[aN]at h;simp;exact⟨h.1,aN.set n h.2 hv⟩
 |[],_::_,_,_,_,h,_=>by grind[aN]
 |_::_,[],_,_,_,h,_=>by grind[aN]
theorem aN.one{g:G}{w:World}:∀{us:List V}{vs:List Value},us.all eL=true->aN g w us vs->∀v∈vs,v.oneCell'=true
 |[],[],_,_=>by simp
 |u::us,v::vs,hu,h=>by
  simp only[aN]at h;simp only[aaL,aas]at hu;intro x hx;rcases aaT.1 hx with rfl|hx
  ·exact RV.one hu.1 h.1
  ·exact aN.one hu.2 h.2 x hx
 |[],_::_,_,h=>by grind[aN]
 |_::_,[],_,h=>by grind
theorem cP.KP{g:G}{w:World}{aM:Nat}:∀{off:Nat}{ds:List D},cP w (cl g w) aM off ds->∃vs,aN g w (ds.map V.d) vs/\∀j v,vs[j]? =some v->w.cell? ⟨aM,off+j,none⟩=some v
 |_,[],_=>⟨[],by simp[aN],by simp⟩
 |off,d::ds,h=>by simp only[cP]at h;obtain⟨⟨v,h1,h2⟩,h3⟩:=h;obtain⟨vs,h4,h5⟩:=cP.KP h3;refine⟨v::vs,by grind[aN,RV],fun j u hu=>?_ ⟩;grind
def KR:Option Nat->Code|none=>.ret|some id=>.exit id
def kG.Ht(r:Loop):kG->Prop| .ready=>r.state=.ready/\r.pending=none| .busy=>True| .done e=>r.state=.done/\r.pending=some (KR e)| .over=>True
def RB(g:G)(w:World):GB->bR->Prop| .cells aM cp cur,.cells cs=>cur=cs.length/\cs.all eL=true/\cs.length<=cp/\∃c e,w.heap[aM]? =some (.cells c e (0,0))/\cp<=c.size/\aN g w cs (c.toList.take cs.length)| .nil,.nil=>True| .obj aM,.map es=>∃bA clock,w.heap[aM]? =some (.map bA clock)/\bA.size=es.length/\(∀(i:Nat)(k:D)(v:V),es[i]? =some (k,v)->∃x,bA[i]? =some x/\x.born<clock/\Rd w (cl g w) k x.key/\RV g w v x.val)/\(∀(i:Nat)(x:MapEntry),bA[i]? =some x->x.born=i)/\clock=bA.size| .obj aM,.bH m n seen=>∃mb sa,w.heap[aM]? =some (.mapIter (some mb) n sa n)/\sa.toList=seen/\g.cd m/\∀x,g.γ m=some x->x=.obj mb| .obj aM,.loop n tm ps ca cb st=>∃r:Loop,w.heap[aM]? =some (.loop r)/\r.tmps.size=n/\(∀t,RV g w (get tm t) (r.tmps.getD t undef))/\r.params.toList=ps/\r.assign=ca/\r.body=cb/\st.Ht r| .obj aM,.uz s pos=>∃b:ByteArray,w.heap[aM]? =some (.stringIter b pos)/\b.data.toList=s|_,_=>False
structure aw (g:G) (w:World) (H:an):Prop where
 cd:∀b,g.cd b->b<H.length
 live:∀b x,g.γ b=some x->g.cd b/\∃y,aC H b=some y/\RB g w x y
 back:∀b y,aC H b=some y->∃x,g.γ b=some x
 inj:∀b b' x x' k,g.γ b=some x->g.γ b'=some x'->x.own=some k->x'.own=some k->b=b'
 fo:∀k,g.fo k->k<w.heap.size/\∀b x,g.γ b=some x->x.own≠some k
structure dX (GL:bM) (g:G) (w:World):Prop where
 rd:∀n cs,GL.rd n=some cs->cl g w n/\cP w (cl g w) n 0 cs
 w0:∀k,k<GL.w0.heap.size->cl g w k/\w.heap[k]? =GL.w0.heap[k]?
def DS(g:G)(w:World)(l:List Deferred):Prop:=g.base<=w.heap.size/\l.Nodup/\∀d∈l,∃D,d={target:=.collected D,args:= #[]}/\g.base<=D/\cl g w D/\w.heap[D]? =some (.deferred (some []))
theorem DS.nil{g:G}(h:g.base<=w.heap.size):DS g w []:=⟨h,List.nodup_nil,by simp⟩
theorem DS.ext{g:G}(h:bu g w g' w'){l:List Deferred}(hd:DS g w l):DS g' w' l:=⟨by rw[h.base];exact aby hd.1 h.size,hd.2.1,fun d hm=>by obtain⟨D,h1,h2,h3,h4⟩:=hd.2.2 d hm;exact⟨D,h1,by rw[h.base];exact h2,(h.keeps D h3).1,(h.keeps D h3).2.trans h4⟩⟩
structure R (GL:bM) (g:G) (w:World) (a:Act) (σ:St):Prop where
 defers:DS g w a.defers
 size:a.tmps.size=σ.n
 tmps:∀t,RV g w (get σ.tm t) (a.tmps.getD t undef)
 heap:aw g w σ.hp
 cD:dX GL g w
theorem dX.ext{g:G}(h:bu g w g' w')(hg:dX GL g w):dX GL g' w':=⟨fun n cs hn=>⟨(h.keeps _ (hg.rd n cs hn).1).1,cP.keeps h.keeps (hg.rd n cs hn).1 _ _ (hg.rd n cs hn).2⟩,fun k hk=>⟨(h.keeps _ (hg.w0 k hk).1).1,(h.keeps _ (hg.w0 k hk).1).2.trans (hg.w0 k hk).2⟩⟩
theorem dr{a b:Nat}(h:a≠b):Nat.beq a b=false:=by cases hh:Nat.beq a b;all_goals simp_all
theorem fB(l:List (Nat×V))(t s:Nat)(v:V):get (put l t v) s=if s=t then v else get l s:=by
 induction l with
  |nil=>
   simp only[put,get];by_cases h:s=t
   ·subst h;simp
   ·have:Nat.beq t s=false:=dr (by omega);grind
  |cons p l ih=>
   obtain⟨q,u⟩:=p;simp only[put];by_cases hq:q=t
   ·subst hq;simp only[aaS,aaw,get];by_cases h:s=q
    ·subst h;simp
    ·have:Nat.beq q s=false:=dr (by omega);grind
   ·have hb:Nat.beq q t=false:=dr hq;simp only[hb,aaM];cases hle:Nat.ble t q with
     |true=>
      simp only[aaw,get];by_cases h:s=t
      ·subst h;simp
      ·have:Nat.beq t s=false:=dr (by omega);grind
     |false=>simp only[aaM,get,ih];grind
theorem R.put{g:G}{H':an}(h:R GL g w a σ)(e:bu g w g' w')(hh:aw g' w' H')(t:Nat)(v:V)(x:Value)(ht:t<σ.n)(hv:RV g' w' v x):R GL g' w' (a.put (some t) x) ⟨σ.n,Fw.put σ.tm t v,H'⟩:=by
 refine⟨h.defers.ext e,by simp[Act.put,h.size],fun s=>?_,hh,h.cD.ext e⟩;simp only[fB,Act.put];by_cases hs:s=t
 ·subst hs;have hs:s<a.tmps.size:=by rw[h.size];exact ht
  simp_all
 ·simp only[hs,ab0];rw[aaG,abb (by omega),←aaG];exact RV.ext e _ _ (h.tmps s)
theorem R.D0{g:G}{H':an}(h:R GL g w a σ)(e:bu g w g' w')(hh:aw g' w' H')(x:Value):R GL g' w' (a.put none x) ⟨σ.n,σ.tm,H'⟩:=⟨h.defers.ext e,h.size,fun s=>RV.ext e _ _ (h.tmps s),hh,h.cD.ext e⟩
theorem R.any{g:G}(h:R GL g w a σ)(t:Nat)(x:Value)(ht:t<σ.n):R GL g w (a.put (some t) x) ⟨σ.n,Fw.put σ.tm t .any,σ.hp⟩:=h.put (bu.refl _ _) h.heap t .any x ht (by simp only[RV])
end Fw
/-
  Steps of world and boxes: a new box, a box written, a box that has grown.
-/
namespace Fw
open Go
variable {w w':World}{H:an}{b k:Nat}{y:bR}{ko:Option Nat}
theorem RB.jO{g g':G}(h:rr g w g' w'){x:GB}(ho:∀k,x.own=some k->w'.heap[k]? =w.heap[k]? )(hr:RB g w x y):RB g' w' x y:=by
 cases x with
  |cells aM cp cur=>
   cases y with
    |cells cs=>simp only[RB]at hr⊢;obtain⟨h1,h2,h3,c,e,h4,h5,h6⟩:=hr;exact⟨h1,h2,h3,c,e,by rw[ho aM rfl];exact h4,h5,aN.jO h _ _ h6⟩
    |_=>grind[RB]
  |nil=>grind[RB]
  |obj aM=>
   cases y with
    |map es=>simp only[RB]at hr⊢;obtain⟨bA,clock,h1,h2,h3,h4⟩:=hr;refine⟨bA,clock,by rw[ho aM rfl];exact h1,h2,fun i k v hi=>?_,h4⟩;obtain⟨z,KS,Hu,Hv,Oy⟩:=h3 i k v hi;exact⟨z,KS,Hu,Rd.keeps h.keeps _ _ Hv,RV.jO h _ _ Oy⟩
    |uz s pos=>simp only[RB]at hr⊢;obtain⟨b,h1,h2⟩:=hr;exact⟨b,by rw[ho aM rfl];exact h1,h2⟩
    |loop n tm ps ca cb st=>simp only[RB]at hr⊢;obtain⟨r,h1,h2,h3,h4⟩:=hr;exact⟨r,by rw[ho aM rfl];exact h1,h2,fun t=>RV.jO h _ _ (h3 t),h4⟩
    |bH m n seen=>
     simp only[RB]at hr⊢;obtain⟨mb,sa,h1,h2,h3,h4⟩:=hr;refine⟨mb,sa,by rw[ho aM rfl];exact h1,h2,h.cd m h3,fun x hx=>?_ ⟩;have hs:=h.step m h3;rw[hx]at hs;cases hb:g.γ m with
      |none=>rw[hb]at hs;exact hs.elim
      |some y=>have:=h4 y hb;subst this;rw[hb]at hs;exact hs
    |_=>grind[RB]
theorem RB.ext{g g':G}(h:bu g w g' w'){x:GB}(ho:∀k,x.own=some k->w'.heap[k]? =w.heap[k]? )(hr:RB g w x y):RB g' w' x y:=RB.jO h.UJ ho hr
theorem aw.br{g:G}(hh:aw g w H)(n:Nat):aw (g.br n) w H:=⟨hh.cd,fun b x hx=>by obtain⟨h1,y,h2,h3⟩:=hh.live b x hx;exact⟨h1,y,h2,RB.jO (rr.br g w n) (fun _ _=>rfl) h3⟩,hh.back,hh.inj,hh.fo⟩
theorem dX.br{GL:bM}{g:G}(h:dX GL g w)(n:Nat):dX GL (g.br n) w:=⟨h.rd,h.w0⟩
theorem RB.lt{g:G}{x:GB}(h:RB g w x y):∀k,x.own=some k->k<w.heap.size:=by
 intro k hk;have key:∀o,w.heap[k]? =some o->k<w.heap.size:=fun o ho=>(aa6.1 ho).1
 cases x with
  |cells aM cp cur=>simp only[GB.own,aar]at hk;subst hk;cases y<;>grind[RB]
  |nil=>grind[GB.own]
  |obj aM=>simp only[GB.own,aar]at hk;subst hk;cases y<;>grind[RB]
theorem oU(h:aC H b=some y):b<H.length:=by
 induction H generalizing b with
  |nil=>simp[aC]at h
  |cons z H ih=>cases b<;>grind[aC]
theorem fh(H:an)(b:Nat)(y:bR)(c:Nat):aC (aR H b y) c=if c=b then some y else aC H c:=by
 induction H generalizing b c with
  |nil=>
   induction b generalizing c with
    |zero=>cases c<;>simp[aR,aC]
    |succ b ih=>cases c<;>grind[aR,aC]
  |cons z H ih=>
   cases b with
    |zero=>cases c<;>simp[aR,aC]
    |succ b=>cases c<;>simp[aR,aC,ih]
theorem fC(H:an)(b:Nat)(y:bR):aC (aR H b y) b=some y:=by grind[fh]
theorem dn{b':Nat}(y:bR)(h:b'≠b):aC (aR H b y) b'=aC H b':=by grind[fh]
theorem A9(h:H.length<=b):aC H b=none:=by
 cases hg:aC H b with
  |none=>rfl
  |some y=>have:=oU hg;omega
theorem bu.drawn(g:G)(w:World)(n:Nat):bu g w g {w with drawn:=n}:=⟨rfl,rfl,rfl,aaC _,fun _ h=>⟨h,rfl⟩,fun _ h=>h,fun _ _=>GB.step.refl _,rfl,rfl,fun _ _=>rfl⟩
theorem aw.ext{g:G}(hh:aw g w H)(h:bu g w g w')(ho:∀b x k,g.γ b=some x->x.own=some k->w'.heap[k]? =w.heap[k]? ):aw g w' H:=⟨hh.cd,fun b x hx=>by obtain⟨h1,y,h2,h3⟩:=hh.live b x hx;exact⟨h1,y,h2,RB.ext h (fun k hk=>ho b x k hx hk) h3⟩,hh.back,hh.inj,fun k hk=>⟨aaX (hh.fo k hk).1 h.size,(hh.fo k hk).2⟩⟩
def G.add(g:G)(b:Nat)(x:GB):G:=⟨fun c=>g.cd c\/c=b,fun c=>if c=b then some x else g.γ c,g.fo,g.base⟩
def f_(g:G)(ns:Nat):Prop:=¬g.cd ns
theorem aw.fresh{g:G}(hh:aw g w H):f_ g H.length:=fun h=>by have:=hh.cd _ h;omega
theorem cj(w:World)(o:Obj)(h:k<w.heap.size):(w.alloc o).heap[k]? =w.heap[k]? :=by show(w.heap.push o)[k]? =_;grind
theorem bc(w:World)(o:Obj):(w.alloc o).heap[w.heap.size]? =some o:=by show(w.heap.push o)[w.heap.size]? =_;grind
theorem bu.new{g:G}{ns:Nat}(hh:aw g w H)(fD:f_ g ns)(o:Obj)(x:GB)(hx:x.own=some w.heap.size):bu g w (g.add ns x) (w.alloc o):=by
 refine⟨rfl,rfl,rfl,by simp,?_,fun b h=>.inl h,?_,rfl,rfl,fun k hk=>cj _ _ (hh.fo k hk).1⟩
 ·intro k hk;refine⟨⟨by have:=hk.1;simp;omega,hk.2.1,fun b y hy=>?_ ⟩,cj _ _ hk.1⟩;simp only[G.add]at hy;split at hy
  ·simp at hy;subst hy;rw[hx];intro e;have:=hk.1;grind
  ·exact hk.2.2 b y hy
 ·intro b hb;have:b≠ns:=by rintro rfl;exact fD hb
  simp only[G.add,this,ab0];exact GB.step.refl _
theorem gS(H:an)(b:Nat)(y:bR):H.length<=(aR H b y).length/\b<(aR H b y).length:=by
 induction H generalizing b with
  |nil=>induction b<;>grind[aR,List.length_cons]
  |cons z H ih=>cases b<;>grind[aR,List.length_cons]
theorem aw.new{g:G}{ns:Nat}(hh:aw g w H)(fD:f_ g ns)(o:Obj)(x:GB)(y:bR)(hx:x.own=some w.heap.size)(hr:RB (g.add ns x) (w.alloc o) x y):aw (g.add ns x) (w.alloc o) (aR H ns y):=by
 have he:=bu.new hh fD o x hx;refine⟨?_,?_,?_,?_,?_⟩
 ·intro b hb;have hl:=gS H ns y;rcases hb with hb|rfl
  ·have:=hh.cd b hb;omega
  grind
 ·intro b z hz;simp only[G.add]at hz;split at hz
  ·rename_i hb;simp at hz;subst hz;subst hb;exact⟨.inr rfl,y,fC _ _ _,hr⟩
  ·rename_i hb;obtain⟨h1,y',h2,h3⟩:=hh.live b z hz;refine⟨.inl h1,y',by rw[dn y hb];exact h2,RB.ext he (fun k hk=>cj _ _ (h3.lt k hk)) h3⟩
 ·intro b z hz;by_cases hb:b=ns
  ·simp_all[G.add]
  ·rw[dn y hb]at hz;obtain⟨q,hq⟩:=hh.back b z hz;simp_all[G.add]
 ·intro b b' z z' k hz tY hk kx;simp only[G.add]at hz tY;split at hz
  ·rename_i hb;split at tY
   ·grind
   ·simp at hz;subst hz;rw[hx]at hk;simp at hk;subst hk;obtain⟨_,_,_,h3⟩:=hh.live b' z' tY;have:=h3.lt _ kx;omega
  ·split at tY
   ·simp at tY;subst tY;rw[hx]at kx;simp at kx;subst kx;obtain⟨_,_,_,h3⟩:=hh.live b z hz;have:=h3.lt _ hk;omega
   ·exact hh.inj b b' z z' k hz tY hk kx
 ·intro k hk;have hl:=(hh.fo k hk).1;refine⟨by simp;omega,fun c z hz=>?_ ⟩;simp only[G.add]at hz;split at hz
  ·grind
  ·exact(hh.fo k hk).2 c z hz
theorem bu.write{g:G}{x:GB}(hx:g.γ b=some x)(hk:x.own=some k)(hfk:¬g.fo k)(UL:w'.os=w.os)(ht:w'.tape=w.tape)(KT:w'.output=w.output)(cH:w'.heap.size=w.heap.size)(hw:∀j,j≠k->w'.heap[j]? =w.heap[j]? ):bu g w g w':=by
 refine⟨UL,ht,KT,by omega,fun j hj=>⟨⟨by have:=hj.1;omega,hj.2⟩,hw j ?_⟩,fun _ h=>h,fun _ _=>GB.step.refl _,rfl,rfl,fun j hj=>hw j ?_ ⟩
 ·rintro rfl;exact hj.2.2 b x hx hk
 grind
theorem aw.write{g:G}(hh:aw g w H){x:GB}(y:bR)(hx:g.γ b=some x)(hk:x.own=some k)(he:bu g w g w')(hw:∀j,j≠k->w'.heap[j]? =w.heap[j]? )(hr:RB g w' x y):aw g w' (aR H b y):=by
 refine⟨fun c hc=>aaX (hh.cd c hc) (gS H b y).1,?_,?_,hh.inj,fun j hj=>⟨aaX (hh.fo j hj).1 he.size,(hh.fo j hj).2⟩⟩
 ·intro c z hz;obtain⟨h1,y',h2,h3⟩:=hh.live c z hz;by_cases hc:c=b
  ·subst hc;rw[hx]at hz;simp at hz;subst hz;exact⟨h1,y,fC _ _ _,hr⟩
  ·refine⟨h1,y',by rw[dn y hc];exact h2,RB.ext he (fun j hj=>hw j ?_ ) h3⟩;rintro rfl;exact hc (hh.inj c b z x j hz hx hj hk)
 ·intro c z hz;by_cases hc:c=b
  ·grind
  ·rw[dn y hc]at hz;exact hh.back c z hz
def G.set(g:G)(b:Nat)(x:GB):G:=⟨g.cd,fun c=>if c=b then some x else g.γ c,g.fo,g.base⟩
theorem bu.grow{g:G}{x x':GB}(Hk:∀k,g.fo k->k<w.heap.size/\some k≠ko)(hx:g.γ b=some x)(Oz:x.own=ko)(tZ:GB.step (some x) (some x'))(hn:x'.own=ko\/∃k,x'.own=some k/\w.heap.size<=k)(UL:w'.os=w.os)(ht:w'.tape=w.tape)(KT:w'.output=w.output)(cH:w.heap.size<=w'.heap.size)(hw:∀j,j<w.heap.size->some j≠ko->w'.heap[j]? =w.heap[j]? ):bu g w (g.set b x') w':=by
 refine⟨UL,ht,KT,cH,fun j hj=>?_,fun _ h=>h,?_,rfl,rfl,fun j hj=>hw j (Hk j hj).1 (Hk j hj).2⟩
 ·have hO:some j≠ko:=by rw[←Oz];intro e;exact hj.2.2 b x hx e.symm
  refine⟨⟨by have:=hj.1;omega,hj.2.1,fun c z hz=>?_ ⟩,hw j hj.1 hO⟩;simp only[G.set]at hz;split at hz
  ·simp at hz;subst hz;rcases hn with h|⟨k,h,hl⟩
   ·grind
   ·rw[h];intro e;simp at e;have:=hj.1;omega
  ·exact hj.2.2 c z hz
 ·intro c hc;simp only[G.set];split
  ·grind
  ·exact GB.step.refl _
theorem aw.grow{g:G}(hh:aw g w H){x x':GB}(y:bR)(hx:g.γ b=some x)(Oz:x.own=ko)(hn:x'.own=ko\/∃k,x'.own=some k/\w.heap.size<=k)(he:bu g w (g.set b x') w')(hw:∀j,j<w.heap.size->some j≠ko->w'.heap[j]? =w.heap[j]? )(hr:RB (g.set b x') w' x' y):aw (g.set b x') w' (aR H b y):=by
 have UM:∀c z k,c≠b->g.γ c=some z->z.own=some k->k<w.heap.size/\some k≠ko:=by intro c z k hc hz hk;obtain⟨_,_,_,h3⟩:=hh.live c z hz;refine⟨h3.lt k hk,fun e=>hc (hh.inj c b z x k hz hx hk (by grind))⟩
 refine⟨fun c hc=>aaX (hh.cd c hc) (gS H b y).1,?_,?_,?_,?_ ⟩
 ·intro c z hz;simp only[G.set]at hz;split at hz
  ·rename_i hc;subst hc;simp at hz;subst hz;obtain⟨h1,y',h2,h3⟩:=hh.live c x hx;exact⟨h1,y,fC _ _ _,hr⟩
  ·rename_i hc;obtain⟨h1,y',h2,h3⟩:=hh.live c z hz;exact⟨h1,y',by rw[dn y hc];exact h2,RB.ext he (fun j hj=>by grind) h3⟩
 ·intro c z hz;by_cases hc:c=b
  ·simp_all[G.set]
  ·rw[dn y hc]at hz;obtain⟨q,hq⟩:=hh.back c z hz;simp_all[G.set]
 ·intro c c' z z' k hz tY hk kx;simp only[G.set]at hz tY;split at hz<;>split at tY
  ·grind
  ·grind
  ·grind
  ·exact hh.inj c c' z z' k hz tY hk kx
 ·intro k hk;refine⟨aaX (hh.fo k hk).1 he.size,fun c z hz=>?_ ⟩;simp only[G.set]at hz;split at hz
  ·simp at hz;subst hz;rcases hn with h|⟨j,h,hl⟩
   ·rw[h,←Oz];exact(hh.fo k hk).2 b x hx
   ·rw[h];intro e;simp at e;have:=(hh.fo k hk).1;omega
  ·exact(hh.fo k hk).2 c z hz
theorem aw.KU{g:G}(hh:aw g w H){x:GB}(hx:g.γ b=some x)(Oz:x.own=ko):∀k,g.fo k->k<w.heap.size/\some k≠ko:=by intro k hk;refine⟨(hh.fo k hk).1,?_⟩;rw[←Oz];exact fun e=>(hh.fo k hk).2 b x hx e.symm
theorem aw.qO{g:G}(hh:aw g w H){x:GB}(hx:g.γ b=some x)(hk:x.own=some k):¬g.fo k:=fun h=>(hh.fo k h).2 b x hx hk
end Fw
/-
  Scopes and labels along a body's spine, taken away: no code jumps to them.
-/
namespace Fw
open Go
section
variable {F:Fence}{n:Nat}{P:Program}{Q:Exit->Act->World->Prop}{a:Act}{w:World}{b:Frame}{k:List Item}{cs:List Frame}
variable {c:Code}
theorem fi:step P (lone (b.atR a (.code (.scope c)::k)) cs w)=.next (lone (b.atR a (.code c:: .inScope c::k)) cs w):=step_lone_go (by simp[stepG,stepG.exec,Frame.atR])
theorem t_:step P (lone (b.atR a (.inScope c::k)) cs w)=.next (lone (b.atR a k) cs w):=step_lone_go (by simp[stepG,stepG.exec,Frame.atR])
theorem zE(h:c.wpIn F n P (Exit.noGoto Q) a w):(Code.scope c).wpIn F n P Q a w:=by
 intro b k cs lE hb hr;have h0:(lone (b.atR a (.code (.scope c)::k)) cs w).fenced P F:=fenced_calm hb hr rfl;obtain⟨e,D1,D2,hq,Co⟩:=h b (.inScope c::k) cs lE hb hr;cases e with
  |normal=>exact⟨.normal,D1,D2,hq,.head h0 fi (StepsIn.trans Co (.one (fenced_calm hb hr rfl) t_))⟩
  |exit id=>
   have hx:exitTo id (.inScope c::k)=exitTo id k:=by simp[exitTo]
   exact⟨.exit id,D1,D2,hq,fun k' hk=>.head h0 fi (Co.1 k' (by rw[hx];exact hk)),fun uB hk=>let⟨UN,h1,h2⟩:=Co.2 uB (by rw[hx];exact hk);⟨UN,h1,.head h0 fi h2⟩⟩
  |goto l=>exact hq.elim
  |ret=>exact⟨_,D1,D2,hq,.of_steps (.one h0 fi) Co⟩
  |panic ch=>exact⟨_,D1,D2,hq,.of_steps (.one h0 fi) Co⟩
  |outgrown=>exact⟨_,D1,D2,hq,.of_steps (.one h0 fi) Co⟩
def OA(Q:Exit->Act->World->Prop):Prop:=∀l a w,¬Q (.goto l) a w
theorem Cp(hQ:OA Q):∀e a w,Q e a w->Exit.noGoto Q e a w:=by
 intro e a w h;cases e with
  |goto l=>exact hQ l a w h
  |_=>exact h
end
end Fw
/-
  From the model's code to the operations of the abstract machine.
-/
namespace Fw
open Go
def Hw:Value->Option V| .bool b=>some (.d (.bool b))| .int k n=>some (.d (.int k n))| .string s=>some (.d (.str s.data.toList))| .slice none 0 0=>some .ak| .pointer none=>some .lD| .map none=>some .kC| .nilFunc=>some .oK| .nilIface=>some .fy|_=>none
def TY:Value->Option V| .agg cs=>(bS Hw cs.toList).map .agg|v=>Hw v
def ar:Operand->Option aU| .tmp t=>some (.t t)| .const v=>(TY v).map .c| .global g=>some (.g g)| .func f=>some (.f f)
def fE(P:Program)(t:TypeId):Option Nat:=(P.info? t).map (·.size)
def oW(P:Program)(t:TypeId):Option Bool:=(P.underlying t).map fun| .struct _| .array _ _=>true|_=>false
def c_(P:Program)(t:TypeId):Option (List V):=((P.info? t).bind (·.zero)).bind fun z=>bS Hw z.cells.toList
def D3(P:Program)(t:TypeId):Option V:=((P.info? t).bind (·.zero)).bind TY
def cw:Option Operand->Option (Option aU)|none=>some none|some x=>(ar x).map some
def dx(place:Nat->Option (Nat×Nat)):List (Nat×Operand)->Option (List (Nat×Nat×aU))
 |[]=>some []
 |(i,x)::ps=>
  match place i with
   |none=>none
   |some (off,size)=>
    match ar x with
     |none=>none
     |some y=>
      match dx place ps with
       |none=>none
       |some qs=>some ((off,size,y)::qs)
def kI(P:Program)(fs:Array Field)(i:Nat):Option (Nat×Nat):=(fs[i]? ).bind fun f=>(fE P f.type).map fun s=>(f.offset,s)
def KV:TypeDesc->Bool| .slice _=>true| .string=>true|_=>false
def vN(P:Program)(t:TypeId):Option dj:=match P.underlying t with
 |some (.int _)=>some .int
 |some .string=>some .str
 |some .bool=>some .bool
 |_=>none
def gT(P:Program):Nat->List Field->Option (List dj)
 |_,[]=>some []
 |n,f::fs=>
  if f.offset=n/\f.name≠ "_" then
   match vN P f.type,gT P (n+1) fs with
    |some k,some ks=>some (k::ks)
    |_,_=>none else none
def jx(P:Program)(t:TypeId):Option (List dj):=match P.underlying t with
 |some (.struct fs)=>if P.stoodInHeld t=false/\P.eqGuardType P.depth t=false then gT P 0 fs.toList else none
 |_=>none
def cR(P:Program)(c:Call):Option jv:=match c.callee with
 | .builtin .len=>
  match c.args.toList,c.argTypes.toList with
   |[x],[t]=>
    match P.underlying t with
     |some .string=>(ar x).map (.len .str)
     |some (.slice _)=>(ar x).map (.len .slice)
     |some (.map _ _)=>(ar x).map (.len .map)
     |some (.array n _)=>(ar x).map (.len (.arr n))
     |_=>none
   |_,_=>none
 | .builtin .append=>
  match c.args.toList,c.argTypes.toList with
   |[x,y],[t,u]=>
    match P.underlying t,P.underlying u with
     |some (.slice e),some (.int _)=>
      match P.info? e,c_ P e,ar x,ar y with
       |some i,some z,some x',some y'=>some (.oO i.size i.bytes z x' y')
       |_,_,_,_=>none
     |some (.slice e),some d=>
      match KV d,P.info? e,c_ P e,ar x,ar y with
       |true,some i,some z,some x',some y'=>if 0<i.size/\z.length=i.size then some (.append i.size i.bytes x' y')else none
       |_,_,_,_,_=>none
     |_,_=>none
   |_,_=>none
 | .builtin .cap=>
  match c.args.toList,c.argTypes.toList with
   |[x],[t]=>
    match P.underlying t with
     |some (.slice _)=>(ar x).map .cap
     |_=>none
   |_,_=>none
 | .builtin .min=>(bS ar c.args.toList).map (.nP false)
 | .builtin .max=>(bS ar c.args.toList).map (.nP true)
 | .value (.func f)=>
  match(P.funcs[f]? ).map (fun fn=>(fn.body.isSome,fn.name== "runtime.NumGoroutine"))with
   |some (true,false)=>(bS ar c.args.toList).map (.call f)
   |_=>none
 | .value (.tmp t)=>(bS ar c.args.toList).map (.bY (.t t))
 |_=>none
def aV(P:Program)(op:Op):Option jv:=match op with
 | .move x=>(ar x).map .mv
 | .assign x=>(ar x).map .mv
 | .pick c a b=>
  match ar c,ar a,ar b with
   |some c',some a',some b'=>some (.pick c' a' b')
   |_,_,_=>none
 | .alloc t=>(c_ P t).map .alloc
 | .box t x=>
  match fE P t,ar x with
   |some n,some x'=>some (.box n x')
   |_,_=>none
 | .build t ps=>
  match P.underlying t,c_ P t with
   |some (.struct fs),some z=>
    match fs.toList.mapM (fun f=>(P.info? f.type).map fun i=>(f.offset,i.size))with
     |some sd=>(dx (fun i=>sd.toArray[i]? ) ps.toList).map (.build z)
     |none=>none
   |some (.array _ e),some z=>
    match P.info? e with
     |some ie=>(dx (fun i=>some (i*ie.size,ie.size)) ps.toList).map (.build z)
     |none=>none
   |_,_=>none
 | .buildSlice t len ps=>
  match P.underlying t with
   |some (.slice e)=>
    match fE P e,c_ P e with
     |some s,some z=>if len*s<=2^24/\z.length=s/\0<s then(dx (fun i=>some (i*s,s)) ps.toList).map (.mkSlice s len ((List.range (len*s)).map fun i=>z.getD (i%s) .any))else none
     |_,_=>none
   |_=>none
 | .load t a=>
  match fE P t,oW P t,ar a with
   |some n,some g,some a'=>if g=true\/n=1 then some (.load n g a')else none
   |_,_,_=>none
 | .store t a x=>
  match fE P t,ar a,ar x with
   |some n,some a',some x'=>some (.store n a' x')
   |_,_,_=>none
 | .nilCheck x=>(ar x).map .kE
 | .binOp op t x y _=>
  match ar x,ar y with
   |some x',some y'=>
    match op with
     | .eql=>
      match P.underlying t with
       |some (.int _)=>some (.bin op x' y')
       |some .string=>some (.bin op x' y')
       |some .bool=>some (.eq false .bool x' y')
       |some (.slice _)=>some (.eq false .slice x' y')
       |some (.struct _)=>(jx P t).map fun ks=>.Cn false ks x' y'
       |some (.interface _)=>
        match x,y with
         | .const _,_=>some (.eq false .iface x' y')
         |_,.const _=>some (.eq false .iface x' y')
         |_,_=>none
       |_=>none
     | .neq=>
      match P.underlying t with
       |some (.int _)=>some (.bin op x' y')
       |some .string=>some (.bin op x' y')
       |some .bool=>some (.eq true .bool x' y')
       |some (.slice _)=>some (.eq true .slice x' y')
       |some (.struct _)=>(jx P t).map fun ks=>.Cn true ks x' y'
       |some (.interface _)=>
        match x,y with
         | .const _,_=>some (.eq true .iface x' y')
         |_,.const _=>some (.eq true .iface x' y')
         |_,_=>none
       |_=>none
     |_=>some (.bin op x' y')
   |_,_=>none
 | .unOp op _ x=>(ar x).map (.un op)
 | .convert s d x=>
  match P.underlying s,P.underlying d,ar x with
   |some (.int _),some (.int k),some x'=>some (.conv k x')
   |some .string,some (.slice e),some x'=>
    match P.underlying e with
     |some (.int .u8)=>some (.kF x')
     |_=>none
   |some (.slice e),some .string,some x'=>
    match P.underlying e with
     |some (.int .u8)=>some (.same x')
     |_=>none
   |some (.slice e),some (.slice e'),some x'=>
    match s==d,P.underlying e' with
     |true,some (.int .u8)=>some (.oP x')
     |_,_=>none
   |_,_,_=>none
 | .makeFunc (.func f) a b=>
  match bS ar a.toList,bS ar b.toList with
   |some a',some b'=>some (.iO f a' b')
   |_,_=>none
 | .makeMap _ none=>some .A6
 | .makeSlice t l c=>
  match P.underlying t,ar l,ar c with
   |some (.slice e),some l',some c'=>
    match P.info? e,c_ P e with
     |some i,some z=>some (.np i.size i.bytes z l' c')
     |_,_=>none
   |_,_,_=>none
 | .slice t x lo hi none=>
  match ar x,cw lo,cw hi with
   |some x',some xo,some jZ=>
    match P.underlying t with
     |some .string=>some (.hX x' xo jZ)
     |some (.slice e)=>(fE P e).map fun s=>.nO s x' xo jZ
     |some (.array n e)=>(fE P e).map fun s=>.lK n s x' xo jZ
     |_=>none
   |_,_,_=>none
 | .slice t x none (some hi) (some mx)=>
  match ar x,ar hi,ar mx with
   |some x',some jZ,some OB=>
    match P.underlying t with
     |some (.slice e)=>(fE P e).map fun s=>.clip s x' jZ OB
     |_=>none
   |_,_,_=>none
 | .fieldAddr s x f=>
  match P.underlying s,ar x with
   |some (.struct fs),some x'=>
    match kI P fs f with
     |some (off,n)=>if 0<n then some (.dm off n x')else none
     |none=>none
   |_,_=>none
 | .indexAddr t x i=>
  match ar x,ar i with
   |some x',some i'=>
    match P.underlying t with
     |some (.slice e)=>(fE P e).map fun s=>.bj s x' i'
     |some (.array n e)=>(fE P e).map fun s=>.sb n s x' i'
     |_=>none
   |_,_=>none
 | .index t x i=>
  match ar x,ar i with
   |some x',some i'=>
    match P.underlying t with
     |some .string=>some (.iB x' i')
     |some (.array n e)=>
      match fE P e,oW P e with
       |some s,some g=>if g=true\/s=1 then some (.Hs n s g x' i')else none
       |_,_=>none
     |_=>none
   |_,_=>none
 | .extract x i=>(ar x).map fun x'=>.ext x' i
 | .makeInterface t x=>
  match P.underlying t,ar x with
   |some (.interface _),_=>none
   |some _,some x'=>some (.rL t x')
   |_,_=>none
 | .lookup t m k ok=>
  match P.underlying t,ar m,ar k with
   |some (.map kt e),some m',some k'=>
    match D3 P e,P.underlying kt with
     |some z,some (.int _)=>some (.lookup .int z ok m' k')
     |some z,some .string=>some (.lookup .str z ok m' k')
     |some z,some .bool=>some (.lookup .bool z ok m' k')
     |_,_=>none
   |_,_,_=>none
 | .mapUpdate t m k x=>
  match P.underlying t,ar m,ar k,ar x with
   |some (.map kt _),some m',some k',some x'=>
    match P.underlying kt with
     |some (.int _)=>some (.iP .int m' k' x')
     |some .string=>some (.iP .str m' k' x')
     |some .bool=>some (.iP .bool m' k' x')
     |_=>none
   |_,_,_,_=>none
 | .range t x=>
  match P.underlying t with
   |some (.map _ _)=>(ar x).map (.range true)
   |_=>none
 | .next it s=>if s then none else(ar it).map .fX
 | .entry it=>(ar it).map .entry
 | .call c=>cR P c
 |_=>none
def ez(o:Oper):List Nat:=(o.after.toList.filter (Region.binds .any)).map (·.on)
def eA(ops:List Oper)(o:Oper):Option (Option (Nat×Bool)):=match o.guard with
 |none=>some none
 |some (j,nR)=>
  match(ops[j]? ).bind (·.dst)with
   |some d=>some (some (d,nR))
   |none=>none
def dO(P:Program)(ops:List Oper)(draw:Bool)(o:Oper):Option ab:=match eA ops o with
 |some g=>some {dst:=o.dst,op:=(aV P o.op).getD .bad,guard:=g,after:=if draw then ez o else[]}
 |none=>none
theorem cu{P:Program}{op:Op}{io:jv}(h:(aV P op).getD .bad=io)(hO:io≠ .bad):aV P op=some io:=by cases hc:aV P op<;>grind
def eZ(P:Program)(ops:List Oper)(draw:Bool)(l:List Oper):Option (List ab):=bS (dO P ops draw) l
def aD(P:Program):Code->Option IR
 | .skip=>some .skip
 | .region _ ops draw=>
  match eZ P ops.toList draw ops.toList with
   |some l=>some (if draw then .draw l else .region l)
   |none=>none
 | .scope b=>aD P b
 | .seq (.label _) b=>aD P b
 | .seq a b=>
  match aD P a,aD P b with
   |some a',some b'=>some (.seq a' b')
   |_,_=>none
 | .cond c a b=>
  match ar c,aD P a,aD P b with
   |some c',some a',some b'=>some (.cond c' a' b')
   |_,_,_=>none
 | .block id b=>(aD P b).map (.block id)
 | .loop b=>(aD P b).map .loop
 | .exit id=>some (.exit id)
 | .ret=>some .ret
 | .rangeFunc g ps a b=>(ar g).map fun f=>.cZ f ps.toList a b
 |_=>none
def lM:Code->Bool| .scope _=>false| .seq (.label _) _=>false|_=>true
def mF(P:Program):ResultVar->Option iQ
 | .tmp t=>some (.t t)
 | .cell a t=>
  match fE P t,oW P t with
   |some n,some g=>if g=true\/n=1 then some (.cell a n g)else none
   |_,_=>none
def au(P:Program)(f:FuncId):Option bL:=match P.funcs[f]? with
 |none=>none
 |some fn=>
  match fn.body with
   |none=>none
   |some c=>
    match aD P c,bS (mF P) fn.results.toList with
     |some b,some r=>some {nparams:=fn.params.size+fn.nfree,ntmps:=fn.ntmps,res:=r,body:=b}
     |_,_=>none
end Fw
/-
  Each operation that calls nothing, carried out in the model: what the abstract machine says of it.
-/
namespace Fw
open Go
variable {w:World}{v:Value}{u:V}
def A'(g g':G)(ns:Nat):Prop:=∀b,g'.cd b->g.cd b\/b=ns
def Good(P:Program)(a:Act)(o:Oper)(g:G)(w:World)(ns:Nat)(v:V)(H':an):Prop:=∃g' w' nx,(execOp a.eval o).run P w=.ok nx w'/\((∃x,nx=.value x/\RV g' w' v x)\/(nx=.skip/\v=.any))/\aw g' w' H'/\bu g w g' w'/\A' g g' ns
def Ev(ρ:aU->V)(a:Act)(g:G)(w:World):Prop:=∀x y,ar x=some y->RV g w (ρ y) (a.eval x)
theorem bQ{α β:Type}{f:α->Option β}:∀{l:List α}{l':List β},bS f l=some l'->l.length=l'.length
 |[],l',h=>by grind[bS]
 |x::xs,l',h=>by
  simp only[bS]at h;split at h
  ·cases h
  ·split at h
   ·cases h
   ·rename_i ys D4;simp at h;subst h;simp[bQ D4]
theorem gU{α β:Type}{f:α->Option β}:∀{l:List α}{l':List β}(i:Nat)(x:α),bS f l=some l'->l[i]? =some x->∃y,l'[i]? =some y/\f x=some y
 |[],l',i,x,h,hx=>by simp at hx
 |z::xs,l',i,x,h,hx=>by
  simp only[bS]at h;split at h
  ·cases h
  ·rename_i y hy;split at h
   ·cases h
   ·rename_i ys D4;simp at h;subst h;cases i with
     |zero=>grind
     |succ i=>simp at hx⊢;exact gU i x D4 hx
theorem D5{g:G}(h:Hw v=some u):RV g w u v:=by unfold Hw at h;grind[Option.some.injEq,reduceCtorEq,RV,Rd]
theorem KW(h:Hw v=some u):eL u=true:=by unfold Hw at h;split at h<;>simp only[aar,reduceCtorEq]at h<;>subst h<;>rfl
theorem iU{g:G}{w:World}:∀{l:List Value}{us:List V},bS Hw l=some us->aN g w us l/\us.all eL=true
 |[],us,h=>by grind[bS,aN]
 |x::xs,us,h=>by
  simp only[bS]at h;split at h
  ·cases h
  ·rename_i y hy;split at h
   ·cases h
   ·rename_i ys D4;simp at h;subst h;have ih:=iU (g:=g) (w:=w) D4;refine⟨by simp only[aN];exact⟨D5 hy,ih.1⟩,by simp[KW hy];grind⟩
theorem D6{g:G}(h:TY v=some u):RV g w u v:=by
 unfold TY at h;split at h
 ·rename_i cs;cases hm:bS Hw cs.toList with
   |none=>grind
   |some us=>simp[hm]at h;subst h;simp only[RV];exact⟨cs,rfl,(iU hm).1⟩
 ·exact D5 h
theorem R.ev{GL:bM}{g:G}{a:Act}{σ:St}(h:R GL g w a σ):Ev (aT GL σ.tm) a g w:=by
 intro x y N2;cases x with
  |tmp t=>simp[ar]at N2;subst N2;exact h.tmps t
  |const v=>simp only[ar,aaA]at N2;obtain⟨u,hu,rfl⟩:=N2;exact D6 hu
  |global n=>
   simp[ar]at N2;subst N2;simp only[aT,Act.eval];cases hn:GL.rd n with
    |none=>simp only[RV]
    |some cs=>simp;exact⟨n,0,rfl,fun _=>(h.cD.rd n cs hn).1,(h.cD.rd n cs hn).2⟩
  |func f=>grind[ar,aT,Act.eval,RV,aN]
theorem Good.val{P:Program}{a:Act}{o:Oper}{g:G}{ns:Nat}{v:V}{H:an}{x:Value}(hh:aw g w H)(hr:(execOp a.eval o).run P w=.ok (.value x) w)(hv:RV g w v x):Good P a o g w ns v H:=⟨g,w,_,hr,.inl ⟨x,rfl,hv⟩,hh,bu.refl _ _,fun _ h=>.inl h⟩
section
variable {P:Program}{a:Act}{o:Oper}{g:G}{w:World}{ρ:aU->V}{H:an}{ns:Nat}
variable {t:TypeId}{cs:List V}{n:Nat}{v:Value}{b:Bool}{y:aU}{u:V}{ps:Array (Nat×Operand)}{qs:List (Nat×Nat×aU)}
theorem RV.bool(h:RV g w (.d (.bool b)) v):v=.bool b:=by grind[RV,Rd]
theorem RV.int{k:IntKind}{n:Int}(h:RV g w (.d (.int k n)) v):v=.int k n:=by grind[RV,Rd]
theorem RV.A_(b:Bool):RV g w (.d (.bool b)) (.bool b):=by grind[RV,Rd]
theorem RV.zp(k:IntKind)(n:Int):RV g w (.d (.int k n)) (.int k n):=by grind[RV,Rd]
theorem RV.str{l:List UInt8}(h:RV g w (.d (.str l)) v):∃s:ByteArray,v=.string s/\s.data.toList=l:=by grind[RV,Rd]
theorem RV.UO(s:ByteArray):RV g w (.d (.str s.data.toList)) (.string s):=by grind[RV,Rd]
theorem OD{x:Operand}(ho:o.op=.move x\/o.op=.assign x)(hx:ar x=some y)(ev:Ev ρ a g w)(hh:aw g w H):Good P a o g w ns (ρ y) H:=by refine Good.val (x:=a.eval x) hh ?_ (ev _ _ hx);rcases ho with ho|ho<;>simp[execOp,ho]
theorem KX{c x y:Operand}{c' x' y':aU}(ho:o.op=.pick c x y)(hc:ar c=some c')(hx:ar x=some x')(hy:ar y=some y')(hb:ρ c'=.d (.bool b))(ev:Ev ρ a g w)(hh:aw g w H):Good P a o g w ns (bif b then ρ x' else ρ y') H:=by
 have h1:=ev _ _ hc;rw[hb]at h1;have h2:=RV.bool h1;cases b with
  |true=>exact Good.val (x:=a.eval x) hh (by simp_all[execOp,asBool]) (ev _ _ hx)
  |false=>exact Good.val (x:=a.eval y) hh (by simp_all[execOp,asBool]) (ev _ _ hy)
theorem se{c:Array Value}(e:TypeId)(j2:cs.all eL=true)(hv:aN g w cs c.toList)(hh:aw g w H)(fD:f_ g ns)(n:Nat)(hn:n=cs.length):let g':=g.add ns (.cells w.heap.size n n);let w':=w.alloc (.cells c e);aw g' w' (aR H ns (.cells cs))/\bu g w g' w'/\g'.cd ns/\g'.γ ns=some (.cells w.heap.size n n):=by subst hn;have he:=bu.new hh fD (.cells c e) (.cells w.heap.size cs.length cs.length) rfl;refine⟨aw.new hh fD _ _ _ rfl ?_,he,.inr rfl,by simp[G.add]⟩;have hl:=hv.length;simp only[RB];refine⟨trivial,j2,aaC _,c,e,bc _ _,by grind,?_ ⟩;rw[List.take_of_length_le (by grind)];exact aN.ext he _ _ hv
theorem RV.D7{g':G}{w':World}{b aM:Nat}(h1:g'.cd b)(h2:g'.γ b=some (.cells aM n n)):RV g' w' (.ptr b n 0) (.pointer (some ⟨aM,0,none⟩)):=by grind[RV,Option.some.injEq]
theorem run_typeInfo{i:TypeInfo}(h:P.info? t=some i)(w:World):(typeInfo t).run P w=.ok i w:=by simp[typeInfo,h]
theorem oY{i:TypeInfo}{z:Value}(h:P.info? t=some i)(hz:i.zero=some z)(w:World):(zeroValue t).run P w=.ok z w:=by simp[zeroValue,run_typeInfo h,hz]
theorem ck(h:fE P t=some n)(w:World):(Go.sizeOf t).run P w=.ok n w:=by simp only[fE,aaA]at h;obtain⟨i,hi,rfl⟩:=h;simp[Go.sizeOf,run_typeInfo hi]
theorem rM(h:oW P t=some b)(w:World):(isAgg t).run P w=.ok b w:=by simp only[oW,aaA]at h;obtain⟨d,hd,rfl⟩:=h;cases d<;>simp[isAgg,run_underlying hd]
theorem Hx{z:List V}(ho:o.op=.alloc t)(hz:c_ P t=some z)(hh:aw g w H)(fD:f_ g ns):Good P a o g w ns (.ptr ns z.length 0) (aR H ns (.cells z)):=by simp only[c_,aa9]at hz;obtain⟨zv,⟨i,hi,xp⟩,hm⟩:=hz;obtain⟨hv,j2⟩:=iU (g:=g) (w:=w) hm;obtain⟨h1,h2,h3,h4⟩:=se t j2 hv hh fD _ rfl;refine⟨_,_,.value (.pointer (some ⟨w.heap.size,0,none⟩)),?_,.inl ⟨_,rfl,RV.D7 h3 h4⟩,h1,h2,fun _ h=>h⟩;simp[execOp,ho,Instr.alloc,oY hi xp,newVar,newRow]
theorem qe(hu:(bU u).all eL=true)(h:RV g w u v):aN g w (bU u) v.cells.toList:=by
 cases u with
  |agg cs=>grind[RV,bU,Value.cells]
  |any=>grind[bU,eL]
  |tuple=>grind[bU,eL]
  |_=>
   simp only[bU]at hu⊢;have h1:=RV.one (by grind) h;have h2:v.cells= #[v]:=by cases v<;>first|rfl|grind[Value.oneCell']
   simp_all[aN]
theorem OE{x:Operand}(ho:o.op=.box t x)(hx:ar x=some y)(j2:(bU (ρ y)).all eL=true)(ev:Ev ρ a g w)(hh:aw g w H)(fD:f_ g ns):Good P a o g w ns (.ptr ns (bU (ρ y)).length 0) (aR H ns (.cells (bU (ρ y)))):=by obtain⟨h1,h2,h3,h4⟩:=se t j2 (qe j2 (ev _ _ hx)) hh fD _ rfl;refine⟨_,_,.value (.pointer (some ⟨w.heap.size,0,none⟩)),?_,.inl ⟨_,rfl,RV.D7 h3 h4⟩,h1,h2,fun _ h=>h⟩;simp[execOp,ho,Instr.box,newVar,newRow]
theorem vO:∀{cs:List V}{vs:List Value}(off:Nat){us:List V}{xs:List Value},aN g w cs vs->aN g w us xs->∀(c:Array Value),c.toList=vs->aN g w (putCells cs off us) ((xs.zipIdx).foldl (fun(ds:Array Value)(p:Value×Nat)=>ds.setIfInBounds (off+p.2) p.1) c).toList:=by
 suffices h:∀(us:List V)(xs:List Value)(k off:Nat)(cs:List V)(c:Array Value),aN g w cs c.toList->aN g w us xs->aN g w (putCells cs (off+k) us) ((xs.zipIdx k).foldl (fun(ds:Array Value)(p:Value×Nat)=>ds.setIfInBounds (off+p.2) p.1) c).toList by intro cs vs off us xs h1 h2 c hc;subst hc;exact h us xs 0 off cs c h1 h2
 intro us;induction us with
  |nil=>
   intro xs k off cs c h1 h2;cases xs with
    |nil=>simp_all[putCells]
    |cons=>grind[aN]
  |cons u us ih=>
   intro xs k off cs c h1 h2;cases xs with
    |nil=>grind[aN]
    |cons x xs=>simp only[aN]at h2;simp only[putCells,List.zipIdx_cons,abw];have:=ih xs (k+1) off (cs.set (off+k) u) (c.setIfInBounds (off+k) x) (by simpa using aN.set _ h1 h2.1) h2.2;grind
theorem e8(l:List V)(i:Nat)(vs:List V):(putCells l i vs).length=l.length:=by induction vs generalizing l i<;>grind[putCells]
theorem qP{l:List V}{i:Nat}{vs:List V}(h:l.all eL=true)(hv:vs.all eL=true):(putCells l i vs).all eL=true:=by
 induction vs generalizing l i with
  |nil=>exact h
  |cons v vs ih=>simp only[aaL,aas]at hv;refine ih ?_ hv.2;grind
theorem vQ{place:Nat->Option (Nat×Nat)}(ev:Ev ρ a g w):∀{ps:List (Nat×Operand)}{qs:List (Nat×Nat×aU)}{cs sf:List V}{c:Array Value},dx place ps=some qs->fg ρ cs qs=some sf->cs.all eL=true->aN g w cs c.toList->∃c',Instr.fill place c (ps.map fun p=>(p.1,a.eval p.2))=some c'/\aN g w sf c'.toList/\sf.all eL=true
 |[],qs,cs,sf,c,h1,h2,h3,h4=>by simp only[dx,aar]at h1;subst h1;simp only[fg,aar]at h2;subst h2;exact⟨c,rfl,h4,h3⟩
 |(i,x)::ps,qs,cs,sf,c,h1,h2,h3,h4=>by
  simp only[dx]at h1;split at h1
  ·cases h1
  ·rename_i off size hp;split at h1
   ·cases h1
   ·rename_i y hy;split at h1
    ·cases h1
    ·rename_i qs' Hy;simp at h1;subst h1;simp only[fg]at h2;cases hc:(Nat.beq (bU (ρ y)).length size&&Nat.ble (off+size) cs.length&&(bU (ρ y)).all eL)with
      |false=>grind
      |true=>
       rw[hc]at h2;simp at h2;simp only[aas]at hc;have hv:=qe hc.2 (ev _ _ hy);have hl:=hv.length;have hl4:=h4.length;have e1:(bU (ρ y)).length=size:=aau hc.1.1;have e2:off+size<=cs.length:=aax hc.1.2;have key:=vO off h4 hv c rfl;obtain⟨c',q1,q2,q3⟩:=vQ ev Hy h2 (qP h3 hc.2) key;refine⟨c',?_,q2,q3⟩;simp only[aaB,Instr.fill,hp];have e3:(a.eval x).cells.size=size:=by grind
       have e4:¬((decide ((a.eval x).cells.size≠size)||decide (off+(a.eval x).cells.size>c.size))=true):=by grind
       grind[Array.toList_zipIdx]
theorem Ba{z:List V}{place:Nat->Option (Nat×Nat)}(ho:o.op=.build t ps)(hz:c_ P t=some z)(hb:∀(i:TypeInfo)(zv:Value)(parts:List (Nat×Value)),P.info? t=some i->i.zero=some zv->P.built t parts=Instr.fill place zv.cells parts)(hq:dx place ps.toList=some qs)(hf:fg ρ z qs=some cs)(ev:Ev ρ a g w)(hh:aw g w H):Good P a o g w ns (.agg cs) H:=by simp only[c_,aa9]at hz;obtain⟨zv,⟨i,hi,xp⟩,hm⟩:=hz;obtain⟨hv,j2⟩:=iU (g:=g) (w:=w) hm;obtain⟨c',h1,h2,h3⟩:=vQ ev hq hf j2 hv;have hbt:=hb i zv (ps.map fun p=>(p.1,a.eval p.2)).toList hi xp;rw[Array.toList_map,h1]at hbt;refine Good.val (x:=.agg c') hh ?_ (by grind[RV]);have hr:=run_build (P:=P) w t (ps.map fun p=>(p.1,a.eval p.2)) c' (by simp_all);simp[execOp,ho,hr]
theorem sg(z:Array Value)(hz:0<z.size)(n:Nat):∀i,((Array.range n).map (z[·%z.size]! )).toList[i]? =if i<n then z[i%z.size]? else none:=by intro i;have hm:=ab1 i hz;grind
theorem aN.eM:∀{us:List V}{vs:List Value},us.length=vs.length->(∀(i:Nat)(u:V)(v:Value),us[i]? =some u->vs[i]? =some v->RV g w u v)->aN g w us vs
 |[],[],_,_=>by simp only[aN]
 |u::us,v::vs,hl,h=>by simp only[aN];exact⟨h 0 u v rfl rfl,aN.eM (by grind) (fun i x y hx hy=>h (i+1) x y (by grind) (by grind))⟩
 |[],_::_,hl,_=>by simp at hl
 |_::_,[],hl,_=>by simp at hl
theorem lN{e:TypeId}{len s:Nat}{z:List V}(ho:o.op=.buildSlice t len ps)(hu:P.underlying t=some (.slice e))(hs:fE P e=some s)(hz:c_ P e=some z)(h1:len*s<=2^24)(h2:z.length=s)(h3:0<s)(hq:dx (fun i=>some (i*s,s)) ps.toList=some qs)(hf:fg ρ ((List.range (len*s)).map fun i=>z.getD (i%s) .any) qs=some cs)(ev:Ev ρ a g w):∃c':Array Value,aN g w cs c'.toList/\cs.all eL=true/\cs.length=len*s/\(execOp a.eval o).run P w=.ok (.value (.slice (some ⟨w.heap.size,0,none⟩) len len)) (w.alloc (.cells c' e)):=by
 simp only[c_,aa9]at hz;obtain⟨zv,⟨i,hi,xp⟩,hm⟩:=hz;obtain⟨hv,j2⟩:=iU (g:=g) (w:=w) hm;have Zi:=hv.length;have cH:0<zv.cells.size:=by grind
 have hze:zv.cells.size=s:=by grind
 have UP:((List.range (len*s)).map fun i=>z.getD (i%s) .any).all eL=true:=by simp only[aaJ,aba,aa'];rintro x ⟨j,_,rfl⟩;have:=ab1 j h3;grind
 have fV:aN g w ((List.range (len*s)).map fun i=>z.getD (i%s) .any) ((Array.range (len*s)).map (zv.cells[·%zv.cells.size]! )).toList:=by
  refine aN.eM (by simp) fun j u v hu xq=>?_
  rw[sg _ cH]at xq;by_cases hj:j<len*s
  ·simp at xq;simp[hj]at hu;subst hu;have TZ:=ab1 j h3;rw[hze]at xq;have hg:z[j%s]? =some (z[j%s]'(by omega)):=aay _;rw[hg,abl];obtain⟨v',h5,h6⟩:=aN.get (j%s) hv hg;grind
  grind
 obtain⟨c',h5,h6,h7⟩:=vQ ev hq hf UP fV;have ky:cs.length=len*s:=by
  have Jz:∀(cs:List V)(qs:List (Nat×Nat×aU))(sf:List V),fg ρ cs qs=some sf->sf.length=cs.length:=by intro cs qs;induction qs generalizing cs<;>grind[fg,e8]
  grind
 refine⟨c',h6,h7,ky,?_⟩
 ·by_cases h0:len*s=0
  ·have h5':Instr.fill (fun i=>some (i*s,s)) ((Array.range (len*s)).map ((#[]:Array Value)[·%(#[]:Array Value).size]! )) (ps.toList.map fun p=>(p.1,a.eval p.2))=some c':=by grind
   simp[execOp,ho,Instr.buildSlice,run_underlying hu,ck hs,h0];simp_all[newRow]
  ·simp[execOp,ho,Instr.buildSlice,run_underlying hu,ck hs,h0,Nat.not_lt.2 h1,oY hi xp,h5,newRow]
theorem Cq{e:TypeId}{len s:Nat}{z:List V}(ho:o.op=.buildSlice t len ps)(hu:P.underlying t=some (.slice e))(hs:fE P e=some s)(hz:c_ P e=some z)(h1:len*s<=2^24)(h2:z.length=s)(h3:0<s)(hq:dx (fun i=>some (i*s,s)) ps.toList=some qs)(hf:fg ρ ((List.range (len*s)).map fun i=>z.getD (i%s) .any) qs=some cs)(ev:Ev ρ a g w)(hh:aw g w H)(fD:f_ g ns):Good P a o g w ns (.sl ns cs.length 0 len s) (aR H ns (.cells cs))/\cs.length=len*s:=by obtain⟨c',h6,h7,ky,dT⟩:=lN ho hu hs hz h1 h2 h3 hq hf ev;refine⟨?_,ky⟩;obtain⟨k1,k2,k3,k4⟩:=se e h7 h6 hh fD _ rfl;refine⟨_,_,.value (.slice (some ⟨w.heap.size,0,none⟩) len len),dT,.inl ⟨_,rfl,?_⟩,k1,k2,fun _ h=>h⟩;simp only[RV];refine⟨⟨rfl,k3⟩,fun x hx=>?_ ⟩;grind
theorem xr(h:jw H n u=some cs)(hv:RV g w u v)(hh:aw g w H):∃aM off vs,v=.pointer (some ⟨aM,off,none⟩)/\vs.length=n/\aN g w cs vs/\∀j x,vs[j]? =some x->w.cell? ⟨aM,off+j,none⟩=some x:=by
 cases u with
  |ptr b hb off=>
   simp only[jw]at h;cases hg:aC H b with
    |none=>grind
    |some y=>
     cases y with
      |cells sf=>
       simp only[hg]at h;cases hc:(Nat.beq sf.length hb&&Nat.ble (off+n) hb)with
        |false=>grind
        |true=>rw[hc]at h;simp at h;simp only[aas]at hc;have e1:=aau hc.1;have e2:=aax hc.2;obtain⟨x,hx⟩:=hh.back b _ hg;obtain⟨_,y',xt,hr⟩:=hh.live b x hx;rw[hg]at xt;simp at xt;subst xt;simp only[RV]at hv;obtain⟨aM,cp,cur,rfl,h1,h2⟩:=hv.2 x hx;simp only[RB]at hr;obtain⟨r1,r2,r3,c,e,r4,r5,r6⟩:=hr;subst h;refine⟨aM,off,((c.toList.take sf.length).drop off).take n,h1 (by omega),?_,(r6.drop off).take n,fun j x hj=>?_ ⟩;all_goals grind[World.cell?]
      |_=>grind
  |aO ds=>
   simp only[jw]at h;cases hc:Nat.ble n ds.length with
    |false=>grind
    |true=>rw[hc]at h;simp only[aaw,aar]at h;have e1:=aax hc;simp only[RV]at hv;obtain⟨aM,off,rfl,_,h3⟩:=hv;obtain⟨vs,h4,h5⟩:=cP.KP h3;subst h;have hl:=h4.length;simp at hl;refine⟨aM,off,vs.take n,rfl,by simp;omega,by rw[acz];exact h4.take n,fun j x hj=>?_ ⟩;grind
  |_=>simp[jw]at h
theorem Addr.fF(aM off j:Nat):(⟨aM,off,none⟩:Addr).add j=⟨aM,off+j,none⟩:=by unfold Addr.add;grind
theorem zF{v:V}{vs:List Value}(h:A7 b cs=some v)(hv:aN g w cs vs):RV g w v (if b then .agg vs.toArray else vs.headD undef)/\(b=false->vs.length=1):=by
 cases b with
  |true=>simp[A7]at h;subst h;simp_all[RV]
  |false=>
   simp only[A7,aaM]at h;split at h
   ·simp at h;subst h;cases vs<;>grind[aN]
   ·cases h
theorem lO{aM off:Nat}{vs:List Value}(hn:fE P t=some n)(hb:oW P t=some b)(hl:vs.length=n)(h1:b=false->vs.length=1)(hc:∀j x,vs[j]? =some x->w.cell? ⟨aM,off+j,none⟩=some x):(loadVar t ⟨aM,off,none⟩).run P w=.ok (if b then .agg vs.toArray else vs.headD undef) w:=by
 cases b with
  |true=>have:=run_loadCells_list (P:=P) w ⟨aM,off,none⟩ vs (fun j x hj=>by grind[Addr.fF]);subst hl;simp[loadVar,rM hb,ck hn,this]
  |false=>
   have UQ:=h1 rfl;obtain⟨x,rfl⟩:∃x,vs=[x]:=by match vs,UQ with|[x],_=>grind
   have:=hc 0 x rfl;simp at this;simp[loadVar,rM hb,this]
theorem KY{x:Operand}{v:V}(ho:o.op=.load t x)(hn:fE P t=some n)(hb:oW P t=some b)(hx:ar x=some y)(h1:jw H n (ρ y)=some cs)(h2:A7 b cs=some v)(ev:Ev ρ a g w)(hh:aw g w H):Good P a o g w ns v H:=by obtain⟨aM,off,vs,e1,e2,e3,e4⟩:=xr h1 (ev _ _ hx) hh;obtain⟨h3,h4⟩:=zF h2 e3;refine Good.val hh ?_ h3;simp[execOp,ho,e1,Instr.loadAt,Instr.sureAddr,lO hn hb e2 h4 e4]
theorem jy:∀(us cs:List Value)(off:Nat),off+us.length<=cs.length->putCells cs off us=cs.take off++us++cs.drop (off+us.length)
 |[],cs,off,_=>by simp[putCells]
 |u::us,cs,off,h=>by simp at h;simp only[putCells];rw[jy us (cs.set off u) (off+1) (by simp;omega)];apply acA;intro i;simp;grind
theorem ua(cs us:List Value)(off k:Nat)(h:off+us.length<=k):(putCells cs off us).take k=putCells (cs.take k) off us:=by induction us generalizing cs off<;>grind[List.length_cons,putCells,List.take_set]
theorem nq:∀{us:List V}{xs:List Value}{cs:List V}{vs:List Value}(off:Nat),aN g w cs vs->aN g w us xs->aN g w (putCells cs off us) (putCells vs off xs)
 |[],[],_,_,_,h,_=>h
 |u::us,x::xs,cs,vs,off,h,h2=>by simp only[aN]at h2;simp only[putCells];exact nq (off+1) (h.set off h2.1) h2.2
 |[],_::_,_,_,_,_,h=>by grind[aN]
 |_::_,[],_,_,_,_,h=>by grind[aN]
theorem Cr{x:V}{y:Value}{p:Nat×bR}(h:eg H n u x=some p)(hv:RV g w u v)(hx:RV g w x y)(hh:aw g w H):∃aM off w',v=.pointer (some ⟨aM,off,none⟩)/\y.cells.size=n/\(storeCells ⟨aM,off,none⟩ y.cells.toList).run P w=.ok () w'/\aw g w' (bp H (some p))/\bu g w g w':=by
 cases u with
  |ptr b hb off=>
   simp only[eg]at h;cases hg:aC H b with
    |none=>grind
    |some yb=>
     cases yb with
      |cells cs=>
       simp only[hg]at h;cases hc:(Nat.beq cs.length hb&&Nat.ble (off+n) hb&&Nat.beq (bU x).length n&&(bU x).all eL)with
        |false=>grind
        |true=>
         rw[hc]at h;simp at h;simp only[aas]at hc;have e1:=aau hc.1.1.1;have e2:=aax hc.1.1.2;have e3:=aau hc.1.2;obtain⟨z,hz⟩:=hh.back b _ hg;obtain⟨_,y',xt,hr⟩:=hh.live b z hz;rw[hg]at xt;simp at xt;subst xt;simp only[RV]at hv;obtain⟨aM,cp,cur,rfl,h1,h2⟩:=hv.2 z hz;simp only[RB]at hr;obtain⟨r1,r2,r3,c,e,r4,r5,r6⟩:=hr;have D8:=qe hc.2 hx;have KZ:=D8.length;have D4:y.cells.size=n:=by grind
         have tZ:=run_storeCells_at P aM off e y.cells.toList 0 c w r4 (by simp;omega) (aN.one hc.2 D8);simp only[abX]at tZ;rw[←jy _ _ _ (by simp;omega)]at tZ;have hw:∀j,j≠aM->(w.setRow aM (putCells c.toList off y.cells.toList).toArray).heap[j]? =w.heap[j]? :=fun j hj=>setRow_other w aM j _ hj
         have he:bu g w g (w.setRow aM (putCells c.toList off y.cells.toList).toArray):=bu.write hz rfl (hh.qO hz rfl) rfl rfl rfl (by simp) hw;refine⟨aM,off,_,h1 (by omega),D4,tZ,?_,he⟩;subst h;refine aw.write hh _ hz rfl he hw ?_;simp only[RB];have vR:∀(l:List Value)(i:Nat)(vs:List Value),(putCells l i vs).length=l.length:=by intro l i vs;induction vs generalizing l i<;>grind[putCells]
         refine⟨by grind[e8],qP r2 hc.2,by grind[e8],_,e,setRow_heap w aM c _ e _ r4,by grind,?_ ⟩;rw[e8,List.toList_toArray,ua _ _ _ _ (by simp;omega)];exact nq off (aN.ext he _ _ r6) (aN.ext he _ _ D8)
      |_=>grind
  |_=>simp[eg]at h
theorem Hz{x y:Operand}{x' y':aU}{p:Nat×bR}(ho:o.op=.store t x y)(hn:fE P t=some n)(hx:ar x=some x')(hy:ar y=some y')(h1:eg H n (ρ x') (ρ y')=some p)(ev:Ev ρ a g w)(hh:aw g w H):Good P a o g w ns .any (bp H (some p)):=by obtain⟨aM,off,w',e1,e2,e3,e4,e5⟩:=Cr (P:=P) h1 (ev _ _ hx) (ev _ _ hy) hh;refine⟨g,w',.skip,?_,.inr ⟨rfl,rfl⟩,e4,e5,fun _ h=>.inl h⟩;simp[execOp,ho,e1,Instr.storeAt,Instr.sureAddr,storeVar,ck hn,e2,e3]
end
end Fw
/-
  Operations, further: arithmetic, tests, strings, slices, fields, indexes.
-/
namespace Fw
open Go
section
variable {P:Program}{a:Act}{o:Oper}{g:G}{w:World}{ρ:aU->V}{H:an}{ns:Nat}
variable {t yt:TypeId}{op:BinOp}{x':aU}{v:V}{d:D}{n:Nat}{y:Operand}
theorem D9{x:Operand}{y:aU}(ho:o.op=.nilCheck x)(hx:ar x=some y)(h:bt ρ H ns (.kE y)=some (v,none))(ev:Ev ρ a g w)(hh:aw g w H):Good P a o g w ns v H:=by
 have hv:=ev _ _ hx;simp only[bt]at h;split at h<;>simp only[aar,aav,reduceCtorEq]at h
 ·rename_i b hb off e;obtain⟨rfl,_⟩:=h;rw[e]at hv;have fV:=hv;simp only[RV]at fV;obtain⟨⟨⟨aM,q,e2⟩,_⟩,_⟩:=fV;exact Good.val (x:=a.eval x) hh (by simp[execOp,ho,e2]) hv
 ·rename_i cs e;obtain⟨rfl,_⟩:=h;rw[e]at hv;have fV:=hv;simp only[RV]at fV;obtain⟨aM,q,e2,_⟩:=fV;exact Good.val (x:=a.eval x) hh (by simp[execOp,ho,e2]) hv
 ·rename_i f p q e;obtain⟨rfl,_⟩:=h;rw[e]at hv;have fV:=hv;simp only[RV]at fV;obtain⟨p',q',e2,_⟩:=fV;exact Good.val (x:=a.eval x) hh (by simp[execOp,ho,e2]) hv
theorem bytesLess_eq:∀(x y:List UInt8),Fw.bytesLess x y=Op.bytesLess x y
 |x,[]=>by cases x<;>rfl
 |[],_::_=>rfl
 |p::x,q::y=>by
  simp only[Fw.bytesLess,Op.bytesLess,bytesLess_eq x y];by_cases h1:p.toNat<q.toNat
  ·grind[Nat.blt_eq,UInt8.lt_iff_toNat_lt]
  ·have e1:Nat.blt p.toNat q.toNat=false:=by grind[Nat.blt_eq]
   have:decide (p<q)=false:=by grind[UInt8.lt_iff_toNat_lt]
   rw[e1,this];simp;by_cases h2:p=q
   ·simp_all
   ·have:Nat.beq p.toNat q.toNat=false:=dr (fun e=>h2 (ab8.1 e));grind
theorem cL:∀(x y:List UInt8),Fw.ah x y=(x==y)
 |[],[]=>rfl
 |[],_::_=>rfl
 |_::_,[]=>rfl
 |p::x,q::y=>by
  simp only[Fw.ah,cL x y];by_cases h2:p=q
  ·simp_all
  ·have:Nat.beq p.toNat q.toNat=false:=dr (fun e=>h2 (ab8.1 e));grind
theorem cr(x y:List UInt8):Fw.ah x y=decide (x=y):=by grind[cL]
theorem hZ{x y:Value}{r:Result Bool}(h:∀d,(Op.equalIn (d+1) t x y).run P w=r):(Op.equal t x y).run P w=r:=h 9999
theorem Bb{s t:ByteArray}(h:zD op s.data.toList t.data.toList=some d):∃v,(Op.stringOp op s t).run P w=.ok v w/\RV g w (.d d) v:=by
 unfold zD at h;split at h
 ·split at h
  ·rename_i hl;simp at h;subst h;have Hl:s.size+t.size<=2^62:=by simp_all[iS]
   refine⟨.string (s++t),?_,?_⟩
   ·have:¬(((s.size+t.size:Nat):Int)>IntKind.i64.max):=by
     have e:IntKind.i64.max=9223372036854775807:=by decide
     grind
    simp_all[Op.stringOp]
   ·have:s.data.toList++t.data.toList=(s++t).data.toList:=by simp_all
    rw[this];exact RV.UO _
  ·cases h
 all_goals (simp only[aar,reduceCtorEq]at h<;>subst h)
 all_goals simp_all[Op.stringOp,Lib.toList_data,cL,bytesLess_eq,RV,Rd]
theorem HA{s t:ByteArray}{m:Nat}(hs:s.data.toList.length<=n)(ht:t.data.toList.length<=m)(h:oS op n m=some d):op=.add/\∃v,(Op.stringOp op s t).run P w=.ok v w/\RV g w (.d d) v:=by
 unfold oS at h;split at h
 ·cases hb:Nat.ble (n+m) iS with
   |false=>rw[hb]at h;cases h
   |true=>rw[hb]at h;simp only[aaw,aar]at h;subst h;have hl:=aax hb;obtain⟨v,h1,h2⟩:=Bb (P:=P) (g:=g) (w:=w) (op:=.add) (s:=s) (t:=t) (d:=.str (s.data.toList++t.data.toList)) (by unfold zD;exact aaF (by omega));refine⟨rfl,v,h1,?_⟩;obtain⟨r,rfl,hr⟩:=RV.str h2;simp only[RV,Rd];exact⟨r,rfl,by rw[hr,aao];omega⟩
 ·cases h
theorem RV.OF{a:List UInt8}{v:Value}(h:RV g w (.d (.str a)) v):∃s:ByteArray,v=.string s/\s.data.toList.length<=a.length:=by simp only[RV,Rd]at h;obtain⟨s,k1,k2⟩:=h;exact⟨s,k1,Nat.le_of_eq (ace List.length k2)⟩
theorem RV.HB{v:Value}(h:RV g w (.d (.sN n)) v):∃s:ByteArray,v=.string s/\s.data.toList.length<=n:=by simp only[RV,Rd]at h;exact h
theorem zG{x:Operand}{m:Nat}(ho:o.op=.binOp op t x y yt)(h1:∃s:ByteArray,a.eval x=.string s/\s.data.toList.length<=n)(h2:∃s:ByteArray,a.eval y=.string s/\s.data.toList.length<=m)(hd:oS op n m=some d)(hh:aw g w H):Good P a o g w ns (.d d) H:=by
 obtain⟨s1,f1,b1⟩:=h1;obtain⟨s2,f2,b2⟩:=h2;obtain⟨rfl,r,hr,Bc⟩:=HA (P:=P) (g:=g) (w:=w) b1 b2 hd;have hg:(eqGuard .add t x y (a.eval x) (a.eval y)).run P w=.ok () w:=by rw[f1,f2];unfold eqGuard;simp_all
 refine Good.val hh ?_ Bc;have hb:(binOp .add t (.string s1) (.string s2)).run P w=.ok r w:=by rw[←hr];rfl
 grind[execOp,Sem.run_bind,Result.andThen_ok,Sem.run_pure]
theorem OG{x:Operand}{y':aU}(ho:o.op=.binOp op t x y yt)(hx:ar x=some x')(hy:ar y=some y')(h:lL op (ρ x') (ρ y')=some v)(ev:Ev ρ a g w)(hh:aw g w H):Good P a o g w ns v H:=by
 have cY:=ev _ _ hx;have e9:=ev _ _ hy;unfold lL at h;split at h
 ·rename_i k n k' m e1 e2;split at h
  ·rename_i hk;subst hk;simp at h;obtain⟨d,hd,rfl⟩:=h;rw[e1]at cY;rw[e2]at e9;have f1:=RV.int cY;have f2:=RV.int e9;have hg:(eqGuard op t x y (a.eval x) (a.eval y)).run P w=.ok () w:=by rw[f1,f2];unfold eqGuard;simp_all
   unfold vI at hd;split at hd;case h_4=>
    split at hd
    ·cases hd
    ·rename_i hz;simp at hd;subst hd;exact Good.val hh (by simp_all[execOp,Result.andThen_ok,binOp,Op.intDiv]) (RV.zp _ _)
   case h_5=>
    split at hd
    ·cases hd
    ·rename_i hz;simp at hd;subst hd;exact Good.val hh (by simp_all[execOp,Result.andThen_ok,binOp,Op.intDiv]) (RV.zp _ _)
   case h_6=>
    simp only[aar]at hd;subst hd;have hi:(Op.intBits BinOp.and k n m).run P w=.ok (.int k (k.wrap (BitVec.ofInt k.bits n&&&BitVec.ofInt k.bits m).toNat)) w:=by unfold Op.intBits;simp_all
    have hb:(binOp BinOp.and t (.int k n) (.int k m)).run P w=.ok (.int k (k.wrap (BitVec.ofInt k.bits n&&&BitVec.ofInt k.bits m).toNat)) w:=by grind[binOp]
    refine Good.val hh ?_ (RV.zp _ _);grind[execOp,Sem.run_bind,Result.andThen_ok,Sem.run_pure]
   all_goals (simp only[aar,reduceCtorEq]at hd<;>subst hd)
   all_goals first
    |exact Good.val hh (by simp only[execOp,ho,Sem.run_bind,hg,Result.andThen_ok];simp only[f1,f2,binOp];simp[Op.intArith]) (RV.zp _ _)
    |exact Good.val hh (by simp_all[execOp,Result.andThen_ok,binOp,Op.intCmp]) (RV.A_ _)
  ·cases h
 ·rename_i s t' e1 e2;simp at h;obtain⟨d,hd,rfl⟩:=h;rw[e1]at cY;rw[e2]at e9;obtain⟨s1,f1,rfl⟩:=RV.str cY;obtain⟨s2,f2,rfl⟩:=RV.str e9;obtain⟨r,hr,Bc⟩:=Bb (P:=P) (g:=g) (w:=w) hd;have hg:(eqGuard op t x y (a.eval x) (a.eval y)).run P w=.ok () w:=by rw[f1,f2];unfold eqGuard;simp_all
  refine Good.val hh ?_ Bc;have hb:(binOp op t (.string s1) (.string s2)).run P w=.ok r w:=by rw[←hr];cases op<;>rfl
  grind[execOp,Sem.run_bind,Result.andThen_ok,Sem.run_pure]
 ·rename_i e1 e2;simp only[aaA]at h;obtain⟨d,hd,rfl⟩:=h;rw[e1]at cY;rw[e2]at e9;exact zG ho cY.OF e9.HB hd hh
 ·rename_i e1 e2;simp only[aaA]at h;obtain⟨d,hd,rfl⟩:=h;rw[e1]at cY;rw[e2]at e9;exact zG ho cY.HB e9.OF hd hh
 ·rename_i e1 e2;simp only[aaA]at h;obtain⟨d,hd,rfl⟩:=h;rw[e1]at cY;rw[e2]at e9;exact zG ho cY.HB e9.HB hd hh
 ·cases h
set_option maxHeartbeats 1000000 in
theorem UR{x:Operand}{y':aU}{k:qd}{b neg:Bool}(ho:o.op=.binOp op t x y yt)(fT:(op=.eql/\neg=false)\/(op=.neq/\neg=true))(hk:match k with| .bool=>P.underlying t=some .bool| .ptr=>∃e,P.underlying t=some (.pointer e)| .iface=>(∃e,P.underlying t=some (.interface e))/\((∃c,x=.const c)\/∃c,y=.const c)| .slice=>∃e,P.underlying t=some (.slice e)| .func=>∃s:Array TypeId×Array TypeId×Bool,P.underlying t=some (.func s.1 s.2.1 s.2.2))(hx:ar x=some x')(hy:ar y=some y')(h:Hj H k (ρ x') (ρ y')=some b)(ev:Ev ρ a g w)(hh:aw g w H):Good P a o g w ns (.d (.bool (bif neg then !b else b))) H:=by
 have cY:=ev _ _ hx;have e9:=ev _ _ hy;have key:∀(vx vy:Value),a.eval x=vx->a.eval y=vy->(eqGuard op t x y vx vy).run P w=.ok () w->(Op.equal t vx vy).run P w=.ok b w->(∀k n,vx≠ .int k n)->(∀k n,vx≠ .float k n)->(∀k n m,vx≠ .complex k n m)->(∀s,vx≠ .string s)->Good P a o g w ns (.d (.bool (bif neg then !b else b))) H:=by
  intro vx vy h1 h2 h3 h4 n1 n2 n3 n4;refine Good.val (x:=.bool (bif neg then !b else b)) hh ?_ (RV.A_ _);have hb:(binOp op t vx vy).run P w=.ok (.bool (bif neg then !b else b)) w:=by rcases fT with⟨rfl,rfl⟩|⟨rfl,rfl⟩;all_goals simp_all[binOp]
  simp_all[execOp]
 unfold Hj at h;have aaa:(match op with| .eql| .neq=>true|_=>false)=true:=by grind
 have fin:∀(vx vy:Value)(e:TypeId),P.underlying t=some (.slice e)->((∃a l c,vx=.slice a l c)/\vy=.slice none 0 0\/(∃a l c,vy=.slice a l c)/\vx=.slice none 0 0)->a.eval x=vx->a.eval y=vy->(∀a l c a' l' c',vx=.slice a l c->vy=.slice a' l' c'->b=(a.isNone&&a'.isNone))->Good P a o g w ns (.d (.bool (bif neg then !b else b))) H:=by
  intro vx vy e he hs h1 h2 hb;rcases hs with⟨⟨p,l,c,rfl⟩,rfl⟩|⟨⟨p,l,c,rfl⟩,rfl⟩
  ·have:=hb _ _ _ _ _ _ rfl rfl;subst this;refine key _ _ h1 h2 (by unfold eqGuard;simp_all) (hZ fun d=>?_ ) (by simp) (by simp) (by simp) (by simp);cases p<;>simp[Op.equalIn,run_underlying he]
  ·have:=hb _ _ _ _ _ _ rfl rfl;subst this;refine key _ _ h1 h2 (by unfold eqGuard;simp_all) (hZ fun d=>?_ ) (by simp) (by simp) (by simp) (by simp);cases p<;>simp[Op.equalIn,run_underlying he]
 have own:∀{bb h0 off len sz:Nat}{u:Value},vJ H bb h0=some b->RV g w (.sl bb h0 off len sz) u->∃a l c,u=.slice a l c/\b=a.isNone:=by
  intro bb h0 off len sz u hn hu;unfold vJ at hn;split at hn
  ·rename_i cs hg;cases hc:Nat.beq cs.length h0 with
    |false=>grind
    |true=>rw[hc]at hn;simp at hn;have hl:=aau hc;obtain⟨xb,oZ⟩:=hh.back bb _ hg;obtain⟨_,y0,DT,hr⟩:=hh.live bb xb oZ;rw[hg]at DT;simp at DT;subst DT;simp only[RV]at hu;have Jy:=hu.2 xb oZ;grind[RB]
  ·rename_i hg;cases hc:Nat.beq h0 0 with
    |false=>grind
    |true=>rw[hc]at hn;simp at hn;obtain⟨xb,oZ⟩:=hh.back bb _ hg;obtain⟨_,y0,DT,hr⟩:=hh.live bb xb oZ;grind[Option.some.injEq,RV,RB]
  ·cases hn
 split at h<;>try simp only[aar,reduceCtorEq]at h
 ·rename_i bb h0 _ _ _ e1 e2;rw[e1]at cY;rw[e2]at e9;obtain⟨p,l,c,q1,q2⟩:=own h cY;simp only[RV]at e9;obtain⟨e,he⟩:=hk;exact fin _ _ e he (.inl ⟨⟨p,l,c,rfl⟩,rfl⟩) q1 e9 (by grind)
 ·rename_i bb h0 _ _ _ e1 e2;rw[e1]at cY;rw[e2]at e9;obtain⟨p,l,c,q1,q2⟩:=own h e9;simp only[RV]at cY;obtain⟨e,he⟩:=hk;exact fin _ _ e he (.inr ⟨⟨p,l,c,rfl⟩,rfl⟩) cY q1 (by grind)
 ·rename_i p q e1 e2;rw[e1]at cY;rw[e2]at e9;subst h;simp only at hk;exact key _ _ (RV.bool cY) (RV.bool e9) (by unfold eqGuard;simp_all) (hZ fun d=>by simp[Op.equalIn,run_underlying hk]) (by simp) (by simp) (by simp) (by simp)
 ·rename_i e1 e2;rw[e1]at cY;rw[e2]at e9;simp only[RV]at cY e9;subst h;obtain⟨⟨e,he⟩,hc⟩:=hk;refine key _ _ cY e9 ?_ (hZ fun d=>by simp[Op.equalIn,run_underlying he]) (by simp) (by simp) (by simp) (by simp);unfold eqGuard;rcases fT with⟨rfl,_⟩|⟨rfl,_⟩<;>rcases hc with⟨c,rfl⟩|⟨c,rfl⟩<;>simp
 ·rename_i e1 e2;rw[e1]at cY;rw[e2]at e9;simp only[RV]at cY e9;obtain⟨tt,z,cY⟩:=cY;subst h;obtain⟨⟨e,he⟩,hc⟩:=hk;exact key _ _ cY e9 (by unfold eqGuard;simp_all) (hZ fun d=>by simp[Op.equalIn,run_underlying he]) (by simp) (by simp) (by simp) (by simp)
 ·rename_i e1 e2;rw[e1]at cY;rw[e2]at e9;simp only[RV]at cY e9;obtain⟨tt,z,e9⟩:=e9;subst h;obtain⟨⟨e,he⟩,hc⟩:=hk;exact key _ _ cY e9 (by unfold eqGuard;simp_all) (hZ fun d=>by simp[Op.equalIn,run_underlying he]) (by simp) (by simp) (by simp) (by simp)
 ·rename_i tt z e1 e2;rw[e1]at cY;rw[e2]at e9;simp only[RV]at cY e9;obtain⟨z',cY,_⟩:=cY;subst h;obtain⟨⟨e,he⟩,hc⟩:=hk;exact key _ _ cY e9 (by unfold eqGuard;simp_all) (hZ fun d=>by simp[Op.equalIn,run_underlying he]) (by simp) (by simp) (by simp) (by simp)
 ·rename_i tt z e1 e2;rw[e1]at cY;rw[e2]at e9;simp only[RV]at cY e9;obtain⟨z',e9,_⟩:=e9;subst h;obtain⟨⟨e,he⟩,hc⟩:=hk;exact key _ _ cY e9 (by unfold eqGuard;simp_all) (hZ fun d=>by simp[Op.equalIn,run_underlying he]) (by simp) (by simp) (by simp) (by simp)
 ·rename_i e1 e2;rw[e1]at cY;rw[e2]at e9;simp only[RV]at cY e9;subst h;obtain⟨e,he⟩:=hk;exact key _ _ cY e9 (by unfold eqGuard;simp_all) (hZ fun d=>by simp[Op.equalIn,run_underlying he]) (by simp) (by simp) (by simp) (by simp)
 ·rename_i e0 es0 e1 e2;rw[e1]at cY;rw[e2]at e9;simp only[RV,Rd,reduceCtorEq,false_and,false_or]at cY e9;obtain⟨aM,off,cap,sz,cY,-⟩:=cY;subst h;obtain⟨e,he⟩:=hk;exact key _ _ cY e9 (by unfold eqGuard;simp_all) (hZ fun d=>by simp[Op.equalIn,run_underlying he]) (by simp) (by simp) (by simp) (by simp)
 ·rename_i e0 es0 e1 e2;rw[e1]at cY;rw[e2]at e9;simp only[RV,Rd,reduceCtorEq,false_and,false_or]at cY e9;obtain⟨aM,off,cap,sz,e9,-⟩:=e9;subst h;obtain⟨e,he⟩:=hk;exact key _ _ cY e9 (by unfold eqGuard;simp_all) (hZ fun d=>by simp[Op.equalIn,run_underlying he]) (by simp) (by simp) (by simp) (by simp)
theorem US{op:UnOp}{x:Operand}(ho:o.op=.unOp op t x)(hx:ar x=some x')(h:TW op (ρ x')=some v)(ev:Ev ρ a g w)(hh:aw g w H):Good P a o g w ns v H:=by
 have cY:=ev _ _ hx;unfold TW at h;split at h
 ·rename_i k n e1;rw[e1]at cY;split at h<;>simp only[aar,reduceCtorEq]at h;subst h;exact Good.val hh (by simp only[execOp,ho,RV.int cY];simp[Op.unary,Op.intArith]) (RV.zp _ _)
 ·rename_i b e1;rw[e1]at cY;split at h<;>simp only[aar,reduceCtorEq]at h;subst h;exact Good.val hh (by simp only[execOp,ho,RV.bool cY];simp[Op.unary]) (RV.A_ _)
 ·cases h
theorem K3{s d:TypeId}{k k0:IntKind}{x:Operand}{k1:IntKind}{n:Int}(ho:o.op=.convert s d x)(hs:P.underlying s=some (.int k0))(hd:P.underlying d=some (.int k))(hx:ar x=some x')(e:ρ x'=.d (.int k1 n))(ev:Ev ρ a g w)(hh:aw g w H):Good P a o g w ns (.d (.int k (k.wrap n))) H:=by have cY:=ev _ _ hx;rw[e]at cY;exact Good.val hh (by simp only[execOp,ho,RV.int cY];simp[convert,run_underlying hs,run_underlying hd,Conv.intToInt]) (RV.zp _ _)
end
end Fw
/-
  Operations, further: parts of strings and slices, fields, indexes, lengths.
-/
namespace Fw
open Go
section
variable {P:Program}{a:Act}{o:Oper}{g:G}{w:World}{ρ:aU->V}{H:an}{ns:Nat}
variable {h b off l n aM cp cap:Nat}{v:Value}{hi:Option Operand}{xo jZ:Option aU}{t el:TypeId}{x':aU}{es:List (List D)}
theorem ei{u:V}(h:cN u=some n)(hv:RV g w u v):∃k,v=.int k n:=by
 unfold cN at h;split at h
 ·rename_i k z;split at h
  ·rename_i hz;simp at h;subst h;exact⟨k,by rw[RV.int hv,Int.toNat_of_nonneg hz]⟩
  ·cases h
 ·cases h
theorem mG{k:IntKind}{y:Nat}(c:BoundsCode)(h:n<=y):(Instr.sliceBound (.int k n) y c).run P w=.ok n w:=by simp[Instr.sliceBound,asIntOf,h]
theorem fj{len:Nat}{lo:Option Operand}(zq:Bool)(kz:cw lo=some xo)(jr:cw hi=some jZ)(hb:bounds ρ len xo jZ=some (l,h))(ev:Ev ρ a g w)(hc:len<=cap):(Instr.sliceBounds zq len cap (lo.map a.eval) (hi.map a.eval) none).run P w=.ok (l,h,cap) w/\l<=h/\h<=len:=by
 unfold bounds at hb;split at hb
 ·cases hb
 ·rename_i h0 eh;split at hb
  ·cases hb
  ·rename_i l0 el;cases eS:(Nat.ble l0 h0&&Nat.ble h0 len)with
    |false=>grind
    |true=>
     rw[eS]at hb;simp at hb;obtain⟨rfl,rfl⟩:=hb;simp only[aas]at eS;have e1:=aax eS.1;have e2:=aax eS.2;have f1:(match hi.map a.eval with|some v=>Instr.sliceBound v cap (if zq then .sliceAcap else .sliceAlen)|none=>pure len:Sem Nat).run P w=.ok h0 w:=by
      cases hi with
       |none=>simp[cw]at jr;subst jr;simp_all
       |some x=>simp only[cw,aaA]at jr;obtain⟨y,hy,rfl⟩:=jr;simp only at eh;obtain⟨k,hk⟩:=ei eh (ev _ _ hy);simp only[aaI,hk];exact mG _ (by omega)
     have f2:(match lo.map a.eval with|some v=>Instr.sliceBound v h0 (if(none:Option Value).isSome then .slice3C else .sliceB)|none=>pure 0:Sem Nat).run P w=.ok l0 w:=by
      cases lo with
       |none=>simp[cw]at kz;subst kz;simp_all
       |some x=>simp only[cw,aaA]at kz;obtain⟨y,hy,rfl⟩:=kz;simp only at el;obtain⟨k,hk⟩:=ei el (ev _ _ hy);simp only[aaI,hk];exact mG _ e1
     refine⟨?_,e1,e2⟩;cases hi with
      |none=>
       simp at f1;subst f1;cases lo with
        |none=>simp_all[abp,Sem.run_pure,Result.ok.injEq,ab',Instr.sliceBounds]
        |some x=>grind[Instr.sliceBounds,Sem.run_bind,Sem.run_pure,Result.andThen_ok]
      |some y=>
       simp at f1;cases lo with
        |none=>simp_all[abp,Sem.run_pure,Result.ok.injEq,ab',Instr.sliceBounds,aaI,Result.andThen_ok]
        |some x=>simp_all[aaI,Instr.sliceBounds,Sem.run_bind,Result.andThen_ok]
theorem extract_toList(b:ByteArray)(l h:Nat):(b.extract l h).data.toList=(b.data.toList.take h).drop l:=by rw[ByteArray.data_extract,Array.toList_extract];apply acA;grind
theorem D_{x:Operand}{lo:Option Operand}{s:List UInt8}(ho:o.op=.slice t x lo hi none)(ht:P.underlying t=some .string)(hx:ar x=some x')(kz:cw lo=some xo)(jr:cw hi=some jZ)(e:ρ x'=.d (.str s))(hb:bounds ρ s.length xo jZ=some (l,h))(ev:Ev ρ a g w)(hh:aw g w H):Good P a o g w ns (.d (.str ((s.take h).drop l))) H:=by
 have hv:=ev _ _ hx;rw[e]at hv;obtain⟨b,zr,rfl⟩:=RV.str hv;have cH:b.data.toList.length=b.size:=by simp
 rw[cH]at hb;obtain⟨f1,f2,f3⟩:=fj (P:=P) false kz jr hb ev (aaC _);refine Good.val (x:=.string (b.extract l h)) hh ?_ (by rw[←extract_toList];exact RV.UO _);simp[execOp,ho,zr,Instr.sliceAt,run_underlying ht,Instr.slice,f1]
theorem dR.get{im:Nat->Prop}{aM:Nat}:∀{es:List (List D)}{off sz:Nat}(i:Nat){e:List D},dR w im aM off sz es->es[i]? =some e->e.length=sz/\cP w im aM (off+i*sz) e
 |[],_,_,i,e,_,h=>by simp at h
 |e0::es,off,sz,0,e,h,he=>by grind[dR]
 |e0::es,off,sz,i+1,e,h,he=>by simp only[dR]at h;simp at he;have:=dR.get i h.2.2 he;grind
theorem dR.eM{im:Nat->Prop}{aM sz:Nat}:∀{es:List (List D)}{off:Nat},(∀i e,es[i]? =some e->e.length=sz/\cP w im aM (off+i*sz) e)->dR w im aM off sz es
 |[],_,_=>by simp only[dR]
 |e::es,off,h=>by simp only[dR];have h0:=h 0 e rfl;simp at h0;refine⟨h0.1,h0.2,dR.eM fun i e' he=>?_ ⟩;have:=h (i+1) e' (by grind);grind
theorem vU{sz:Nat}(h:es.all (fun e=>Nat.beq e.length sz)=true):∀e∈es,e.length=sz:=fun e he=>aau ((aaJ.1 h) e he)
theorem RV.list{sz:Nat}(hv:RV g w (.d (.list es)) v)(hl:∀e∈es,e.length=sz):(es=[]/\(v=.slice none 0 0\/∃a c,v=.slice (some a) 0 c))\/∃aM off cap,v=.slice (some ⟨aM,off,none⟩) es.length cap/\es.length<=cap/\(es≠[]->cl g w aM)/\dR w (cl g w) aM off sz es:=by
 simp only[RV,Rd]at hv;rcases hv with h|⟨aM,off,cap,uA,h1,h2,h3,h4⟩
 ·grind
 ·refine .inr ⟨aM,off,cap,h1,h2,h3,?_⟩;cases es<;>grind[dR]
theorem Ea{x:Operand}{lo:Option Operand}{sz:Nat}(ho:o.op=.slice t x lo hi none)(ht:P.underlying t=some (.slice el))(hs:fE P el=some sz)(hx:ar x=some x')(kz:cw lo=some xo)(jr:cw hi=some jZ)(e:ρ x'=.d (.list es))(hl:es.all (fun e=>Nat.beq e.length sz)=true)(hb:bounds ρ es.length xo jZ=some (l,h))(ev:Ev ρ a g w)(hh:aw g w H):Good P a o g w ns (.d (.list ((es.take h).drop l))) H:=by
 have hv:=ev _ _ hx;rw[e]at hv;rcases RV.list hv (vU hl)with⟨rfl,hn⟩|⟨aM,off,cap,h1,h2,h3,h4⟩
 ·rcases hn with hn|⟨a0,c0,hn⟩
  ·obtain⟨f1,f2,f3⟩:=fj (P:=P) (cap:=0) true kz jr hb ev (by simp);simp at f3;subst f3;have:l=0:=by omega
   subst this;refine Good.val (x:=.slice none 0 0) hh ?_ (by grind);simp at f1;simp[execOp,ho,hn,Instr.sliceAt,run_underlying ht,Instr.slice,f1,ck hs]
  ·obtain⟨f1,f2,f3⟩:=fj (P:=P) (cap:=c0) true kz jr hb ev (by simp);simp at f3;subst f3;have:l=0:=by omega
   subst this;refine Good.val (x:=.slice (some (if c0=0 then a0 else a0.add 0)) 0 c0) hh ?_ (by grind[RV,Rd]);simp at f1;simp[execOp,ho,hn,Instr.sliceAt,run_underlying ht,Instr.slice,f1,ck hs];grind
 ·obtain⟨f1,f2,f3⟩:=fj (P:=P) true kz jr hb ev h2;have hlen:((es.take h).drop l).length=h - l:=by simp;omega
  refine Good.val (x:=.slice (some (if cap=l then⟨aM,off,none⟩else⟨aM,off+l*sz,none⟩)) (h - l) (cap - l)) hh ?_ ?_
  ·simp only[execOp,ho,h1,Instr.sliceAt,Sem.run_bind,run_underlying ht,Result.andThen_ok,Instr.slice,abp,f1,ck hs,Sem.run_pure];grind[Addr.fF]
  ·simp only[RV,Rd];refine .inr ⟨aM,if cap=l then off else off+l*sz,cap - l,sz,?_,by omega,fun hn=>h3 ?_,?_ ⟩
   ·grind
   ·grind
   ·by_cases hc:cap=l
    ·grind[dR]
    ·simp only[hc,ab0];refine dR.eM fun i e' he=>?_
     rw[acx,aa5]at he;split at he
     ·have:=dR.get (l+i) h4 he;grind
     ·cases he
theorem kJ{cs:List V}(hg:aC H b=some (.cells cs))(hl:Nat.beq cs.length h=true)(hh:aw g w H):∃aM cp c e,g.γ b=some (.cells aM cp h)/\cs.all eL=true/\cs.length=h/\h<=cp/\w.heap[aM]? =some (.cells c e (0,0))/\cp<=c.size/\aN g w cs (c.toList.take h):=by
 have e1:=aau hl;obtain⟨x,hx⟩:=hh.back b _ hg;obtain⟨_,y,hy,hr⟩:=hh.live b x hx;rw[hg]at hy;simp at hy;subst hy;cases x with
  |cells aM cp cur=>simp only[RB]at hr;obtain⟨r1,r2,r3,c,e,r4,r5,r6⟩:=hr;subst r1;subst e1;exact⟨aM,cp,c,e,hx,r2,rfl,r3,r4,r5,r6⟩
  |nil=>grind[RB]
  |obj=>grind[RB]
theorem RV.qf{len sz:Nat}(hv:RV g w (.sl b h off len sz) v)(hg:g.γ b=some (.cells aM cp h)):∃cap,v=.slice (some ⟨aM,off,none⟩) len cap/\len<=cap/\off+cap*sz<=cp:=by grind[RV]
theorem RV.uC{len sz:Nat}(hv:RV g w (.sl b h off len sz) v)(hg:g.γ b=some .nil):h=0/\len=0/\off=0/\v=.slice none 0 0:=by grind[RV]
theorem RV.cd{len sz:Nat}(hv:RV g w (.sl b h off len sz) v):g.cd b:=by grind[RV]
theorem RV.xu{len sz:Nat}(hd:g.cd b)(hg:g.γ b=some (.cells aM cp h))(h1:len<=cap)(h2:off+cap*sz<=cp):RV g w (.sl b h off len sz) (.slice (some ⟨aM,off,none⟩) len cap):=by simp only[RV];refine⟨⟨rfl,hd⟩,fun x hx=>?_ ⟩;grind
theorem jz(hl:eI H b h=true)(hh:aw g w H):(∃aM cp,g.γ b=some (.cells aM cp h))\/(h=0/\g.γ b=some .nil):=by
 unfold eI at hl;split at hl
 ·rename_i cs hg;obtain⟨aM,cp,_,_,h1,_⟩:=kJ hg hl hh;grind
 ·rename_i hg;obtain⟨x,hx⟩:=hh.back b _ hg;obtain⟨_,y,hy,hr⟩:=hh.live b x hx;rw[hg]at hy;simp at hy;subst hy;cases x with
   |cells=>grind[RB]
   |nil=>simp_all
   |obj=>grind[RB]
 ·cases hl
theorem Bd{qg sz:Nat}(hd:g.cd b)(hg:g.γ b=some (.cells aM cp qg))(h1:l<=h)(h2:h<=n)(h3:n<=cap)(h4:off+cap*sz<=cp):RV g w (xn b qg off sz l h) (.slice (some (if cap=l then⟨aM,off,none⟩else⟨aM,off+l*sz,none⟩)) (h - l) (cap - l)):=by
 unfold xn;cases hc:(Nat.beq l h&& !(Nat.beq l 0))with
  |true=>simp_all[aas,aaw,RV,Rd,dR,acD,aaq]
  |false=>
   simp;have key:(if cap=l then(⟨aM,off,none⟩:Addr)else⟨aM,off+l*sz,none⟩)=⟨aM,off+l*sz,none⟩:=by
    split
    ·rename_i e;by_cases h0:l=0
     ·grind
     ·have:l=h:=by omega
      simp_all
    ·rfl
   rw[key];refine RV.xu hd hg (by omega) ?_;have:l*sz+(cap - l)*sz=cap*sz:=by rw[←abJ];grind
   omega
theorem Cs{x:Operand}{lo:Option Operand}{hb len sz:Nat}(ho:o.op=.slice t x lo hi none)(ht:P.underlying t=some (.slice el))(hs:fE P el=some sz)(hx:ar x=some x')(kz:cw lo=some xo)(jr:cw hi=some jZ)(e:ρ x'=.sl b hb off len sz)(hl:eI H b hb=true)(zt:bounds ρ len xo jZ=some (l,h))(ev:Ev ρ a g w)(hh:aw g w H):Good P a o g w ns (xn b hb off sz l h) H:=by
 have hv:=ev _ _ hx;rw[e]at hv;rcases jz hl hh with⟨aM,cp,hg⟩|⟨rfl,hg⟩
 ·obtain⟨cap,h1,h2,h3⟩:=RV.qf hv hg;obtain⟨f1,f2,f3⟩:=fj (P:=P) true kz jr zt ev h2;refine Good.val hh ?_ (Bd (RV.cd hv) hg f2 f3 h2 h3);simp only[execOp,ho,h1,Instr.sliceAt,Sem.run_bind,run_underlying ht,Result.andThen_ok,Instr.slice,abp,f1,ck hs,Sem.run_pure];grind[Addr.fF]
 ·obtain⟨_,rfl,rfl,h1⟩:=RV.uC hv hg;obtain⟨f1,f2,f3⟩:=fj (P:=P) (cap:=0) true kz jr zt ev (aaC _);have e1:h=0:=by omega
  have e2:l=0:=by omega
  subst e1;subst e2;rw[h1]at hv;refine Good.val (x:=.slice none 0 0) hh ?_ (by grind[xn]);simp[execOp,ho,h1,Instr.sliceAt,run_underlying ht,Instr.slice,f1,ck hs]
theorem K4{x hi mx:Operand}{jZ OB:aU}{sz:Nat}(ho:o.op=.slice t x none (some hi) (some mx))(ht:P.underlying t=some (.slice el))(hs:fE P el=some sz)(hx:ar x=some x')(jr:ar hi=some jZ)(UT:ar mx=some OB)(e:ρ x'=.d (.list es))(hl:es.all (fun e=>Nat.beq e.length sz)=true)(h1:cN (ρ jZ)=some h)(h2:cN (ρ OB)=some h)(hb:h<=es.length)(ev:Ev ρ a g w)(hh:aw g w H):Good P a o g w ns (.full (es.take h)) H:=by
 have hv:=ev _ _ hx;rw[e]at hv;obtain⟨k1,T0⟩:=ei h1 (ev _ _ jr);obtain⟨k2,qh⟩:=ei h2 (ev _ _ UT);have zt:∀{len cap:Nat},h<=cap->(Instr.sliceBounds true len cap none (some (a.eval hi)) (some (a.eval mx))).run P w=.ok (0,h,h) w:=by intro len cap hc;simp only[Instr.sliceBounds,T0,qh,Sem.run_bind,mG _ hc,Result.andThen_ok,mG _ (aaC h),Sem.run_pure]
 rcases RV.list hv (vU hl)with⟨rfl,hn⟩|⟨aM,off,cap,h3,h4,h5,h6⟩
 ·have h0:h=0:=by grind
  subst h0;rcases hn with hn|⟨a0,c0,hn⟩
  ·refine Good.val (x:=.slice none 0 0) hh ?_ (by simp[RV,Rd]);simp only[execOp,ho,hn,aaI,abp,Instr.sliceAt,Sem.run_bind,run_underlying ht,Result.andThen_ok,Instr.slice,zt (aaC 0),ck hs,Sem.run_pure];rfl
  ·refine Good.val (x:=.slice (some a0) 0 0) hh ?_ ?_
   ·simp only[execOp,ho,hn,aaI,abp,Instr.sliceAt,Sem.run_bind,run_underlying ht,Result.andThen_ok,Instr.slice,zt (aaP c0),ck hs,Sem.run_pure];rfl
   grind[RV,Rd,List.length_nil]
 ·have hlen:(es.take h).length=h:=by grind
  refine Good.val (x:=.slice (some ⟨aM,off,none⟩) h h) hh ?_ ?_
  ·simp only[execOp,ho,h3,aaI,abp,Instr.sliceAt,Sem.run_bind,run_underlying ht,Result.andThen_ok,Instr.slice,zt (show h<=cap by omega),ck hs,Sem.run_pure];grind[Addr.fF]
  ·simp only[RV,Rd];refine⟨.inr ⟨aM,off,h,sz,by rw[hlen],by omega,fun hn=>h5 (fun h7=>hn (by grind)),?_ ⟩,_,by rw[hlen]⟩;refine dR.eM fun i e' he=>?_
   rw[aa5]at he;split at he
   ·exact dR.get i h6 he
   ·cases he
theorem Cx{x:Operand}{lo:Option Operand}{sz:Nat}(ho:o.op=.slice t x lo hi none)(ht:P.underlying t=some (.slice el))(hs:fE P el=some sz)(hx:ar x=some x')(kz:cw lo=some xo)(jr:cw hi=some jZ)(e:ρ x'=.ak)(zt:bounds ρ 0 xo jZ=some (l,h))(ev:Ev ρ a g w)(hh:aw g w H):Good P a o g w ns .ak H:=by
 have hv:=ev _ _ hx;rw[e]at hv;simp only[RV]at hv;obtain⟨f1,f2,f3⟩:=fj (P:=P) (cap:=0) true kz jr zt ev (aaC _);have e1:h=0:=by omega
 have e2:l=0:=by omega
 subst e1;subst e2;refine Good.val (x:=.slice none 0 0) hh ?_ (by simp only[RV]);simp[execOp,ho,hv,Instr.sliceAt,run_underlying ht,Instr.slice,f1,ck hs]
theorem RV.HC(hv:RV g w (.ptr b h off) v)(hg:g.γ b=some (.cells aM cp h)):v=.pointer (some ⟨aM,off,none⟩):=by grind[RV,GB.cells.injEq]
theorem RV.K5(hv:RV g w (.ptr b h off) v):g.cd b:=by grind[RV]
theorem Eb{x:Operand}{lo:Option Operand}{hb sz:Nat}(ho:o.op=.slice t x lo hi none)(ht:P.underlying t=some (.array n el))(hs:fE P el=some sz)(hx:ar x=some x')(kz:cw lo=some xo)(jr:cw hi=some jZ)(e:ρ x'=.ptr b hb off)(hl:eI H b hb=true)(hn:off+n*sz<=hb)(h0:0<hb)(zt:bounds ρ n xo jZ=some (l,h))(ev:Ev ρ a g w)(hh:aw g w H):Good P a o g w ns (xn b hb off sz l h) H:=by
 have hv:=ev _ _ hx;rw[e]at hv;rcases jz hl hh with⟨aM,cp,hg⟩|⟨rfl,hg⟩
 ·have h1:=RV.HC hv hg;obtain⟨f1,f2,f3⟩:=fj (P:=P) false kz jr zt ev (aaC n);have OH:hb<=cp:=by obtain⟨_,y,hy,hr⟩:=hh.live b _ hg;cases y<;>grind[RB]
  refine Good.val hh ?_ (Bd (n:=n) (cap:=n) (RV.K5 hv) hg f2 f3 (aaC _) (by omega));simp only[execOp,ho,h1,Instr.sliceAt,Sem.run_bind,run_underlying ht,Result.andThen_ok,Instr.sureAddr,Sem.run_pure,abp,f1,ck hs];grind[Addr.fF]
 ·omega
end
end Fw
