/-
  The abstract machine: data, values, own boxes, the operations as they are used here, and what each of them computes.
-/
import Derived.Orders
import Derived.KernelRfl
import Derived.Below
import Derived.Laws.AppendOwn
import Derived.Laws.CopyRow
import Derived.Laws.Entries
import Derived.Laws.Append
import Derived.Lib.Strings
set_option linter.defProp false
def aab:=@Option.some.injEq
def aac:=@Bool.and_eq_true
def aad:=@Option.map_eq_some_iff
def aae:=@Prod.mk.injEq
def aaf:=@List.getElem?_eq_getElem
def aag:=@cond_true
def aah:=@Nat.eq_of_beq_eq_true
def aai:=@List.getElem?_eq_some_iff
def aaj:=@Array.getD_eq_getD_getElem?
def aak:=@Nat.le_of_ble_eq_true
def aal:=@if_neg
def aam:=@decide_eq_true_eq
def aan:=@if_pos
def aao:=@Nat.le_refl
def aap:=@List.mem_of_getElem?
def aaq:=@List.all_eq_true
def aar:=@List.length_map
def aas:=@Nat.blt_eq
def aat:=@Option.map_some
def aau:=@Nat.zero_add
def aav:=@List.length_cons
def aaw:=@cond_false
def aax:=@List.map_cons
def aay:=@List.mem_filter
def aaz:=@Nat.beq_refl
def aaA:=@List.length_append
def aaB:=@Array.all_eq_true_iff_forall_mem
def aaC:=@Array.getElem?_setIfInBounds_ne
def aaD:=@List.getD_eq_getElem?_getD
def aaE:=@Bool.true_and
def aaF:=@List.all_cons
def aaG:=@List.mem_map
def aaH:=@List.mem_cons
def aaI:=@Array.getElem?_setIfInBounds_self_of_lt
def aaJ:=@List.mem_range
def aaK:=@decide_eq_true
def aaL:=@List.getElem?_take
def aaM:=@Nat.mul_le_mul_right
def aaN:=@Option.getD_some
def aaO:=@List.getElem?_map
def aaP:=@Function.comp_def
def aaQ:=@List.length_take
def aaR:=@Bool.and_self
def aaS:=@List.getElem?_append_right
def aaT:=@Bool.eq_iff_iff
def aaU:=@Bool.not_eq_true'
def aaV:=@List.mem_append
def aaW:=@Nat.lt_or_ge
def aaX:=@List.filter_eq_nil_iff
def aaY:=@List.length_nil
def aaZ:=@decide_eq_false
def aa0:=@Nat.lt_of_lt_of_le
def aa1:=@Bool.or_eq_true
def aa2:=@List.getElem?_append_left
def aa3:=@Nat.add_mul
def aa4:=@if_true
def aa5:=@decide_eq_false_iff_not
def aa6:=@List.drop_eq_getElem_cons
def aa7:=@List.getElem?_drop
def aa8:=@Bool.false_eq_true
def aa9:=@List.filter_append
def aa':=@Bool.not_true
def aa_:=@Nat.le_trans
def aba:=@Nat.ble_eq_true_of_le
def abb:=@Option.bind_eq_some_iff
def abc:=@Array.getElem?_eq_some_iff
def abd:=@Bool.not_false
def abe:=@Bool.and_false
def abf:=@List.take_of_length_le
def abg:=@List.getElem_mem
def abh:=@Array.toList_inj
def abi:=@List.filter_cons
def abj:=@List.take_add_one
def abk:=@Nat.add_zero
def abl:=@Bool.false_and
def abm:=@List.foldl_cons
def abn:=@List.pairwise_cons
def abo:=@List.cons_append
def abp:=@Int.ofNat_eq_natCast
def abq:=@Nat.mod_two_eq_zero_or_one
def abr:=@List.flatMap_cons
def abt:=@if_false
def abu:=@List.flatMap_append
def abv:=@List.nil_append
def abw:=@Array.getElem?_modify
def abx:=@List.take_append_drop
def aby:=@List.eq_nil_of_length_eq_zero
def abz:=@List.drop_zero
def abA:=@List.lt_irrefl
def abB:=@List.idxOf?_eq_none_iff
def abC:=@Option.map_none
def abD:=@Array.toList_append
def abE:=@List.dropWhile_cons
def abF:=@Nat.succ_mul
def abG:=@Nat.ble_eq
def abH:=@List.take_length
def abI:=@List.length_singleton
def abJ:=@Nat.shiftRight_eq_div_pow
def abK:=@Nat.zero_le
def abL:=@List.mem_cons_of_mem
def abM:=@List.map_append
def abN:=@List.isEmpty_cons
def abO:=@Bool.false_or
def abP:=@List.filter_eq_self
def abQ:=@List.drop_drop
def abR:=@List.set_cons_succ
def abS:=@Nat.sub_zero
def abT:=@Nat.mul_div_cancel
def abU:=@List.mem_cons_self
def abV:=@Nat.and_one_is_mod
def abW:=@Nat.mul_eq_zero
def abX:=@Nat.min_eq_left
def abY:=@Array.getElem?_append_left
def abZ:=@List.mem_or_eq_of_mem_set
def ab0:=@Nat.mod_lt
def ab1:=@List.exists_mem_of_ne_nil
def ab2:=@Array.getElem?_replicate
def ab3:=@List.le_antisymm
def ab4:=@Array.getElem?_push
def ab5:=@List.toList_toArray
def ab6:=@List.mergeSort_perm
def ab7:=@List.pairwise_mergeSort
def ab8:=@List.set_cons_zero
def ab9:=@List.length_set
def ab':=@UInt8.toNat_inj
def ab_:=@List.mem_filterMap
def aca:=@List.range_succ
def acb:=@List.nodup_cons
def acd:=@List.findIdx?_cons
def ace:=@List.mem_singleton
def acf:=@and_true
def acg:=@List.take_append_of_le_length
def ach:=@of_decide_eq_true
def aci:=@UInt8.lt_iff_toNat_lt
def acj:=@Nat.sub_self
def ack:=@Ne.symm
def acm:=@List.getElem?_eq_none
def acn:=@Array.toList_map
def aco:=@List.length_drop
def acp:=@List.isEmpty_nil
def acq:=@List.map_take
def acr:=@Bool.and_true
def acs:=@List.map_drop
def acu:=@List.take_succ_cons
def acv:=@List.drop_succ_cons
def acw:=@List.filterMap_cons
def acx:=@List.extract_eq_take_drop
def acy:=@List.all_append
def acz:=@List.cons.injEq
def acA:=@List.append_nil
def acB:=@Option.some.inj
def acC:=@List.Perm.eq_of_pairwise
def acD:=@List.take_left
def acE:=@Nat.le_mul_of_pos_right
def acF:=@Array.mem_of_mem_filter
def acG:=@List.getElem?_cons_zero
def acH:=@List.getElem?_cons_succ
def acI:=@List.length_range
def acJ:=@List.filter_congr
def acK:=@List.getElem?_set_self
def acL:=@List.drop_of_length_le
def acM:=@congrArg
def acN:=@List.not_mem_nil
def acO:=@List.any_eq_true
def acP:=@List.length_ofFn
def acQ:=@Classical.choose_spec
def acR:=@Array.toList_extract
def acS:=@Array.ext'
def acT:=@List.find?_cons
def acU:=@List.findIdx?_isSome
def acV:=@List.getD_cons_succ
def acW:=@List.foldl_nil
def acX:=@List.not_lt
def acY:=@of_decide_eq_false
def acZ:=@UInt8.toNat_ofNat'
def ac0:=@Nat.lt_irrefl
def ac1:=@List.le_total
def ac2:=@List.le_trans
def ac3:=@List.lt_trans
def ac4:=@forall_congr'
def ac5:=@List.ext_getElem?
def ac6:=@Nat.lt_trichotomy
def ac7:=@List.append_assoc
def ac8:=@List.foldl_append
def ac9:=@decide_false
def ac':=@List.map_nil
def ac_:=@Nat.pow_succ
def ada:=@Nat.zero_mul
def adb:=@List.all_nil
set_option linter.unusedSimpArgs false
set_option linter.unusedVariables false
theorem k_.{u} {α:Sort u} {a b:α} (h:a=b:=by kernel_rfl):a=b:=h
namespace Fw
open Go
inductive D where
 |bool (b:Bool)
 |int (k:IntKind) (n:Int)
 |str (s:List UInt8)
 |list (es:List (List D))
 deriving Inhabited
inductive V where
 |any
 |d (x:D)
 |ab
 |ptr (b h off:Nat)
 |ji
 |cA (cs:List D)
 |sl (b h off len sz:Nat)
 |map (b:Nat)
 |kV
 |func (f:FuncId) (first cap:List V)
 |mh
 |iface (t:TypeId) (v:V)
 |bX
 |gD
 |agg (cs:List V)
 |tuple (vs:List V)
 |iter (b m:Nat)
 deriving Inhabited
def dE:V→Bool| .any=>false| .agg _=>false| .tuple _=>false|_=>true
inductive dU where
 |cells (cs:List V)
 |nil
 |map (es:List (D×V))
 |yo (s:List UInt8) (pos:Nat)
 |dC (m n:Nat) (seen:List Nat)
 deriving Inhabited
abbrev ah:=List (Option dU)
inductive a_ where
 |t (n:Nat)
 |c (v:V)
 |g (n:Nat)
 |f (n:FuncId)
 deriving Inhabited
inductive kW where|str|slice|map|arr (n:Nat)
 deriving Inhabited
inductive cB where|int|str|bool
 deriving Inhabited
inductive pU where|bool|ptr|iface|slice|func
 deriving Inhabited
inductive ki where
 |mv (x:a_)
 |pick (c a b:a_)
 |alloc (z:List V)
 |box (n:Nat) (x:a_)
 |build (z:List V) (ps:List (Nat×Nat×a_))
 |mkSlice (sz:Nat) (len:Nat) (z:List V) (ps:List (Nat×Nat×a_))
 |load (n:Nat) (agg:Bool) (a:a_)
 |store (n:Nat) (a x:a_)
 |fW (x:a_)
 |bin (op:BinOp) (x y:a_)
 |eq (neg:Bool) (k:pU) (x y:a_)
 |FJ (neg:Bool) (ks:List cB) (x y:a_)
 |un (op:UnOp) (x:a_)
 |conv (k:IntKind) (x:a_)
 |same (x:a_)
 |jj (x:a_)
 |kX (f:FuncId) (first cap:List a_)
 |B6
 |kY (x:a_) (lo hi:Option a_)
 |eu (sz:Nat) (x:a_) (lo hi:Option a_)
 |sB (n sz:Nat) (x:a_) (lo hi:Option a_)
 |Mj (off n:Nat) (agg:Bool) (x:a_)
 |fI (off n:Nat) (x:a_)
 |db (sz:Nat) (x i:a_)
 |sD (len sz:Nat) (x i:a_)
 |gF (x i:a_)
 |Jf (len sz:Nat) (agg:Bool) (x i:a_)
 |ext (x:a_) (i:Nat)
 |len (k:kW) (x:a_)
 |append (sz bytes:Nat) (x y:a_)
 |yp (sz bytes:Nat) (z:List V) (l c:a_)
 |cap (x:a_)
 |kZ (sz bytes:Nat) (z:List V) (x n:a_)
 |lookup (kk:cB) (z:V) (ok:Bool) (m k:a_)
 |fX (kk:cB) (m k x:a_)
 |range (XX:Bool) (x:a_)
 |Ps (x:a_)
 |qS (x:a_)
 |entry (x:a_)
 |m_ (t:TypeId) (x:a_)
 |pV (isMax:Bool) (xs:List a_)
 |call (f:FuncId) (args:List a_)
 |e_ (x:a_) (args:List a_)
 |bad
 deriving Inhabited
structure ad where
 dst:Option Nat
 op:ki
 guard:Option (Nat×Bool)
 after:List Nat:=[]
 deriving Inhabited
inductive IR where
 |skip
 |region (ops:List ad)
 |draw (ops:List ad)
 |seq (a b:IR)
 |cond (c:a_) (a b:IR)
 |block (id:Nat) (b:IR)
 |loop (b:IR)
 |exit (id:Nat)
 |ret
 deriving Inhabited
inductive iV where
 |t (n:Nat)
 |cell (n:Nat) (size:Nat) (agg:Bool)
 deriving Inhabited
structure cD where
 nparams:Nat
 ntmps:Nat
 res:List iV
 body:IR
 deriving Inhabited
def get:List (Nat×V)→Nat→V|[],_=>.any|(s,u)::l,t=>bif Nat.beq s t then u else get l t
def put:List (Nat×V)→Nat→V→List (Nat×V)|[],t,v=>[(t,v)]|(s,u)::l,t,v=>bif Nat.beq s t then(t,v)::l else bif Nat.ble t s then(t,v)::(s,u)::l else(s,u)::put l t v
structure St where
 n:Nat
 tm:List (Nat×V)
 hp:ah
 deriving Inhabited
def aA:ah→Nat→Option dU|[],_=>none|b::_,0=>b|_::l,n+1=>aA l n
def bj:ah→Nat→dU→ah|[],0,x=>[some x]|[],n+1,x=>none::bj [] n x|_::l,0,x=>some x::l|b::l,n+1,x=>b::bj l n x
abbrev Wr:=Option (Nat×dU)
def aX(H:ah):Wr→ah|none=>H|some (b,x)=>bj H b x
structure ca where
 rd:Nat→Option (List D)
 w0:World
def aU(GL:ca)(tm:List (Nat×V)):a_→V
 | .t n=>get tm n
 | .c v=>v
 | .g n=>match GL.rd n with|some cs=>.cA cs|none=>.any
 | .f f=>.func f [] []
def oW(agg:Bool)(cs:List V):Option V:=bif agg then some (V.agg cs)else match cs with|[v]=>some v|_=>none
def bK:V→List V| .agg cs=>cs|v=>[v]
def eL(sz:Nat):Nat→List D→List (List D)|0,_=>[]|n+1,l=>l.take sz::eL sz n (l.drop sz)
def dV:List V→Option (List D)|[]=>some []| .d x::l=>(dV l).map (x:: ·)| .ab::l=>(dV l).map (.list []:: ·)|_=>none
def bJ{α β:Type}(f:α→Option β):List α→Option (List β)
 |[]=>some []
 |x::xs=>
  match f x with
   |none=>none
   |some y=>
    match bJ f xs with
     |none=>none
     |some ys=>some (y::ys)
def fi(H:ah):Nat→V→Option D
 |_,.d x=>some x
 |_,.ab=>some (.list [])
 |f+1,.sl b h off len sz=>
  match aA H b with
   |some (.cells cs)=>
    bif Nat.beq cs.length h&&Nat.ble (off+len*sz) h then
     match bJ (fi H f) ((cs.drop off).take (len*sz))with
      |some l=>some (.list (eL sz len l))
      |none=>none
    else none
   |some .nil=>bif Nat.beq len 0 then some (.list [])else none
   |_=>none
 |_,_=>none
def kx:Nat:=6
def mi(H:ah):V→Option V
 | .agg cs=>
  match bJ (fi H kx) cs with
   |some l=>some (.agg (l.map V.d))
   |none=>none
 | .gD=>some .gD
 | .bX=>some .bX
 | .ji=>some .ji
 |v=>
  match fi H kx v with
   |some x=>some (.d x)
   |none=>none
def fY(H:ah):V→Option V
 | .tuple vs=>
  match bJ (mi H) vs with
   |some l=>some (.tuple l)
   |none=>none
 |v=>mi H v
def bytesLess:List UInt8→List UInt8→Bool|_,[]=>false|[],_::_=>true|a::x,b::y=>bif Nat.blt a.toNat b.toNat then true else bif Nat.beq a.toNat b.toNat then bytesLess x y else false
def ai:List UInt8→List UInt8→Bool|[],[]=>true|a::x,b::y=>bif Nat.beq a.toNat b.toNat then ai x y else false|_,_=>false
def ky(op:BinOp)(k:IntKind)(a b:Int):Option D:=match op with
 | .add=>some (.int k (k.wrap (a+b)))
 | .sub=>some (.int k (k.wrap (a - b)))
 | .mul=>some (.int k (k.wrap (a*b)))
 | .quo=>if b=0 then none else some (.int k (k.wrap (a.tdiv b)))
 | .rem=>if b=0 then none else some (.int k (a.tmod b))
 | .and=>some (.int k (k.wrap (BitVec.ofInt k.bits a&&&BitVec.ofInt k.bits b).toNat))
 | .eql=>some (.bool (a==b))
 | .neq=>some (.bool (a !=b))
 | .lss=>some (.bool (decide (a<b)))
 | .leq=>some (.bool (decide (a≤b)))
 | .gtr=>some (.bool (decide (b<a)))
 | .geq=>some (.bool (decide (b≤a)))
 |_=>none
def FU:Nat:=2^62
def FV(op:BinOp)(a b:List UInt8):Option D:=match op with
 | .add=>if a.length+b.length≤FU then some (.str (a++b))else none
 | .eql=>some (.bool (ai a b))
 | .neq=>some (.bool (!ai a b))
 | .lss=>some (.bool (bytesLess a b))
 | .leq=>some (.bool (bytesLess a b||ai a b))
 | .gtr=>some (.bool !(bytesLess a b||ai a b))
 | .geq=>some (.bool !bytesLess a b)
 |_=>none
def j_(op:BinOp):V→V→Option V| .d (.int k a),.d (.int k' b)=>if k=k' then(ky op k a b).map .d else none| .d (.str a),.d (.str b)=>(FV op a b).map .d|_,_=>none
def yd:D→D→Option Bool| .int k a,.int k' b=>if k=k' then some (a==b)else none| .str a,.str b=>some (ai a b)| .bool a,.bool b=>some (a==b)|_,_=>none
def eM:cB→D→Bool| .int,.int _ _=>true| .str,.str _=>true| .bool,.bool _=>true|_,_=>false
def jk:List cB→List V→List V→Option Bool
 |[],[],[]=>some true
 |k::ks,.d x::xs,.d y::ys=>
  bif eM k x then
   match yd x y with
    |some true=>jk ks xs ys
    |some false=>some false
    |none=>none else none
 |_,_,_=>none
def wA(H:ah)(b h:Nat):Option Bool:=match aA H b with
 |some (.cells cs)=>bif Nat.beq cs.length h then some false else none
 |some .nil=>bif Nat.beq h 0 then some true else none
 |_=>none
def FW(H:ah)(k:pU)(x y:V):Option Bool:=match k,x,y with
 | .slice,.sl b h _ _ _,.ab=>wA H b h
 | .slice,.ab,.sl b h _ _ _=>wA H b h
 | .ptr,.ji,.ptr _ _ _=>some false
 | .ptr,.ptr _ _ _,.ji=>some false
 | .func,.func _ _ _,.mh=>some false
 | .func,.mh,.mh=>some true
 | .bool,.d (.bool a),.d (.bool b)=>some (a==b)
 | .ptr,.ji,.ji=>some true
 | .ptr,.ji,.cA _=>some false
 | .ptr,.cA _,.ji=>some false
 | .iface,.gD,.gD=>some true
 | .iface,.bX,.gD=>some false
 | .iface,.gD,.bX=>some false
 | .iface,.iface _ _,.gD=>some false
 | .iface,.gD,.iface _ _=>some false
 | .slice,.ab,.ab=>some true
 | .slice,.d (.list (_::_)),.ab=>some false
 | .slice,.ab,.d (.list (_::_))=>some false
 |_,_,_=>none
def OF(op:UnOp):V→Option V
 | .d (.int k a)=>
  match op with
   | .neg=>some (.d (.int k (k.wrap (0 - a))))
   |_=>none
 | .d (.bool b)=>
  match op with
   | .not=>some (.d (.bool !b))
   |_=>none
 |_=>none
def putCells{α:Type}:List α→Nat→List α→List α|l,_,[]=>l|l,i,v::vs=>putCells (l.set i v) (i+1) vs
def dO(ρ:a_→V):List V→List (Nat×Nat×a_)→Option (List V)|cs,[]=>some cs|cs,(off,size,x)::ps=>let vs:=bK (ρ x);bif Nat.beq vs.length size&&Nat.ble (off+size) cs.length&&vs.all dE then dO ρ (putCells cs off vs) ps else none
def cY(H:ah)(n:Nat):V→Option (List V)
 | .ptr b h off=>
  match aA H b with
   |some (.cells cs)=>bif Nat.beq cs.length h&&Nat.ble (off+n) h then some ((cs.drop off).take n)else none
   |_=>none
 | .cA cs=>bif Nat.ble n cs.length then some ((cs.take n).map .d)else none
 |_=>none
def dz(H:ah)(n:Nat)(a x:V):Option (Nat×dU):=match a with
 | .ptr b h off=>
  match aA H b with
   |some (.cells cs)=>bif Nat.beq cs.length h&&Nat.ble (off+n) h&&Nat.beq (bK x).length n&&(bK x).all dE then some (b,.cells (putCells cs off (bK x)))else none
   |_=>none
 |_=>none
def cC(H:ah)(sz:Nat):V→Option (List V)
 | .ab=>some []
 | .d (.list es)=>bif es.all (fun e=>Nat.beq e.length sz)then some (es.flatten.map .d)else none
 | .d (.str s)=>bif Nat.beq sz 1 then some (s.map fun b=>.d (.int .u8 b.toNat))else none
 | .sl b h off len uy=>
  bif Nat.beq sz uy then
   match aA H b with
    |some (.cells cs)=>bif Nat.beq cs.length h&&Nat.ble (off+len*sz) h then some ((cs.drop off).take (len*sz))else none
    |some .nil=>bif Nat.beq len 0 then some []else none
    |_=>none
  else none
 |_=>none
def dp:V→Option Nat| .d (.int _ n)=>if 0≤n then some n.toNat else none|_=>none
def dP(H:ah)(b h:Nat):Bool:=match aA H b with
 |some (.cells cs)=>Nat.beq cs.length h
 |some .nil=>Nat.beq h 0
 |_=>false
def fZ(H:ah)(k:kW):V→Option Nat
 | .d (.str s)=>match k with| .str=>some s.length|_=>none
 | .d (.list es)=>match k with| .slice=>some es.length|_=>none
 | .ab=>match k with| .slice=>some 0|_=>none
 | .sl b h _ len _=>match k with| .slice=>bif dP H b h then some len else none|_=>none
 | .kV=>match k with| .map=>some 0|_=>none
 | .map b=>match k,aA H b with| .map,some (.map es)=>some es.length|_,_=>none
 |_=>none
def cq:Nat:=2^40
def cF(H:ah)(ns sz bytes:Nat)(x:V)(xs:List V):Option (V×Wr):=bif Nat.beq sz 0 then none else
 bif !(Nat.beq (xs.length%sz) 0)then none else
  bif !(xs.all dE)then none else
   match x with
    | .ab=>
     match xs with
      |[]=>some (.ab,none)
      |_=>bif Nat.ble (xs.length*(bytes+1)) cq then some (.sl ns xs.length 0 (xs.length / sz) sz,some (ns,.cells xs))else none
    | .sl b h off len uy=>
     bif Nat.beq sz uy then
      match aA H b with
       |some (.cells cs)=>
        bif Nat.beq cs.length h&&Nat.beq off 0&&Nat.beq (len*sz) h&&Nat.ble ((h+xs.length)*(bytes+1)) cq then some (.sl b (h+xs.length) 0 (len+xs.length / sz) sz,some (b,.cells (cs++xs)))
        else none
       |some .nil=>
        bif Nat.beq h 0&&Nat.beq off 0&&Nat.beq len 0 then
         match xs with
          |[]=>some (x,none)
          |_=>bif Nat.ble (xs.length*(bytes+1)) cq then some (.sl b xs.length 0 (xs.length / sz) sz,some (b,.cells xs))else none
        else none
       |_=>none
     else none
    |_=>none
def bounds(ρ:a_→V)(len:Nat)(lo hi:Option a_):Option (Nat×Nat):=match(match hi with|some x=>dp (ρ x)|none=>some len)with
 |none=>none
 |some h=>
  match(match lo with|some x=>dp (ρ x)|none=>some 0)with
   |none=>none
   |some l=>bif Nat.ble l h&&Nat.ble h len then some (l,h)else none
def kz(k:D):List (D×V)→Nat→Option (Option (Nat×V))
 |[],_=>some none
 |(x,v)::es,i=>
  match yd k x with
   |some true=>some (some (i,v))
   |some false=>kz k es (i+1)
   |none=>none
def lS(H:ah):V→Option (List (D×V))
 | .kV=>some []
 | .map b=>match aA H b with|some (.map es)=>some es|_=>none
 |_=>none
def bd(ρ:a_→V):List a_→List V|[]=>[]|x::xs=>ρ x::bd ρ xs
def nY(isMax:Bool):Int→List V→IntKind→Option Int|a,[],_=>some a|a,.d (.int k b)::l,k'=>if k=k' then nY isMax (if isMax then(if a<b then b else a)else(if b<a then b else a)) l k' else none|_,_,_=>none
def uE(b hh off sz l h:Nat):V:=bif Nat.beq l h&& !(Nat.beq l 0)then .d (.list [])else .sl b hh (off+l*sz) (h - l) sz
def bu(ρ:a_→V)(H:ah)(ns:Nat):ki→Option (V×Wr)
 | .mv x=>some (ρ x,none)
 | .pick c a b=>
  match ρ c with
   | .d (.bool t)=>some (bif t then ρ a else ρ b,none)
   |_=>none
 | .alloc z=>some (.ptr ns z.length 0,some (ns,.cells z))
 | .box n x=>let cs:=bK (ρ x);bif Nat.beq cs.length n&&cs.all dE then some (.ptr ns n 0,some (ns,.cells cs))else none
 | .build z ps=>(dO ρ z ps).map fun cs=>(.agg cs,none)
 | .mkSlice sz len z ps=>bif Nat.beq z.length (len*sz)&&z.all dE then(dO ρ z ps).map fun cs=>(.sl ns (len*sz) 0 len sz,some (ns,.cells cs))else none
 | .load n agg a=>
  match cY H n (ρ a)with
   |some cs=>(oW agg cs).map fun v=>(v,none)
   |none=>none
 | .store n a x=>(dz H n (ρ a) (ρ x)).map fun p=>(.any,some p)
 | .fW x=>
  match ρ x with
   | .ptr b h off=>some (.ptr b h off,none)
   | .cA cs=>some (.cA cs,none)
   | .func f a b=>some (.func f a b,none)
   |_=>none
 | .bin op x y=>(j_ op (ρ x) (ρ y)).map fun v=>(v,none)
 | .eq neg k x y=>(FW H k (ρ x) (ρ y)).map fun b=>(.d (.bool (bif neg then !b else b)),none)
 | .FJ neg ks x y=>
  match ρ x with
   | .agg a=>
    match ρ y with
     | .agg b=>
      match jk ks a b with
       |some r=>some (.d (.bool (bif neg then !r else r)),none)
       |none=>none
     |_=>none
   |_=>none
 | .un op x=>(OF op (ρ x)).map fun v=>(v,none)
 | .conv k x=>
  match ρ x with
   | .d (.int _ n)=>some (.d (.int k (k.wrap n)),none)
   |_=>none
 | .same x=>
  match ρ x with
   | .d (.str s)=>some (.d (.str s),none)
   |_=>none
 | .jj x=>
  match ρ x with
   | .d (.str s)=>some (.d (.list (s.map fun b=>[.int .u8 b.toNat])),none)
   |_=>none
 | .yp sz bytes z l c=>
  match dp (ρ l),dp (ρ c)with
   |some l,some c=>bif Nat.ble l c&&Nat.ble (c*(bytes+1)) cq&&Nat.ble c cq&&z.all dE&&Nat.beq z.length sz&&Nat.blt 0 sz then some (.sl ns (l*sz) 0 l sz,some (ns,.cells ((List.range (l*sz)).map fun i=>z.getD (i%sz) .any)))else none
   |_,_=>none
 | .cap x=>
  match ρ x with
   | .ab=>some (.d (.int .i64 0),none)
   |_=>none
 | .kZ sz bytes z x n=>
  match ρ x,dp (ρ n)with
   | .ab,some n=>bif Nat.blt 0 n&&Nat.ble (n*(bytes+1)) cq&&Nat.ble n cq&&z.all dE&&Nat.beq z.length sz&&Nat.blt 0 sz then some (.sl ns (n*sz) 0 n sz,some (ns,.cells ((List.range (n*sz)).map fun i=>z.getD (i%sz) .any)))else none
   |_,_=>none
 | .kX f a b=>some (.func f (bd ρ a) (bd ρ b),none)
 | .B6=>some (.map ns,some (ns,.map []))
 | .range m x=>
  bif m then
   match ρ x with
    | .map b=>
     match aA H b with
      |some (.map es)=>some (.iter ns b,some (ns,.dC b es.length []))
      |_=>none
    |_=>none else none
 | .entry x=>
  match ρ x with
   | .iter b m=>
    match aA H b with
     |some (.dC m' n seen)=>
      match aA H m with
       |some (.map es)=>
        bif Nat.beq m' m&&Nat.beq es.length n then
         match seen.getLast? with
          |some i=>
           match es[i]? with
            |some (k,v)=>some (.tuple [.d k,v],none)
            |none=>none
          |none=>none else none
       |_=>none
     |_=>none
   |_=>none
 | .kY x lo hi=>
  match ρ x with
   | .d (.str s)=>(bounds ρ s.length lo hi).map fun(l,h)=>(.d (.str ((s.take h).drop l)),none)
   |_=>none
 | .eu sz x lo hi=>
  match ρ x with
   | .d (.list es)=>bif es.all (fun e=>Nat.beq e.length sz)then(bounds ρ es.length lo hi).map fun(l,h)=>(.d (.list ((es.take h).drop l)),none)else none
   | .sl b hh off len uy=>bif Nat.beq sz uy&&dP H b hh then(bounds ρ len lo hi).map fun(l,h)=>(uE b hh off sz l h,none)else none
   | .ab=>(bounds ρ 0 lo hi).map fun _=>(.ab,none)
   |_=>none
 | .sB n sz x lo hi=>
  match ρ x with
   | .ptr b hh off=>bif dP H b hh&&Nat.ble (off+n*sz) hh&&Nat.blt 0 hh then(bounds ρ n lo hi).map fun(l,h)=>(uE b hh off sz l h,none)else none
   |_=>none
 | .Mj off n agg x=>
  match ρ x with
   | .agg cs=>bif Nat.ble (off+n) cs.length then(oW agg ((cs.drop off).take n)).map fun v=>(v,none)else none
   |_=>none
 | .fI off n x=>
  match ρ x with
   | .ptr b h o=>some (.ptr b h (o+off),none)
   | .cA cs=>some (.cA ((cs.drop off).take n),none)
   |_=>none
 | .db sz x i=>
  match dp (ρ i)with
   |none=>none
   |some j=>
    match ρ x with
     | .d (.list es)=>
      match es[j]? with
       |some e=>bif Nat.beq e.length sz then some (.cA e,none)else none
       |none=>none
     | .sl b h off len uy=>bif Nat.beq sz uy&&Nat.blt j len&&dP H b h then some (.ptr b h (off+j*sz),none)else none
     |_=>none
 | .sD len sz x i=>
  match dp (ρ i)with
   |none=>none
   |some j=>
    bif Nat.blt j len then
     match ρ x with
      | .ptr b h off=>some (.ptr b h (off+j*sz),none)
      | .cA cs=>some (.cA (cs.drop (j*sz)),none)
      |_=>none else none
 | .gF x i=>
  match dp (ρ i)with
   |none=>none
   |some j=>
    match ρ x with
     | .d (.str s)=>
      match s[j]? with
       |some b=>some (.d (.int .u8 b.toNat),none)
       |none=>none
     |_=>none
 | .Jf len sz agg x i=>
  match dp (ρ i)with
   |none=>none
   |some j=>
    match ρ x with
     | .agg cs=>bif Nat.blt j len&&Nat.ble (len*sz) cs.length then(oW agg ((cs.drop (j*sz)).take sz)).map fun v=>(v,none)else none
     |_=>none
 | .ext x i=>
  match ρ x with
   | .tuple vs=>vs[i]?.map fun v=>(v,none)
   |_=>none
 | .len k x=>
  match k with
   | .arr n=>some (.d (.int .i64 n),none)
   |k=>
    match fZ H k (ρ x)with
     |some n=>some (.d (.int .i64 (n:Nat)),none)
     |none=>none
 | .append sz bytes x y=>
  match cC H sz (ρ y)with
   |some xs=>cF H ns sz bytes (ρ x) xs
   |none=>none
 | .m_ t x=>some (.iface t (ρ x),none)
 | .pV isMax xs=>
  match bd ρ xs with
   | .d (.int k a)::l=>(nY isMax a l k).map fun n=>(.d (.int k n),none)
   |_=>none
 | .lookup kk z ok m k=>
  match ρ k with
   | .d kd=>
    bif eM kk kd then
     match lS H (ρ m)with
      |some es=>
       match kz kd es 0 with
        |some (some (_,v))=>some (bif ok then .tuple [v,.d (.bool true)]else v,none)
        |some none=>some (bif ok then .tuple [z,.d (.bool false)]else z,none)
        |none=>none
      |none=>none else none
   |_=>none
 | .fX kk m k x=>
  match ρ m,ρ k with
   | .map b,.d kd=>
    bif eM kk kd then
     match aA H b with
      |some (.map es)=>
       match kz kd es 0 with
        |some (some (i,_))=>some (.any,some (b,.map (es.set i (kd,ρ x))))
        |some none=>some (.any,some (b,.map (es++[(kd,ρ x)])))
        |none=>none
      |_=>none else none
   |_,_=>none
 |_=>none
end Fw
/-
  What a value of the abstract machine says of a value of the model: the relation, and what keeps it.
-/
namespace Fw
open Go
mutual
def Rd(w:World)(im:Nat→Prop):D→Value→Prop| .bool b,v=>v=.bool b| .int k n,v=>v=.int k n| .str l,v=>∃s:ByteArray,v=.string s∧s.data.toList=l| .list es,v=>(es=[]∧(v=.slice none 0 0∨∃a c,v=.slice (some a) 0 c))∨∃aO off cap sz,v=.slice (some ⟨aO,off,none⟩) es.length cap∧es.length≤cap∧(es≠[]→im aO)∧iG w im aO off sz es
def iG(w:World)(im:Nat→Prop)(aO off sz:Nat):List (List D)→Prop|[]=>True|e::es=>e.length=sz∧dh w im aO off e∧iG w im aO (off+sz) sz es
def dh(w:World)(im:Nat→Prop)(aO off:Nat):List D→Prop|[]=>True|d::ds=>(∃v,w.cell? ⟨aO,off,none⟩=some v∧Rd w im d v)∧dh w im aO (off+1) ds
end
def jl(w w':World)(im uF:Nat→Prop):Prop:=∀k,im k→uF k∧w'.heap[k]? =w.heap[k]?
theorem jl.cell{w w':World}{im uF:Nat→Prop}(h:jl w w' im uF){k o:Nat}(hk:im k):w'.cell? ⟨k,o,none⟩=w.cell? ⟨k,o,none⟩:=by have:=(h k hk).2;simp[World.cell?,this]
mutual
theorem Rd.keeps{w w':World}{im uF:Nat→Prop}(h:jl w w' im uF):∀(d:D)(v:Value),Rd w im d v→Rd w' uF d v
 | .bool _,_,hd=>by simpa only[Rd]using hd
 | .int _ _,_,hd=>by simpa only[Rd]using hd
 | .str _,_,hd=>by simpa only[Rd]using hd
 | .list es,v,hd=>by
  simp only[Rd]at hd⊢;rcases hd with hd|⟨aO,off,cap,sz,h1,h2,h3,h4⟩
  ·exact .inl hd
  ·refine .inr ⟨aO,off,cap,sz,h1,h2,fun hn=>(h _ (h3 hn)).1,?_ ⟩;cases es with
    |nil=>simp only[iG]
    |cons e es=>exact iG.keeps h (h3 (by simp)) _ _ _ h4
theorem iG.keeps{w w':World}{im uF:Nat→Prop}(h:jl w w' im uF){aO:Nat}(hb:im aO):∀(off sz:Nat)(es:List (List D)),iG w im aO off sz es→iG w' uF aO off sz es
 |_,_,[],_=>by simp only[iG]
 |off,sz,e::es,hd=>by simp only[iG]at hd⊢;exact⟨hd.1,dh.keeps h hb _ _ hd.2.1,iG.keeps h hb _ _ _ hd.2.2⟩
theorem dh.keeps{w w':World}{im uF:Nat→Prop}(h:jl w w' im uF){aO:Nat}(hb:im aO):∀(off:Nat)(ds:List D),dh w im aO off ds→dh w' uF aO off ds
 |_,[],_=>by simp only[dh]
 |off,d::ds,hd=>by simp only[dh]at hd⊢;obtain⟨⟨v,h1,h2⟩,h3⟩:=hd;exact⟨⟨v,by rw[h.cell hb];exact h1,Rd.keeps h _ _ h2⟩,dh.keeps h hb _ _ h3⟩
end
inductive GB where
 |cells (aO cp cur:Nat)
 |nil
 |obj (aO:Nat)
def GB.own:GB→Option Nat| .cells b _ _=>some b| .nil=>none| .obj b=>some b
structure G where
 cK:Nat→Prop
 γ:Nat→Option GB
 fo:Nat→Prop
def da(g:G)(w:World)(k:Nat):Prop:=k<w.heap.size∧¬g.fo k∧∀b x,g.γ b=some x→x.own≠some k
mutual
def RV(g:G)(w:World):V→Value→Prop
 | .any,_=>True
 | .d x,v=>Rd w (da g w) x v
 | .ab,v=>v=.slice none 0 0
 | .ptr b h off,v=>((∃aO o,v=.pointer (some ⟨aO,o,none⟩))∧g.cK b)∧∀x,g.γ b=some x→∃aO cp cur,x=.cells aO cp cur∧(cur=h→v=.pointer (some ⟨aO,off,none⟩))∧h≤cur
 | .ji,v=>v=.pointer none
 | .cA cs,v=>∃aO off,v=.pointer (some ⟨aO,off,none⟩)∧(cs≠[]→da g w aO)∧dh w (da g w) aO off cs
 | .sl b h off len sz,v=>
  (v.oneCell'=true∧g.cK b)∧∀x,g.γ b=some x→match x with
   | .nil=>h=0∧len=0∧off=0∧v=.slice none 0 0
   | .cells aO cp cur=>h≤cur∧(cur=h→∃cap,v=.slice (some ⟨aO,off,none⟩) len cap∧len≤cap∧off+cap*sz≤cp)
   | .obj _=>False
 | .map b,v=>(v.oneCell'=true∧g.cK b)∧∀x,g.γ b=some x→∃aO,x=.obj aO∧v=.map (some aO)
 | .kV,v=>v=.map none
 | .func f a c,v=>∃x y,v=.func (.func f) x y∧aP g w a x.toList∧aP g w c y.toList
 | .mh,v=>v=.nilFunc
 | .iface t u,v=>∃x,v=.iface t x∧RV g w u x
 | .bX,v=>∃t x,v=.iface t x
 | .gD,v=>v=.nilIface
 | .agg cs,v=>∃x,v=.agg x∧aP g w cs x.toList
 | .tuple vs,v=>∃x,v=.tuple x∧aP g w vs x.toList
 | .iter b _,v=>(v.oneCell'=true∧g.cK b)∧∀x,g.γ b=some x→∃aO,x=.obj aO∧v=.pointer (some ⟨aO,0,none⟩)
def aP(g:G)(w:World):List V→List Value→Prop|[],[]=>True|a::as,b::bs=>RV g w a b∧aP g w as bs|_,_=>False
end
def GB.step:Option GB→Option GB→Prop|_,none=>True|none,some _=>False|some (.cells b c u),some x=>x=.cells b c u∨∃b' c' u',x=.cells b' c' u'∧u<u'|some .nil,some x=>x=.nil∨∃b' c' u',x=.cells b' c' u'∧0<u'|some (.obj b),some x=>x=.obj b
theorem GB.step.refl:∀x,GB.step x x|none=>trivial|some (.cells _ _ _)=>.inl rfl|some .nil=>.inl rfl|some (.obj _)=>rfl
structure ch (g:G) (w:World) (g':G) (w':World):Prop where
 os:w'.os=w.os
 tape:w'.tape=w.tape
 output:w'.output=w.output
 size:w.heap.size≤w'.heap.size
 keeps:jl w w' (da g w) (da g' w')
 cK:∀b,g.cK b→g'.cK b
 step:∀b,g.cK b→GB.step (g.γ b) (g'.γ b)
 fo:g'.fo=g.fo
 eD:∀k,g.fo k→w'.heap[k]? =w.heap[k]?
theorem ch.refl(g:G)(w:World):ch g w g w:=⟨rfl,rfl,rfl,aao _,fun _ h=>⟨h,rfl⟩,fun _ h=>h,fun _ _=>GB.step.refl _,rfl,fun _ _=>rfl⟩
theorem GB.step.trans:∀{x y z:Option GB},GB.step x y→GB.step y z→GB.step x z
 |_,_,none,_,_=>by simp only[GB.step]
 |x,none,some z,_,h=>by simp only[GB.step]at h
 |none,some y,_,h,_=>by simp only[GB.step]at h
 |some (.cells b c u),some y,some z,h1,h2=>by
  rcases h1 with rfl|⟨b',c',u',rfl,hu⟩
  ·exact h2
  ·rcases h2 with rfl|⟨b2,c2,u2,rfl,FK⟩
   ·exact .inr ⟨_,_,_,rfl,hu⟩
   ·exact .inr ⟨_,_,_,rfl,by omega⟩
 |some .nil,some y,some z,h1,h2=>by
  rcases h1 with rfl|⟨b',c',u',rfl,hu⟩
  ·exact h2
  ·rcases h2 with rfl|⟨b2,c2,u2,rfl,FK⟩
   ·exact .inr ⟨_,_,_,rfl,hu⟩
   ·exact .inr ⟨_,_,_,rfl,by omega⟩
 |some (.obj b),some y,some z,h1,h2=>by simp only[GB.step]at h1;subst h1;exact h2
theorem ch.trans{g g' XY:G}{w w' T6:World}(h:ch g w g' w')(k:ch g' w' XY T6):ch g w XY T6:=⟨k.os.trans h.os,k.tape.trans h.tape,k.output.trans h.output,aa_ h.size k.size,fun b hb=>⟨(k.keeps b (h.keeps b hb).1).1,((k.keeps b (h.keeps b hb).1).2).trans (h.keeps b hb).2⟩,fun b hb=>k.cK b (h.cK b hb),fun b hb=>(h.step b hb).trans (k.step b (h.cK b hb)),k.fo.trans h.fo,fun b hb=>(k.eD b (by rw[h.fo];exact hb)).trans (h.eD b hb)⟩
mutual
theorem RV.ext{g g':G}{w w':World}(h:ch g w g' w'):∀(u:V)(v:Value),RV g w u v→RV g' w' u v
 | .any,_,_=>by simp only[RV]
 | .d x,v,hv=>by simp only[RV]at hv⊢;exact Rd.keeps h.keeps _ _ hv
 | .ab,_,hv=>by simpa only[RV]using hv
 | .ptr b hh off,v,hv=>by
  simp only[RV]at hv⊢;refine⟨⟨hv.1.1,h.cK b hv.1.2⟩,fun x hx=>?_ ⟩;have hs:=h.step b hv.1.2;rw[hx]at hs;cases hb:g.γ b with
   |none=>rw[hb]at hs;exact hs.elim
   |some y=>
    obtain⟨aO,cp,cur,rfl,h1,h2⟩:=hv.2 y hb;rw[hb]at hs;rcases hs with rfl|⟨b',c',u',rfl,hu⟩
    ·exact⟨_,_,_,rfl,h1,h2⟩
    ·exact⟨_,_,_,rfl,fun e=>by omega,by omega⟩
 | .ji,_,hv=>by simpa only[RV]using hv
 | .cA cs,v,hv=>by
  simp only[RV]at hv⊢;obtain⟨aO,off,h1,h2,h3⟩:=hv;refine⟨aO,off,h1,fun hn=>(h.keeps _ (h2 hn)).1,?_ ⟩;cases cs with
   |nil=>simp only[dh]
   |cons c cs=>exact dh.keeps h.keeps (h2 (by simp)) _ _ h3
 | .sl b hh off len sz,v,hv=>by
  simp only[RV]at hv⊢;refine⟨⟨hv.1.1,h.cK b hv.1.2⟩,fun x hx=>?_ ⟩;have hs:=h.step b hv.1.2;rw[hx]at hs;cases hb:g.γ b with
   |none=>rw[hb]at hs;exact hs.elim
   |some y=>
    have hy:=hv.2 y hb;rw[hb]at hs;cases y with
     |nil=>
      rcases hs with rfl|⟨b',c',u',rfl,hu⟩
      ·exact hy
      ·exact⟨by omega,fun e=>by omega⟩
     |cells bb cc uu=>
      rcases hs with rfl|⟨b',c',u',rfl,hu⟩
      ·exact hy
      ·exact⟨by have:=hy.1;omega,fun e=>by have:=hy.1;omega⟩
     |obj bb=>exact hy.elim
 | .map b,v,hv=>by
  simp only[RV]at hv⊢;refine⟨⟨hv.1.1,h.cK b hv.1.2⟩,fun x hx=>?_ ⟩;have hs:=h.step b hv.1.2;rw[hx]at hs;cases hb:g.γ b with
   |none=>rw[hb]at hs;exact hs.elim
   |some y=>obtain⟨aO,rfl,h1⟩:=hv.2 y hb;rw[hb]at hs;simp only[GB.step]at hs;exact⟨aO,hs,h1⟩
 | .kV,_,hv=>by simpa only[RV]using hv
 | .func f a c,v,hv=>by simp only[RV]at hv⊢;obtain⟨x,y,h1,h2,h3⟩:=hv;exact⟨x,y,h1,aP.ext h _ _ h2,aP.ext h _ _ h3⟩
 | .mh,_,hv=>by simpa only[RV]using hv
 | .iface t u,v,hv=>by simp only[RV]at hv⊢;obtain⟨x,h1,h2⟩:=hv;exact⟨x,h1,RV.ext h _ _ h2⟩
 | .bX,_,hv=>by simpa only[RV]using hv
 | .gD,_,hv=>by simpa only[RV]using hv
 | .agg cs,v,hv=>by simp only[RV]at hv⊢;obtain⟨x,h1,h2⟩:=hv;exact⟨x,h1,aP.ext h _ _ h2⟩
 | .tuple vs,v,hv=>by simp only[RV]at hv⊢;obtain⟨x,h1,h2⟩:=hv;exact⟨x,h1,aP.ext h _ _ h2⟩
 | .iter b _,v,hv=>by
  simp only[RV]at hv⊢;refine⟨⟨hv.1.1,h.cK b hv.1.2⟩,fun x hx=>?_ ⟩;have hs:=h.step b hv.1.2;rw[hx]at hs;cases hb:g.γ b with
   |none=>rw[hb]at hs;exact hs.elim
   |some y=>obtain⟨aO,rfl,h1⟩:=hv.2 y hb;rw[hb]at hs;simp only[GB.step]at hs;exact⟨aO,hs,h1⟩
theorem aP.ext{g g':G}{w w':World}(h:ch g w g' w'):∀(us:List V)(vs:List Value),aP g w us vs→aP g' w' us vs
 |[],[],_=>by simp only[aP]
 |u::us,v::vs,hv=>by simp only[aP]at hv⊢;exact⟨RV.ext h _ _ hv.1,aP.ext h _ _ hv.2⟩
 |[],_::_,hv=>by simp only[aP]at hv
 |_::_,[],hv=>by simp only[aP]at hv
end
theorem RV.one{g:G}{w:World}:∀{u:V}{v:Value},dE u=true→RV g w u v→v.oneCell'=true:=by
 intro u v hu hv;cases u with
  |any=>simp[dE]at hu
  |agg=>simp[dE]at hu
  |tuple=>simp[dE]at hu
  |d x=>
   cases x with
    |bool=>simp only[RV,Rd]at hv;subst hv;rfl
    |int=>simp only[RV,Rd]at hv;subst hv;rfl
    |str=>simp only[RV,Rd]at hv;obtain⟨s,rfl,_⟩:=hv;rfl
    |list es=>simp only[RV,Rd]at hv;rcases hv with⟨_,rfl|⟨_,_,rfl⟩⟩|⟨_,_,_,_,rfl,_⟩<;>rfl
  |ab=>simp only[RV]at hv;subst hv;rfl
  |ji=>simp only[RV]at hv;subst hv;rfl
  |kV=>simp only[RV]at hv;subst hv;rfl
  |mh=>simp only[RV]at hv;subst hv;rfl
  |gD=>simp only[RV]at hv;subst hv;rfl
  |cA=>simp only[RV]at hv;obtain⟨_,_,rfl,_⟩:=hv;rfl
  |func=>simp only[RV]at hv;obtain⟨_,_,rfl,_⟩:=hv;rfl
  |iface=>simp only[RV]at hv;obtain⟨_,rfl,_⟩:=hv;rfl
  |bX=>simp only[RV]at hv;obtain⟨_,_,rfl⟩:=hv;rfl
  |ptr=>simp only[RV]at hv;obtain⟨⟨⟨_,_,rfl⟩,_⟩,_⟩:=hv;rfl
  |sl=>simp only[RV]at hv;exact hv.1.1
  |map=>simp only[RV]at hv;exact hv.1.1
  |iter=>simp only[RV]at hv;exact hv.1.1
theorem aP.length{g:G}{w:World}:∀{us:List V}{vs:List Value},aP g w us vs→us.length=vs.length
 |[],[],_=>rfl
 |u::us,v::vs,h=>by simp only[aP]at h;simp[aP.length h.2]
 |[],_::_,h=>by simp only[aP]at h
 |_::_,[],h=>by simp only[aP]at h
theorem aP.get{g:G}{w:World}:∀{us:List V}{vs:List Value}(i:Nat){u:V},aP g w us vs→us[i]? =some u→∃v,vs[i]? =some v∧RV g w u v
 |[],[],i,u,_,hu=>by simp at hu
 |x::us,v::vs,0,u,h,hu=>by simp only[aP]at h;simp at hu;subst hu;exact⟨v,rfl,h.1⟩
 |x::us,v::vs,i+1,u,h,hu=>by simp only[aP]at h;simp at hu⊢;exact aP.get i h.2 hu
 |[],_::_,_,_,h,_=>by simp only[aP]at h
 |_::_,[],_,_,h,_=>by simp only[aP]at h
theorem aP.append{g:G}{w:World}:∀{us:List V}{vs:List Value}{XZ:List V}{To:List Value},aP g w us vs→aP g w XZ To→aP g w (us++XZ) (vs++To)
 |[],[],_,_,_,h=>by simpa using h
 |u::us,v::vs,_,_,h,h'=>by simp only[aP]at h;simp only[abo,aP];exact⟨h.1,aP.append h.2 h'⟩
 |[],_::_,_,_,h,_=>by simp only[aP]at h
 |_::_,[],_,_,h,_=>by simp only[aP]at h
theorem aP.take{g:G}{w:World}:∀{us:List V}{vs:List Value}(n:Nat),aP g w us vs→aP g w (us.take n) (vs.take n)
 |[],[],n,_=>by simp[aP]
 |u::us,v::vs,0,h=>by simp[aP]
 |u::us,v::vs,n+1,h=>by simp only[aP]at h;simp only[acu,aP];exact⟨h.1,aP.take n h.2⟩
 |[],_::_,_,h=>by simp only[aP]at h
 |_::_,[],_,h=>by simp only[aP]at h
theorem aP.drop{g:G}{w:World}:∀{us:List V}{vs:List Value}(n:Nat),aP g w us vs→aP g w (us.drop n) (vs.drop n)
 |[],[],n,_=>by simp[aP]
 |u::us,v::vs,0,h=>by simpa using h
 |u::us,v::vs,n+1,h=>by simp only[aP]at h;simp only[acv];exact aP.drop n h.2
 |[],_::_,_,h=>by simp only[aP]at h
 |_::_,[],_,h=>by simp only[aP]at h
theorem aP.set{g:G}{w:World}:∀{us:List V}{vs:List Value}(n:Nat){u:V}{v:Value},aP g w us vs→RV g w u v→aP g w (us.set n u) (vs.set n v)
 |[],[],n,_,_,_,_=>by simp[aP]
 |u::us,v::vs,0,_,_,h,hv=>by simp only[aP]at h;simp only[ab8,aP];exact⟨hv,h.2⟩
 |u::us,v::vs,n+1,_,_,h,hv=>by simp only[aP]at h;simp only[abR,aP];exact⟨h.1,aP.set n h.2 hv⟩
 |[],_::_,_,_,_,h,_=>by simp only[aP]at h
 |_::_,[],_,_,_,h,_=>by simp only[aP]at h
theorem aP.one{g:G}{w:World}:∀{us:List V}{vs:List Value},us.all dE=true→aP g w us vs→∀v∈vs,v.oneCell'=true
 |[],[],_,_=>by simp
 |u::us,v::vs,hu,h=>by
  simp only[aP]at h;simp only[aaF,aac]at hu;intro x hx;rcases aaH.1 hx with rfl|hx
  ·exact RV.one hu.1 h.1
  ·exact aP.one hu.2 h.2 x hx
 |[],_::_,_,h=>by simp only[aP]at h
 |_::_,[],_,h=>by simp only[aP]at h
theorem dh.pW{g:G}{w:World}{aO:Nat}:∀{off:Nat}{ds:List D},dh w (da g w) aO off ds→∃vs,aP g w (ds.map V.d) vs∧∀j v,vs[j]? =some v→w.cell? ⟨aO,off+j,none⟩=some v
 |_,[],_=>⟨[],by simp[aP],by simp⟩
 |off,d::ds,h=>by
  simp only[dh]at h;obtain⟨⟨v,h1,h2⟩,h3⟩:=h;obtain⟨vs,h4,h5⟩:=dh.pW h3;refine⟨v::vs,by simp only[aax,aP,RV];exact⟨h2,h4⟩,fun j u hu=>?_ ⟩;cases j with
   |zero=>simp at hu;subst hu;exact h1
   |succ j=>simp at hu;rw[show off+(j+1)=off+1+j by omega];exact h5 j u hu
def RB(g:G)(w:World):GB→dU→Prop| .cells aO cp cur,.cells cs=>cur=cs.length∧cs.all dE=true∧cs.length≤cp∧∃c e,w.heap[aO]? =some (.cells c e (0,0))∧cp≤c.size∧aP g w cs (c.toList.take cs.length)| .nil,.nil=>True| .obj aO,.map es=>∃bN clock,w.heap[aO]? =some (.map bN clock)∧bN.size=es.length∧(∀(i:Nat)(k:D)(v:V),es[i]? =some (k,v)→∃x,bN[i]? =some x∧x.born<clock∧Rd w (da g w) k x.key∧RV g w v x.val)∧(∀(i:Nat)(x:MapEntry),bN[i]? =some x→x.born=i)∧clock=bN.size| .obj aO,.dC m n seen=>∃mb sa,w.heap[aO]? =some (.mapIter (some mb) n sa n)∧sa.toList=seen∧g.cK m∧∀x,g.γ m=some x→x=.obj mb| .obj aO,.yo s pos=>∃b:ByteArray,w.heap[aO]? =some (.stringIter b pos)∧b.data.toList=s|_,_=>False
structure av (g:G) (w:World) (H:ah):Prop where
 cK:∀b,g.cK b→b<H.length
 live:∀b x,g.γ b=some x→g.cK b∧∃y,aA H b=some y∧RB g w x y
 back:∀b y,aA H b=some y→∃x,g.γ b=some x
 inj:∀b b' x x' k,g.γ b=some x→g.γ b'=some x'→x.own=some k→x'.own=some k→b=b'
 fo:∀k,g.fo k→k<w.heap.size∧∀b x,g.γ b=some x→x.own≠some k
structure f_ (GL:ca) (g:G) (w:World):Prop where
 rd:∀n cs,GL.rd n=some cs→da g w n∧dh w (da g w) n 0 cs
 w0:∀k,k<GL.w0.heap.size→da g w k∧w.heap[k]? =GL.w0.heap[k]?
structure R (GL:ca) (g:G) (w:World) (a:Act) (σ:St):Prop where
 defers:a.defers=[]
 size:a.tmps.size=σ.n
 tmps:∀t,RV g w (get σ.tm t) (a.tmps.getD t undef)
 heap:av g w σ.hp
 dQ:f_ GL g w
theorem f_.ext{GL:ca}{g g':G}{w w':World}(h:ch g w g' w')(hg:f_ GL g w):f_ GL g' w':=⟨fun n cs hn=>⟨(h.keeps _ (hg.rd n cs hn).1).1,dh.keeps h.keeps (hg.rd n cs hn).1 _ _ (hg.rd n cs hn).2⟩,fun k hk=>⟨(h.keeps _ (hg.w0 k hk).1).1,(h.keeps _ (hg.w0 k hk).1).2.trans (hg.w0 k hk).2⟩⟩
theorem cw{a b:Nat}(h:a≠b):Nat.beq a b=false:=by
 cases hh:Nat.beq a b
 ·rfl
 ·exact absurd (aah hh) h
theorem na(l:List (Nat×V))(t s:Nat)(v:V):get (put l t v) s=if s=t then v else get l s:=by
 induction l with
  |nil=>
   simp only[put,get];by_cases h:s=t
   ·subst h;simp
   ·have:Nat.beq t s=false:=cw (by omega);simp[this,h]
  |cons p l ih=>
   obtain⟨q,u⟩:=p;simp only[put];by_cases hq:q=t
   ·subst hq;simp only[aaz,aag,get];by_cases h:s=q
    ·subst h;simp
    ·have:Nat.beq q s=false:=cw (by omega);simp[this,h]
   ·have hb:Nat.beq q t=false:=cw hq;simp only[hb,aaw];cases hle:Nat.ble t q with
     |true=>
      simp only[aag,get];by_cases h:s=t
      ·subst h;simp
      ·have:Nat.beq t s=false:=cw (by omega);simp[this,h]
     |false=>
      simp only[aaw,get,ih];by_cases h:s=t
      ·subst h;simp[hb]
      ·simp[h]
theorem R.put{GL:ca}{g g':G}{w w':World}{a:Act}{σ:St}{H':ah}(h:R GL g w a σ)(e:ch g w g' w')(hh:av g' w' H')(t:Nat)(v:V)(x:Value)(ht:t<σ.n)(hv:RV g' w' v x):R GL g' w' (a.put (some t) x) ⟨σ.n,Fw.put σ.tm t v,H'⟩:=by
 refine⟨h.defers,by simp[Act.put,h.size],fun s=>?_,hh,h.dQ.ext e⟩;simp only[na,Act.put];by_cases hs:s=t
 ·subst hs;have hs:s<a.tmps.size:=by rw[h.size];exact ht
  simp only[aa4];rw[aaj,aaI hs];exact hv
 ·simp only[hs,abt];rw[aaj,aaC (by omega),←aaj];exact RV.ext e _ _ (h.tmps s)
theorem R.FX{GL:ca}{g g':G}{w w':World}{a:Act}{σ:St}{H':ah}(h:R GL g w a σ)(e:ch g w g' w')(hh:av g' w' H')(x:Value):R GL g' w' (a.put none x) ⟨σ.n,σ.tm,H'⟩:=⟨h.defers,h.size,fun s=>RV.ext e _ _ (h.tmps s),hh,h.dQ.ext e⟩
theorem R.any{GL:ca}{g:G}{w:World}{a:Act}{σ:St}(h:R GL g w a σ)(t:Nat)(x:Value)(ht:t<σ.n):R GL g w (a.put (some t) x) ⟨σ.n,Fw.put σ.tm t .any,σ.hp⟩:=h.put (ch.refl _ _) h.heap t .any x ht (by simp only[RV])
end Fw
/-
  Steps of world and boxes: a new box, a box written, a box that has grown.
-/
namespace Fw
open Go
theorem RB.ext{g g':G}{w w':World}(h:ch g w g' w'){x:GB}{y:dU}(ho:∀k,x.own=some k→w'.heap[k]? =w.heap[k]? )(hr:RB g w x y):RB g' w' x y:=by
 cases x with
  |cells aO cp cur=>
   cases y with
    |cells cs=>simp only[RB]at hr⊢;obtain⟨h1,h2,h3,c,e,h4,h5,h6⟩:=hr;exact⟨h1,h2,h3,c,e,by rw[ho aO rfl];exact h4,h5,aP.ext h _ _ h6⟩
    |_=>simp only[RB]at hr
  |nil=>cases y<;>simp only[RB]at hr⊢
  |obj aO=>
   cases y with
    |map es=>simp only[RB]at hr⊢;obtain⟨bN,clock,h1,h2,h3,h4⟩:=hr;refine⟨bN,clock,by rw[ho aO rfl];exact h1,h2,fun i k v hi=>?_,h4⟩;obtain⟨z,OG,Jg,T7,T8⟩:=h3 i k v hi;exact⟨z,OG,Jg,Rd.keeps h.keeps _ _ T7,RV.ext h _ _ T8⟩
    |yo s pos=>simp only[RB]at hr⊢;obtain⟨b,h1,h2⟩:=hr;exact⟨b,by rw[ho aO rfl];exact h1,h2⟩
    |dC m n seen=>
     simp only[RB]at hr⊢;obtain⟨mb,sa,h1,h2,h3,h4⟩:=hr;refine⟨mb,sa,by rw[ho aO rfl];exact h1,h2,h.cK m h3,fun x hx=>?_ ⟩;have hs:=h.step m h3;rw[hx]at hs;cases hb:g.γ m with
      |none=>rw[hb]at hs;exact hs.elim
      |some y=>have:=h4 y hb;subst this;rw[hb]at hs;exact hs
    |_=>simp only[RB]at hr
theorem RB.lt{g:G}{w:World}{x:GB}{y:dU}(h:RB g w x y):∀k,x.own=some k→k<w.heap.size:=by
 intro k hk;have key:∀o,w.heap[k]? =some o→k<w.heap.size:=fun o ho=>(abc.1 ho).1
 cases x with
  |cells aO cp cur=>
   simp only[GB.own,aab]at hk;subst hk;cases y with
    |cells cs=>simp only[RB]at h;obtain⟨_,_,_,c,e,h4,_⟩:=h;exact key _ h4
    |_=>simp only[RB]at h
  |nil=>simp[GB.own]at hk
  |obj aO=>
   simp only[GB.own,aab]at hk;subst hk;cases y with
    |map es=>simp only[RB]at h;obtain⟨_,_,h4,_⟩:=h;exact key _ h4
    |yo s pos=>simp only[RB]at h;obtain⟨_,h4,_⟩:=h;exact key _ h4
    |dC m n seen=>simp only[RB]at h;obtain⟨_,_,h4,_⟩:=h;exact key _ h4
    |_=>simp only[RB]at h
theorem jO{H:ah}{b:Nat}{y:dU}(h:aA H b=some y):b<H.length:=by
 induction H generalizing b with
  |nil=>simp[aA]at h
  |cons z H ih=>
   cases b with
    |zero=>simp
    |succ b=>simp only[aA]at h;simpa using ih h
theorem er(H:ah)(b:Nat)(y:dU)(c:Nat):aA (bj H b y) c=if c=b then some y else aA H c:=by
 induction H generalizing b c with
  |nil=>
   induction b generalizing c with
    |zero=>cases c<;>simp[bj,aA]
    |succ b ih=>
     cases c with
      |zero=>simp[bj,aA]
      |succ c=>simp only[bj,aA,ih];simp
  |cons z H ih=>
   cases b with
    |zero=>cases c<;>simp[bj,aA]
    |succ b=>cases c<;>simp[bj,aA,ih]
theorem jm(H:ah)(b:Nat)(y:dU):aA (bj H b y) b=some y:=by rw[er,aan rfl]
theorem eS{H:ah}{b b':Nat}(y:dU)(h:b'≠b):aA (bj H b y) b'=aA H b':=by rw[er,aal h]
theorem B7{H:ah}{b:Nat}(h:H.length≤b):aA H b=none:=by
 cases hg:aA H b with
  |none=>rfl
  |some y=>have:=jO hg;omega
theorem ch.drawn(g:G)(w:World)(n:Nat):ch g w g {w with drawn:=n}:=⟨rfl,rfl,rfl,aao _,fun _ h=>⟨h,rfl⟩,fun _ h=>h,fun _ _=>GB.step.refl _,rfl,fun _ _=>rfl⟩
theorem av.ext{g:G}{w w':World}{H:ah}(hh:av g w H)(h:ch g w g w')(ho:∀b x k,g.γ b=some x→x.own=some k→w'.heap[k]? =w.heap[k]? ):av g w' H:=⟨hh.cK,fun b x hx=>by obtain⟨h1,y,h2,h3⟩:=hh.live b x hx;exact⟨h1,y,h2,RB.ext h (fun k hk=>ho b x k hx hk) h3⟩,hh.back,hh.inj,fun k hk=>⟨aa0 (hh.fo k hk).1 h.size,(hh.fo k hk).2⟩⟩
def G.add(g:G)(b:Nat)(x:GB):G:=⟨fun c=>g.cK c∨c=b,fun c=>if c=b then some x else g.γ c,g.fo⟩
def jn(g:G)(ns:Nat):Prop:=¬g.cK ns
theorem av.fresh{g:G}{w:World}{H:ah}(hh:av g w H):jn g H.length:=fun h=>by have:=hh.cK _ h;omega
theorem cL(w:World)(o:Obj){k:Nat}(h:k<w.heap.size):(w.alloc o).heap[k]? =w.heap[k]? :=by show(w.heap.push o)[k]? =_;rw[ab4,aal (by omega)]
theorem bS(w:World)(o:Obj):(w.alloc o).heap[w.heap.size]? =some o:=by show(w.heap.push o)[w.heap.size]? =_;rw[ab4,aan rfl]
theorem ch.new{g:G}{w:World}{H:ah}{ns:Nat}(hh:av g w H)(jo:jn g ns)(o:Obj)(x:GB)(hx:x.own=some w.heap.size):ch g w (g.add ns x) (w.alloc o):=by
 refine⟨rfl,rfl,rfl,by simp,?_,fun b h=>.inl h,?_,rfl,fun k hk=>cL _ _ (hh.fo k hk).1⟩
 ·intro k hk;refine⟨⟨by have:=hk.1;simp;omega,hk.2.1,fun b y hy=>?_ ⟩,cL _ _ hk.1⟩;simp only[G.add]at hy;split at hy
  ·simp only[aab]at hy;subst hy;rw[hx];intro e;have:=hk.1;simp only[aab]at e;omega
  ·exact hk.2.2 b y hy
 ·intro b hb;have:b≠ns:=by rintro rfl;exact jo hb
  simp only[G.add,this,abt];exact GB.step.refl _
theorem jP(H:ah)(b:Nat)(y:dU):H.length≤(bj H b y).length∧b<(bj H b y).length:=by
 induction H generalizing b with
  |nil=>
   induction b with
    |zero=>simp[bj]
    |succ b ih=>simp only[bj,aav];have:=ih.2;simp;omega
  |cons z H ih=>
   cases b with
    |zero=>simp[bj]
    |succ b=>simp only[bj,aav];have:=ih b;omega
theorem av.new{g:G}{w:World}{H:ah}{ns:Nat}(hh:av g w H)(jo:jn g ns)(o:Obj)(x:GB)(y:dU)(hx:x.own=some w.heap.size)(hr:RB (g.add ns x) (w.alloc o) x y):av (g.add ns x) (w.alloc o) (bj H ns y):=by
 have he:=ch.new hh jo o x hx;refine⟨?_,?_,?_,?_,?_⟩
 ·intro b hb;have hl:=jP H ns y;rcases hb with hb|rfl
  ·have:=hh.cK b hb;omega
  ·exact hl.2
 ·intro b z hz;simp only[G.add]at hz;split at hz
  ·rename_i hb;simp only[aab]at hz;subst hz;subst hb;exact⟨.inr rfl,y,jm _ _ _,hr⟩
  ·rename_i hb;obtain⟨h1,y',h2,h3⟩:=hh.live b z hz;refine⟨.inl h1,y',by rw[eS y hb];exact h2,RB.ext he (fun k hk=>cL _ _ (h3.lt k hk)) h3⟩
 ·intro b z hz;by_cases hb:b=ns
  ·exact⟨x,by simp[G.add,hb]⟩
  ·rw[eS y hb]at hz;obtain⟨q,hq⟩:=hh.back b z hz;exact⟨q,by simp[G.add,hb,hq]⟩
 ·intro b b' z z' k hz B8 hk iO;simp only[G.add]at hz B8;split at hz
  ·rename_i hb;split at B8
   ·rename_i Mk;rw[hb,Mk]
   ·simp only[aab]at hz;subst hz;rw[hx]at hk;simp only[aab]at hk;subst hk;obtain⟨_,_,_,h3⟩:=hh.live b' z' B8;have:=h3.lt _ iO;omega
  ·split at B8
   ·simp only[aab]at B8;subst B8;rw[hx]at iO;simp only[aab]at iO;subst iO;obtain⟨_,_,_,h3⟩:=hh.live b z hz;have:=h3.lt _ hk;omega
   ·exact hh.inj b b' z z' k hz B8 hk iO
 ·intro k hk;have hl:=(hh.fo k hk).1;refine⟨by simp;omega,fun c z hz=>?_ ⟩;simp only[G.add]at hz;split at hz
  ·simp only[aab]at hz;subst hz;rw[hx];intro e;simp only[aab]at e;omega
  ·exact(hh.fo k hk).2 c z hz
theorem ch.write{g:G}{w w':World}{b k:Nat}{x:GB}(hx:g.γ b=some x)(hk:x.own=some k)(Y9:¬g.fo k)(T9:w'.os=w.os)(ht:w'.tape=w.tape)(Ml:w'.output=w.output)(cx:w'.heap.size=w.heap.size)(hw:∀j,j≠k→w'.heap[j]? =w.heap[j]? ):ch g w g w':=by
 refine⟨T9,ht,Ml,by omega,fun j hj=>⟨⟨by have:=hj.1;omega,hj.2⟩,hw j ?_⟩,fun _ h=>h,fun _ _=>GB.step.refl _,rfl,fun j hj=>hw j ?_ ⟩
 ·rintro rfl;exact hj.2.2 b x hx hk
 ·rintro rfl;exact Y9 hj
theorem av.write{g:G}{w w':World}{H:ah}(hh:av g w H){b k:Nat}{x:GB}(y:dU)(hx:g.γ b=some x)(hk:x.own=some k)(he:ch g w g w')(hw:∀j,j≠k→w'.heap[j]? =w.heap[j]? )(hr:RB g w' x y):av g w' (bj H b y):=by
 refine⟨fun c hc=>aa0 (hh.cK c hc) (jP H b y).1,?_,?_,hh.inj,fun j hj=>⟨aa0 (hh.fo j hj).1 he.size,(hh.fo j hj).2⟩⟩
 ·intro c z hz;obtain⟨h1,y',h2,h3⟩:=hh.live c z hz;by_cases hc:c=b
  ·subst hc;rw[hx]at hz;simp only[aab]at hz;subst hz;exact⟨h1,y,jm _ _ _,hr⟩
  ·refine⟨h1,y',by rw[eS y hc];exact h2,RB.ext he (fun j hj=>hw j ?_ ) h3⟩;rintro rfl;exact hc (hh.inj c b z x j hz hx hj hk)
 ·intro c z hz;by_cases hc:c=b
  ·exact⟨x,by rw[hc];exact hx⟩
  ·rw[eS y hc]at hz;exact hh.back c z hz
def G.set(g:G)(b:Nat)(x:GB):G:=⟨g.cK,fun c=>if c=b then some x else g.γ c,g.fo⟩
theorem ch.grow{g:G}{w w':World}{b:Nat}{x x':GB}{ko:Option Nat}(B9:∀k,g.fo k→k<w.heap.size∧some k≠ko)(hx:g.γ b=some x)(OH:x.own=ko)(sF:GB.step (some x) (some x'))(hn:x'.own=ko∨∃k,x'.own=some k∧w.heap.size≤k)(T9:w'.os=w.os)(ht:w'.tape=w.tape)(Ml:w'.output=w.output)(cx:w.heap.size≤w'.heap.size)(hw:∀j,j<w.heap.size→some j≠ko→w'.heap[j]? =w.heap[j]? ):ch g w (g.set b x') w':=by
 refine⟨T9,ht,Ml,cx,fun j hj=>?_,fun _ h=>h,?_,rfl,fun j hj=>hw j (B9 j hj).1 (B9 j hj).2⟩
 ·have ew:some j≠ko:=by rw[←OH];intro e;exact hj.2.2 b x hx e.symm
  refine⟨⟨by have:=hj.1;omega,hj.2.1,fun c z hz=>?_ ⟩,hw j hj.1 ew⟩;simp only[G.set]at hz;split at hz
  ·simp only[aab]at hz;subst hz;rcases hn with h|⟨k,h,hl⟩
   ·rw[h];exact fun e=>ew e.symm
   ·rw[h];intro e;simp only[aab]at e;have:=hj.1;omega
  ·exact hj.2.2 c z hz
 ·intro c hc;simp only[G.set];split
  ·rename_i h;subst h;rw[hx];exact sF
  ·exact GB.step.refl _
theorem av.grow{g:G}{w w':World}{H:ah}(hh:av g w H){b:Nat}{x x':GB}{ko:Option Nat}(y:dU)(hx:g.γ b=some x)(OH:x.own=ko)(hn:x'.own=ko∨∃k,x'.own=some k∧w.heap.size≤k)(he:ch g w (g.set b x') w')(hw:∀j,j<w.heap.size→some j≠ko→w'.heap[j]? =w.heap[j]? )(hr:RB (g.set b x') w' x' y):av (g.set b x') w' (bj H b y):=by
 have AF:∀c z k,c≠b→g.γ c=some z→z.own=some k→k<w.heap.size∧some k≠ko:=by intro c z k hc hz hk;obtain⟨_,_,_,h3⟩:=hh.live c z hz;refine⟨h3.lt k hk,fun e=>hc (hh.inj c b z x k hz hx hk (by rw[OH,←e]))⟩
 refine⟨fun c hc=>aa0 (hh.cK c hc) (jP H b y).1,?_,?_,?_,?_ ⟩
 ·intro c z hz;simp only[G.set]at hz;split at hz
  ·rename_i hc;subst hc;simp only[aab]at hz;subst hz;obtain⟨h1,y',h2,h3⟩:=hh.live c x hx;exact⟨h1,y,jm _ _ _,hr⟩
  ·rename_i hc;obtain⟨h1,y',h2,h3⟩:=hh.live c z hz;exact⟨h1,y',by rw[eS y hc];exact h2,RB.ext he (fun j hj=>by obtain⟨p,q⟩:=AF c z j hc hz hj;exact hw j p q) h3⟩
 ·intro c z hz;by_cases hc:c=b
  ·exact⟨x',by simp[G.set,hc]⟩
  ·rw[eS y hc]at hz;obtain⟨q,hq⟩:=hh.back c z hz;exact⟨q,by simp[G.set,hc,hq]⟩
 ·intro c c' z z' k hz B8 hk iO;simp only[G.set]at hz B8;split at hz<;>split at B8
  ·rename_i h1 h2;rw[h1,h2]
  ·rename_i h1 h2;simp only[aab]at hz;subst hz;obtain⟨p,q⟩:=AF c' z' k h2 B8 iO;rcases hn with h|⟨j,h,hl⟩
   ·rw[h]at hk;exact absurd hk.symm q
   ·rw[h]at hk;simp only[aab]at hk;omega
  ·rename_i h1 h2;simp only[aab]at B8;subst B8;obtain⟨p,q⟩:=AF c z k h1 hz hk;rcases hn with h|⟨j,h,hl⟩
   ·rw[h]at iO;exact absurd iO.symm q
   ·rw[h]at iO;simp only[aab]at iO;omega
  ·exact hh.inj c c' z z' k hz B8 hk iO
 ·intro k hk;refine⟨aa0 (hh.fo k hk).1 he.size,fun c z hz=>?_ ⟩;simp only[G.set]at hz;split at hz
  ·simp only[aab]at hz;subst hz;rcases hn with h|⟨j,h,hl⟩
   ·rw[h,←OH];exact(hh.fo k hk).2 b x hx
   ·rw[h];intro e;simp only[aab]at e;have:=(hh.fo k hk).1;omega
  ·exact(hh.fo k hk).2 c z hz
theorem av.Mm{g:G}{w:World}{H:ah}(hh:av g w H){b:Nat}{x:GB}{ko:Option Nat}(hx:g.γ b=some x)(OH:x.own=ko):∀k,g.fo k→k<w.heap.size∧some k≠ko:=by intro k hk;refine⟨(hh.fo k hk).1,?_⟩;rw[←OH];exact fun e=>(hh.fo k hk).2 b x hx e.symm
theorem av.u5{g:G}{w:World}{H:ah}(hh:av g w H){b k:Nat}{x:GB}(hx:g.γ b=some x)(hk:x.own=some k):¬g.fo k:=fun h=>(hh.fo k h).2 b x hx hk
end Fw
/-
  From the model's code to the operations of the abstract machine.
-/
namespace Fw
open Go
def ye:Value→Option V| .bool b=>some (.d (.bool b))| .int k n=>some (.d (.int k n))| .string s=>some (.d (.str s.data.toList))| .slice none 0 0=>some .ab| .pointer none=>some .ji| .map none=>some .kV| .nilFunc=>some .mh| .nilIface=>some .gD|_=>none
def Tp:Value→Option V| .agg cs=>(bJ ye cs.toList).map .agg|v=>ye v
def au:Operand→Option a_| .tmp t=>some (.t t)| .const v=>(Tp v).map .c| .global g=>some (.g g)| .func f=>some (.f f)
def gf(P:Program)(t:TypeId):Option Nat:=(P.info? t).map (·.size)
def bytesOf(P:Program)(t:TypeId):Option Nat:=(P.info? t).map (·.bytes)
def mj(P:Program)(t:TypeId):Option Bool:=(P.underlying t).map fun| .struct _| .array _ _=>true|_=>false
def dF(P:Program)(t:TypeId):Option (List V):=((P.info? t).bind (·.zero)).bind fun z=>bJ ye z.cells.toList
def FY(P:Program)(t:TypeId):Option V:=((P.info? t).bind (·.zero)).bind Tp
def cG:Option Operand→Option (Option a_)|none=>some none|some x=>(au x).map some
def dG(place:Nat→Option (Nat×Nat)):List (Nat×Operand)→Option (List (Nat×Nat×a_))
 |[]=>some []
 |(i,x)::ps=>
  match place i with
   |none=>none
   |some (off,size)=>
    match au x with
     |none=>none
     |some y=>
      match dG place ps with
       |none=>none
       |some qs=>some ((off,size,y)::qs)
def k9(P:Program)(fs:Array Field)(i:Nat):Option (Nat×Nat):=(fs[i]? ).bind fun f=>(gf P f.type).map fun s=>(f.offset,s)
def Pt:TypeDesc→Bool| .slice _=>true| .string=>true|_=>false
def wB(P:Program)(t:TypeId):Option cB:=match P.underlying t with
 |some (.int _)=>some .int
 |some .string=>some .str
 |some .bool=>some .bool
 |_=>none
def ij(P:Program):Nat→List Field→Option (List cB)
 |_,[]=>some []
 |n,f::fs=>
  if f.offset=n∧f.name≠ "_" then
   match wB P f.type,ij P (n+1) fs with
    |some k,some ks=>some (k::ks)
    |_,_=>none else none
def jQ(P:Program)(t:TypeId):Option (List cB):=match P.underlying t with
 |some (.struct fs)=>if P.stoodInHeld t=false∧P.eqGuardType P.depth t=false then ij P 0 fs.toList else none
 |_=>none
def dH(P:Program)(c:Call):Option ki:=match c.callee with
 | .builtin .len=>
  match c.args.toList,c.argTypes.toList with
   |[x],[t]=>
    match P.underlying t with
     |some .string=>(au x).map (.len .str)
     |some (.slice _)=>(au x).map (.len .slice)
     |some (.map _ _)=>(au x).map (.len .map)
     |some (.array n _)=>(au x).map (.len (.arr n))
     |_=>none
   |_,_=>none
 | .builtin .append=>
  match c.args.toList,c.argTypes.toList with
   |[x,y],[t,u]=>
    match P.underlying t,P.underlying u with
     |some (.slice e),some (.int _)=>
      match P.info? e,dF P e,au x,au y with
       |some i,some z,some x',some y'=>some (.kZ i.size i.bytes z x' y')
       |_,_,_,_=>none
     |some (.slice e),some d=>
      match Pt d,P.info? e,dF P e,au x,au y with
       |true,some i,some z,some x',some y'=>if 0<i.size∧z.length=i.size then some (.append i.size i.bytes x' y')else none
       |_,_,_,_,_=>none
     |_,_=>none
   |_,_=>none
 | .builtin .cap=>
  match c.args.toList,c.argTypes.toList with
   |[x],[t]=>
    match P.underlying t with
     |some (.slice _)=>(au x).map .cap
     |_=>none
   |_,_=>none
 | .builtin .min=>(bJ au c.args.toList).map (.pV false)
 | .builtin .max=>(bJ au c.args.toList).map (.pV true)
 | .value (.func f)=>
  match(P.funcs[f]? ).map (fun fn=>(fn.body.isSome,fn.name== "runtime.NumGoroutine"))with
   |some (true,false)=>(bJ au c.args.toList).map (.call f)
   |_=>none
 | .value (.tmp t)=>(bJ au c.args.toList).map (.e_ (.t t))
 |_=>none
def bD(P:Program)(op:Op):Option ki:=match op with
 | .move x=>(au x).map .mv
 | .assign x=>(au x).map .mv
 | .pick c a b=>
  match au c,au a,au b with
   |some c',some a',some b'=>some (.pick c' a' b')
   |_,_,_=>none
 | .alloc t=>(dF P t).map .alloc
 | .box t x=>
  match gf P t,au x with
   |some n,some x'=>some (.box n x')
   |_,_=>none
 | .build t ps=>
  match P.underlying t,dF P t with
   |some (.struct fs),some z=>
    match fs.toList.mapM (fun f=>(P.info? f.type).map fun i=>(f.offset,i.size))with
     |some FZ=>(dG (fun i=>FZ.toArray[i]? ) ps.toList).map (.build z)
     |none=>none
   |some (.array _ e),some z=>
    match P.info? e with
     |some ie=>(dG (fun i=>some (i*ie.size,ie.size)) ps.toList).map (.build z)
     |none=>none
   |_,_=>none
 | .buildSlice t len ps=>
  match P.underlying t with
   |some (.slice e)=>
    match gf P e,dF P e with
     |some s,some z=>if len*s≤2^24∧z.length=s∧0<s then(dG (fun i=>some (i*s,s)) ps.toList).map (.mkSlice s len ((List.range (len*s)).map fun i=>z.getD (i%s) .any))else none
     |_,_=>none
   |_=>none
 | .load t a=>
  match gf P t,mj P t,au a with
   |some n,some g,some a'=>if g=true∨n=1 then some (.load n g a')else none
   |_,_,_=>none
 | .store t a x=>
  match gf P t,au a,au x with
   |some n,some a',some x'=>some (.store n a' x')
   |_,_,_=>none
 | .nilCheck x=>(au x).map .fW
 | .binOp op t x y _=>
  match au x,au y with
   |some x',some y'=>
    match op with
     | .eql=>
      match P.underlying t with
       |some (.int _)=>some (.bin op x' y')
       |some .string=>some (.bin op x' y')
       |some .bool=>some (.eq false .bool x' y')
       |some (.pointer _)=>some (.eq false .ptr x' y')
       |some (.slice _)=>some (.eq false .slice x' y')
       |some (.func _ _ _)=>some (.eq false .func x' y')
       |some (.struct _)=>(jQ P t).map fun ks=>.FJ false ks x' y'
       |some (.interface _)=>
        match x,y with
         | .const _,_=>some (.eq false .iface x' y')
         |_,.const _=>some (.eq false .iface x' y')
         |_,_=>none
       |_=>none
     | .neq=>
      match P.underlying t with
       |some (.int _)=>some (.bin op x' y')
       |some .string=>some (.bin op x' y')
       |some .bool=>some (.eq true .bool x' y')
       |some (.pointer _)=>some (.eq true .ptr x' y')
       |some (.slice _)=>some (.eq true .slice x' y')
       |some (.func _ _ _)=>some (.eq true .func x' y')
       |some (.struct _)=>(jQ P t).map fun ks=>.FJ true ks x' y'
       |some (.interface _)=>
        match x,y with
         | .const _,_=>some (.eq true .iface x' y')
         |_,.const _=>some (.eq true .iface x' y')
         |_,_=>none
       |_=>none
     |_=>some (.bin op x' y')
   |_,_=>none
 | .unOp op _ x=>(au x).map (.un op)
 | .convert s d x=>
  match P.underlying s,P.underlying d,au x with
   |some (.int _),some (.int k),some x'=>some (.conv k x')
   |some .string,some .string,some x'=>some (.same x')
   |some .string,some (.slice e),some x'=>
    match P.underlying e with
     |some (.int .u8)=>some (.jj x')
     |_=>none
   |_,_,_=>none
 | .makeFunc (.func f) a b=>
  match bJ au a.toList,bJ au b.toList with
   |some a',some b'=>some (.kX f a' b')
   |_,_=>none
 | .makeMap _ none=>some .B6
 | .makeSlice t l c=>
  match P.underlying t,au l,au c with
   |some (.slice e),some l',some c'=>
    match P.info? e,dF P e with
     |some i,some z=>some (.yp i.size i.bytes z l' c')
     |_,_=>none
   |_,_,_=>none
 | .slice t x lo hi none=>
  match au x,cG lo,cG hi with
   |some x',some uz,some ld=>
    match P.underlying t with
     |some .string=>some (.kY x' uz ld)
     |some (.slice e)=>(gf P e).map fun s=>.eu s x' uz ld
     |some (.array n e)=>(gf P e).map fun s=>.sB n s x' uz ld
     |_=>none
   |_,_,_=>none
 | .fieldAddr s x f=>
  match P.underlying s,au x with
   |some (.struct fs),some x'=>
    match k9 P fs f with
     |some (off,n)=>if 0<n then some (.fI off n x')else none
     |none=>none
   |_,_=>none
 | .field s x f=>
  match P.underlying s,au x with
   |some (.struct fs),some x'=>
    match fs[f]? with
     |some fd=>
      match gf P fd.type,mj P fd.type with
       |some n,some g=>if g=true∨n=1 then some (.Mj fd.offset n g x')else none
       |_,_=>none
     |none=>none
   |_,_=>none
 | .indexAddr t x i=>
  match au x,au i with
   |some x',some i'=>
    match P.underlying t with
     |some (.slice e)=>(gf P e).map fun s=>.db s x' i'
     |some (.array n e)=>(gf P e).map fun s=>.sD n s x' i'
     |_=>none
   |_,_=>none
 | .index t x i=>
  match au x,au i with
   |some x',some i'=>
    match P.underlying t with
     |some .string=>some (.gF x' i')
     |some (.array n e)=>
      match gf P e,mj P e with
       |some s,some g=>if g=true∨s=1 then some (.Jf n s g x' i')else none
       |_,_=>none
     |_=>none
   |_,_=>none
 | .extract x i=>(au x).map fun x'=>.ext x' i
 | .makeInterface t x=>
  match P.underlying t,au x with
   |some (.interface _),_=>none
   |some _,some x'=>some (.m_ t x')
   |_,_=>none
 | .lookup t m k ok=>
  match P.underlying t,au m,au k with
   |some (.map kt e),some m',some k'=>
    match FY P e,P.underlying kt with
     |some z,some (.int _)=>some (.lookup .int z ok m' k')
     |some z,some .string=>some (.lookup .str z ok m' k')
     |some z,some .bool=>some (.lookup .bool z ok m' k')
     |_,_=>none
   |_,_,_=>none
 | .mapUpdate t m k x=>
  match P.underlying t,au m,au k,au x with
   |some (.map kt _),some m',some k',some x'=>
    match P.underlying kt with
     |some (.int _)=>some (.fX .int m' k' x')
     |some .string=>some (.fX .str m' k' x')
     |some .bool=>some (.fX .bool m' k' x')
     |_=>none
   |_,_,_,_=>none
 | .range t x=>
  match P.underlying t with
   |some (.map _ _)=>(au x).map (.range true)
   |_=>none
 | .next it s=>if s then none else(au it).map .qS
 | .entry it=>(au it).map .entry
 | .call c=>dH P c
 |_=>none
def ct(o:Oper):List Nat:=(o.after.toList.filter (Region.binds .any)).map (·.on)
def fJ(ops:List Oper)(o:Oper):Option (Option (Nat×Bool)):=match o.guard with
 |none=>some none
 |some (j,nB)=>
  match(ops[j]? ).bind (·.dst)with
   |some d=>some (some (d,nB))
   |none=>none
def fj(P:Program)(ops:List Oper)(draw:Bool)(o:Oper):Option ad:=match fJ ops o with
 |some g=>some {dst:=o.dst,op:=(bD P o.op).getD .bad,guard:=g,after:=if draw then ct o else[]}
 |none=>none
theorem eE{P:Program}{op:Op}{io:ki}(h:(bD P op).getD .bad=io)(ew:io≠ .bad):bD P op=some io:=by
 cases hc:bD P op with
  |none=>rw[hc]at h;exact absurd h.symm ew
  |some x=>rw[hc]at h;exact acM some h
def iW(P:Program)(ops:List Oper)(draw:Bool)(l:List Oper):Option (List ad):=bJ (fj P ops draw) l
def aH(P:Program):Code→Option IR
 | .skip=>some .skip
 | .region _ ops draw=>
  match iW P ops.toList draw ops.toList with
   |some l=>some (if draw then .draw l else .region l)
   |none=>none
 | .seq a b=>
  match aH P a,aH P b with
   |some a',some b'=>some (.seq a' b')
   |_,_=>none
 | .cond c a b=>
  match au c,aH P a,aH P b with
   |some c',some a',some b'=>some (.cond c' a' b')
   |_,_,_=>none
 | .block id b=>(aH P b).map (.block id)
 | .loop b=>(aH P b).map .loop
 | .exit id=>some (.exit id)
 | .ret=>some .ret
 |_=>none
def nb(P:Program):ResultVar→Option iV
 | .tmp t=>some (.t t)
 | .cell a t=>
  match gf P t,mj P t with
   |some n,some g=>if g=true∨n=1 then some (.cell a n g)else none
   |_,_=>none
def aK(P:Program)(f:FuncId):Option cD:=match P.funcs[f]? with
 |none=>none
 |some fn=>
  match fn.body with
   |none=>none
   |some c=>
    match aH P c,bJ (nb P) fn.results.toList with
     |some b,some r=>some {nparams:=fn.params.size+fn.nfree,ntmps:=fn.ntmps,res:=r,body:=b}
     |_,_=>none
end Fw
/-
  Each operation that calls nothing, carried out in the model: what the abstract machine says of it.
-/
namespace Fw
open Go
def Lh(g g':G)(ns:Nat):Prop:=∀b,g'.cK b→g.cK b∨b=ns
def Good(P:Program)(a:Act)(o:Oper)(g:G)(w:World)(ns:Nat)(v:V)(H':ah):Prop:=∃g' w' nx,(execOp a.eval o).run P w=.ok nx w'∧((∃x,nx=.value x∧RV g' w' v x)∨(nx=.skip∧v=.any))∧av g' w' H'∧ch g w g' w'∧Lh g g' ns
def Ev(ρ:a_→V)(a:Act)(g:G)(w:World):Prop:=∀x y,au x=some y→RV g w (ρ y) (a.eval x)
theorem cO{α β:Type}{f:α→Option β}:∀{l:List α}{l':List β},bJ f l=some l'→l.length=l'.length
 |[],l',h=>by simp[bJ]at h;subst h;rfl
 |x::xs,l',h=>by
  simp only[bJ]at h;split at h
  ·cases h
  ·split at h
   ·cases h
   ·rename_i ys F0;simp only[aab]at h;subst h;simp[cO F0]
theorem jq{α β:Type}{f:α→Option β}:∀{l:List α}{l':List β}(i:Nat)(x:α),bJ f l=some l'→l[i]? =some x→∃y,l'[i]? =some y∧f x=some y
 |[],l',i,x,h,hx=>by simp at hx
 |z::xs,l',i,x,h,hx=>by
  simp only[bJ]at h;split at h
  ·cases h
  ·rename_i y hy;split at h
   ·cases h
   ·rename_i ys F0;simp only[aab]at h;subst h;cases i with
     |zero=>simp at hx;subst hx;exact⟨y,rfl,hy⟩
     |succ i=>simp at hx⊢;exact jq i x F0 hx
theorem F1{g:G}{w:World}{v:Value}{u:V}(h:ye v=some u):RV g w u v:=by unfold ye at h;split at h<;>simp only[aab,reduceCtorEq]at h<;>subst h<;>simp[RV,Rd]
theorem Mn{v:Value}{u:V}(h:ye v=some u):dE u=true:=by unfold ye at h;split at h<;>simp only[aab,reduceCtorEq]at h<;>subst h<;>rfl
theorem jr{g:G}{w:World}:∀{l:List Value}{us:List V},bJ ye l=some us→aP g w us l∧us.all dE=true
 |[],us,h=>by simp[bJ]at h;subst h;simp[aP]
 |x::xs,us,h=>by
  simp only[bJ]at h;split at h
  ·cases h
  ·rename_i y hy;split at h
   ·cases h
   ·rename_i ys F0;simp only[aab]at h;subst h;have ih:=jr (g:=g) (w:=w) F0;refine⟨by simp only[aP];exact⟨F1 hy,ih.1⟩,by simp[Mn hy];simpa using ih.2⟩
theorem F2{g:G}{w:World}{v:Value}{u:V}(h:Tp v=some u):RV g w u v:=by
 unfold Tp at h;split at h
 ·rename_i cs;cases hm:bJ ye cs.toList with
   |none=>simp[hm]at h
   |some us=>simp[hm]at h;subst h;simp only[RV];exact⟨cs,rfl,(jr hm).1⟩
 ·exact F1 h
theorem R.ev{GL:ca}{g:G}{w:World}{a:Act}{σ:St}(h:R GL g w a σ):Ev (aU GL σ.tm) a g w:=by
 intro x y F3;cases x with
  |tmp t=>simp[au]at F3;subst F3;exact h.tmps t
  |const v=>simp only[au,aad]at F3;obtain⟨u,hu,rfl⟩:=F3;exact F2 hu
  |global n=>
   simp[au]at F3;subst F3;simp only[aU,Act.eval];cases hn:GL.rd n with
    |none=>simp only[RV]
    |some cs=>simp only[RV];exact⟨n,0,rfl,fun _=>(h.dQ.rd n cs hn).1,(h.dQ.rd n cs hn).2⟩
  |func f=>simp[au]at F3;subst F3;simp only[aU,Act.eval,RV];exact⟨#[],#[],rfl,by simp[aP],by simp[aP]⟩
theorem Good.val{P:Program}{a:Act}{o:Oper}{g:G}{w:World}{ns:Nat}{v:V}{H:ah}{x:Value}(hh:av g w H)(hr:(execOp a.eval o).run P w=.ok (.value x) w)(hv:RV g w v x):Good P a o g w ns v H:=⟨g,w,_,hr,.inl ⟨x,rfl,hv⟩,hh,ch.refl _ _,fun _ h=>.inl h⟩
section
variable {P:Program}{a:Act}{o:Oper}{g:G}{w:World}{ρ:a_→V}{H:ah}{ns:Nat}
theorem RV.bool{v:Value}{b:Bool}(h:RV g w (.d (.bool b)) v):v=.bool b:=by simpa only[RV,Rd]using h
theorem RV.int{v:Value}{k:IntKind}{n:Int}(h:RV g w (.d (.int k n)) v):v=.int k n:=by simpa only[RV,Rd]using h
theorem RV.Ds(b:Bool):RV g w (.d (.bool b)) (.bool b):=by simp only[RV,Rd]
theorem RV.AG(k:IntKind)(n:Int):RV g w (.d (.int k n)) (.int k n):=by simp only[RV,Rd]
theorem RV.str{v:Value}{l:List UInt8}(h:RV g w (.d (.str l)) v):∃s:ByteArray,v=.string s∧s.data.toList=l:=by simpa only[RV,Rd]using h
theorem RV.T'(s:ByteArray):RV g w (.d (.str s.data.toList)) (.string s):=by simp only[RV,Rd];exact⟨s,rfl,rfl⟩
theorem Pu{x:Operand}{y:a_}(ho:o.op=.move x∨o.op=.assign x)(hx:au x=some y)(ev:Ev ρ a g w)(hh:av g w H):Good P a o g w ns (ρ y) H:=by refine Good.val (x:=a.eval x) hh ?_ (ev _ _ hx);rcases ho with ho|ho<;>simp[execOp,ho]
theorem Mo{c x y:Operand}{c' x' y':a_}{b:Bool}(ho:o.op=.pick c x y)(hc:au c=some c')(hx:au x=some x')(hy:au y=some y')(hb:ρ c'=.d (.bool b))(ev:Ev ρ a g w)(hh:av g w H):Good P a o g w ns (bif b then ρ x' else ρ y') H:=by
 have h1:=ev _ _ hc;rw[hb]at h1;have h2:=RV.bool h1;cases b with
  |true=>exact Good.val (x:=a.eval x) hh (by simp[execOp,ho,h2,asBool]) (ev _ _ hx)
  |false=>exact Good.val (x:=a.eval y) hh (by simp[execOp,ho,h2,asBool]) (ev _ _ hy)
theorem sG{cs:List V}{c:Array Value}(e:TypeId)(eF:cs.all dE=true)(hv:aP g w cs c.toList)(hh:av g w H)(jo:jn g ns)(n:Nat)(hn:n=cs.length):let g':=g.add ns (.cells w.heap.size n n);let w':=w.alloc (.cells c e);av g' w' (bj H ns (.cells cs))∧ch g w g' w'∧g'.cK ns∧g'.γ ns=some (.cells w.heap.size n n):=by subst hn;have he:=ch.new hh jo (.cells c e) (.cells w.heap.size cs.length cs.length) rfl;refine⟨av.new hh jo _ _ _ rfl ?_,he,.inr rfl,by simp[G.add]⟩;have hl:=hv.length;simp only[RB];refine⟨trivial,eF,aao _,c,e,bS _ _,by simp at hl;omega,?_ ⟩;rw[abf (by simp at hl;simp;omega)];exact aP.ext he _ _ hv
theorem RV.F4{g':G}{w':World}{b aO n:Nat}(h1:g'.cK b)(h2:g'.γ b=some (.cells aO n n)):RV g' w' (.ptr b n 0) (.pointer (some ⟨aO,0,none⟩)):=by simp only[RV];refine⟨⟨⟨_,_,rfl⟩,h1⟩,fun x hx=>?_ ⟩;rw[h2]at hx;simp only[aab]at hx;subst hx;exact⟨_,_,_,rfl,fun _=>rfl,aao _⟩
theorem run_typeInfo{t:TypeId}{i:TypeInfo}(h:P.info? t=some i)(w:World):(typeInfo t).run P w=.ok i w:=by simp[typeInfo,h]
theorem oZ{t:TypeId}{i:TypeInfo}{z:Value}(h:P.info? t=some i)(hz:i.zero=some z)(w:World):(zeroValue t).run P w=.ok z w:=by simp[zeroValue,run_typeInfo h,hz]
theorem cW{t:TypeId}{n:Nat}(h:gf P t=some n)(w:World):(Go.sizeOf t).run P w=.ok n w:=by simp only[gf,aad]at h;obtain⟨i,hi,rfl⟩:=h;simp[Go.sizeOf,run_typeInfo hi]
theorem rU{t:TypeId}{b:Bool}(h:mj P t=some b)(w:World):(isAgg t).run P w=.ok b w:=by simp only[mj,aad]at h;obtain⟨d,hd,rfl⟩:=h;cases d<;>simp[isAgg,run_underlying hd]
theorem Jh{t:TypeId}{z:List V}(ho:o.op=.alloc t)(hz:dF P t=some z)(hh:av g w H)(jo:jn g ns):Good P a o g w ns (.ptr ns z.length 0) (bj H ns (.cells z)):=by simp only[dF,abb]at hz;obtain⟨zv,⟨i,hi,yq⟩,hm⟩:=hz;obtain⟨hv,eF⟩:=jr (g:=g) (w:=w) hm;obtain⟨h1,h2,h3,h4⟩:=sG t eF hv hh jo _ rfl;refine⟨_,_,.value (.pointer (some ⟨w.heap.size,0,none⟩)),?_,.inl ⟨_,rfl,RV.F4 h3 h4⟩,h1,h2,fun _ h=>h⟩;simp[execOp,ho,Instr.alloc,oZ hi yq,newVar,newRow]
theorem pX{u:V}{v:Value}(hu:(bK u).all dE=true)(h:RV g w u v):aP g w (bK u) v.cells.toList:=by
 cases u with
  |agg cs=>simp only[RV]at h;obtain⟨x,rfl,h⟩:=h;simpa[bK,Value.cells]using h
  |any=>simp[bK,dE]at hu
  |tuple=>simp[bK,dE]at hu
  |_=>
   simp only[bK]at hu⊢;have h1:=RV.one (by simpa using hu) h;have h2:v.cells= #[v]:=by cases v<;>first|rfl|simp[Value.oneCell']at h1
   rw[h2];simp only[aP,acf];exact h
theorem Pv{t:TypeId}{x:Operand}{y:a_}(ho:o.op=.box t x)(hx:au x=some y)(eF:(bK (ρ y)).all dE=true)(ev:Ev ρ a g w)(hh:av g w H)(jo:jn g ns):Good P a o g w ns (.ptr ns (bK (ρ y)).length 0) (bj H ns (.cells (bK (ρ y)))):=by obtain⟨h1,h2,h3,h4⟩:=sG t eF (pX eF (ev _ _ hx)) hh jo _ rfl;refine⟨_,_,.value (.pointer (some ⟨w.heap.size,0,none⟩)),?_,.inl ⟨_,rfl,RV.F4 h3 h4⟩,h1,h2,fun _ h=>h⟩;simp[execOp,ho,Instr.box,newVar,newRow]
theorem wC:∀{cs:List V}{vs:List Value}(off:Nat){us:List V}{xs:List Value},aP g w cs vs→aP g w us xs→∀(c:Array Value),c.toList=vs→aP g w (putCells cs off us) ((xs.zipIdx).foldl (fun(ds:Array Value)(p:Value×Nat)=>ds.setIfInBounds (off+p.2) p.1) c).toList:=by
 suffices h:∀(us:List V)(xs:List Value)(k off:Nat)(cs:List V)(c:Array Value),aP g w cs c.toList→aP g w us xs→aP g w (putCells cs (off+k) us) ((xs.zipIdx k).foldl (fun(ds:Array Value)(p:Value×Nat)=>ds.setIfInBounds (off+p.2) p.1) c).toList by intro cs vs off us xs h1 h2 c hc;subst hc;exact h us xs 0 off cs c h1 h2
 intro us;induction us with
  |nil=>
   intro xs k off cs c h1 h2;cases xs with
    |nil=>simpa[putCells]using h1
    |cons=>simp only[aP]at h2
  |cons u us ih=>
   intro xs k off cs c h1 h2;cases xs with
    |nil=>simp only[aP]at h2
    |cons x xs=>simp only[aP]at h2;simp only[putCells,List.zipIdx_cons,abm];have:=ih xs (k+1) off (cs.set (off+k) u) (c.setIfInBounds (off+k) x) (by simpa using aP.set _ h1 h2.1) h2.2;simpa[Nat.add_assoc]using this
theorem fu(l:List V)(i:Nat)(vs:List V):(putCells l i vs).length=l.length:=by
 induction vs generalizing l i with
  |nil=>rfl
  |cons v vs ih=>simp[putCells,ih]
theorem qT{l:List V}{i:Nat}{vs:List V}(h:l.all dE=true)(hv:vs.all dE=true):(putCells l i vs).all dE=true:=by
 induction vs generalizing l i with
  |nil=>exact h
  |cons v vs ih=>
   simp only[aaF,aac]at hv;refine ih ?_ hv.2;simp only[aaq]at h⊢;intro x hx;rcases abZ hx with hx|rfl
   ·exact h x hx
   ·exact hv.1
theorem wD{place:Nat→Option (Nat×Nat)}(ev:Ev ρ a g w):∀{ps:List (Nat×Operand)}{qs:List (Nat×Nat×a_)}{cs ml:List V}{c:Array Value},dG place ps=some qs→dO ρ cs qs=some ml→cs.all dE=true→aP g w cs c.toList→∃c',Instr.fill place c (ps.map fun p=>(p.1,a.eval p.2))=some c'∧aP g w ml c'.toList∧ml.all dE=true
 |[],qs,cs,ml,c,h1,h2,h3,h4=>by simp only[dG,aab]at h1;subst h1;simp only[dO,aab]at h2;subst h2;exact⟨c,rfl,h4,h3⟩
 |(i,x)::ps,qs,cs,ml,c,h1,h2,h3,h4=>by
  simp only[dG]at h1;split at h1
  ·cases h1
  ·rename_i off size hp;split at h1
   ·cases h1
   ·rename_i y hy;split at h1
    ·cases h1
    ·rename_i qs' F5;simp only[aab]at h1;subst h1;simp only[dO]at h2;cases hc:(Nat.beq (bK (ρ y)).length size&&Nat.ble (off+size) cs.length&&(bK (ρ y)).all dE)with
      |false=>rw[hc]at h2;cases h2
      |true=>
       rw[hc]at h2;simp only[aag]at h2;simp only[aac]at hc;have hv:=pX hc.2 (ev _ _ hy);have hl:=hv.length;have Y':=h4.length;have e1:(bK (ρ y)).length=size:=aah hc.1.1;have e2:off+size≤cs.length:=aak hc.1.2;have key:=wC off h4 hv c rfl;obtain⟨c',q1,q2,q3⟩:=wD ev F5 h2 (qT h3 hc.2) key;refine⟨c',?_,q2,q3⟩;simp only[aax,Instr.fill,hp];have e3:(a.eval x).cells.size=size:=by simp at hl;omega
       have e4:¬((decide ((a.eval x).cells.size≠size)||decide (off+(a.eval x).cells.size>c.size))=true):=by simp only[aa1,aam,not_or,ne_eq,Decidable.not_not];simp at Y';exact⟨e3,by omega⟩
       rw[aal (by simpa using e4)];have e5:(a.eval x).cells.zipIdx.foldl (fun cs (q:Value×Nat)=>cs.setIfInBounds (off+q.2) q.1) c=(((a.eval x).cells.toList).zipIdx).foldl (fun(ds:Array Value)(p:Value×Nat)=>ds.setIfInBounds (off+p.2) p.1) c:=by rw[←Array.foldl_toList,Array.toList_zipIdx]
       rw[e5];exact q1
theorem B_{t:TypeId}{ps:Array (Nat×Operand)}{z cs:List V}{qs:List (Nat×Nat×a_)}{place:Nat→Option (Nat×Nat)}(ho:o.op=.build t ps)(hz:dF P t=some z)(hb:∀(i:TypeInfo)(zv:Value)(parts:List (Nat×Value)),P.info? t=some i→i.zero=some zv→P.built t parts=Instr.fill place zv.cells parts)(hq:dG place ps.toList=some qs)(hf:dO ρ z qs=some cs)(ev:Ev ρ a g w)(hh:av g w H):Good P a o g w ns (.agg cs) H:=by simp only[dF,abb]at hz;obtain⟨zv,⟨i,hi,yq⟩,hm⟩:=hz;obtain⟨hv,eF⟩:=jr (g:=g) (w:=w) hm;obtain⟨c',h1,h2,h3⟩:=wD ev hq hf eF hv;have X0:=hb i zv (ps.map fun p=>(p.1,a.eval p.2)).toList hi yq;rw[acn,h1]at X0;refine Good.val (x:=.agg c') hh ?_ (by simp only[RV];exact⟨c',rfl,h2⟩);have hr:=run_build (P:=P) w t (ps.map fun p=>(p.1,a.eval p.2)) c' (by rw[acn];exact X0);simp[execOp,ho,hr]
theorem sH(z:Array Value)(hz:0<z.size)(n:Nat):∀i,((Array.range n).map (z[·%z.size]! )).toList[i]? =if i<n then z[i%z.size]? else none:=by
 intro i;have hm:=ab0 i hz;by_cases h:i<n
 ·simp[h];rw[getElem!_pos z (i%z.size) hm];exact(Array.getElem?_eq_getElem hm).symm
 ·simp[h]
theorem aP.iH:∀{us:List V}{vs:List Value},us.length=vs.length→(∀(i:Nat)(u:V)(v:Value),us[i]? =some u→vs[i]? =some v→RV g w u v)→aP g w us vs
 |[],[],_,_=>by simp only[aP]
 |u::us,v::vs,hl,h=>by simp only[aP];exact⟨h 0 u v rfl rfl,aP.iH (by simpa using hl) (fun i x y hx hy=>h (i+1) x y (by simpa using hx) (by simpa using hy))⟩
 |[],_::_,hl,_=>by simp at hl
 |_::_,[],hl,_=>by simp at hl
theorem qU{t e:TypeId}{len s:Nat}{ps:Array (Nat×Operand)}{z cs:List V}{qs:List (Nat×Nat×a_)}(ho:o.op=.buildSlice t len ps)(hu:P.underlying t=some (.slice e))(hs:gf P e=some s)(hz:dF P e=some z)(h1:len*s≤2^24)(h2:z.length=s)(h3:0<s)(hq:dG (fun i=>some (i*s,s)) ps.toList=some qs)(hf:dO ρ ((List.range (len*s)).map fun i=>z.getD (i%s) .any) qs=some cs)(ev:Ev ρ a g w):∃c':Array Value,aP g w cs c'.toList∧cs.all dE=true∧cs.length=len*s∧(execOp a.eval o).run P w=.ok (.value (.slice (some ⟨w.heap.size,0,none⟩) len len)) (w.alloc (.cells c' e)):=by
 simp only[dF,abb]at hz;obtain⟨zv,⟨i,hi,yq⟩,hm⟩:=hz;obtain⟨hv,eF⟩:=jr (g:=g) (w:=w) hm;have T_:=hv.length;have cx:0<zv.cells.size:=by simp at T_;omega
 have Y_:zv.cells.size=s:=by simp at T_;omega
 have Ua:((List.range (len*s)).map fun i=>z.getD (i%s) .any).all dE=true:=by simp only[aaq,aaG,aaJ];rintro x ⟨j,_,rfl⟩;have:=ab0 j h3;rw[aaD,aaf (by omega)];exact(aaq.1 eF) _ (abg _)
 have fv:aP g w ((List.range (len*s)).map fun i=>z.getD (i%s) .any) ((Array.range (len*s)).map (zv.cells[·%zv.cells.size]! )).toList:=by
  refine aP.iH (by simp) fun j u v hu AH=>?_
  rw[sH _ cx]at AH;by_cases hj:j<len*s
  ·simp only[hj,aa4]at AH;simp[hj]at hu;subst hu;have Tq:=ab0 j h3;rw[Y_]at AH;have hg:z[j%s]? =some (z[j%s]'(by omega)):=aaf _;rw[hg,aaN];obtain⟨v',h5,h6⟩:=aP.get (j%s) hv hg;simp at h5 AH;rw[AH]at h5;simp only[aab]at h5;subst h5;exact h6
  ·simp[hj]at AH
 obtain⟨c',h5,h6,h7⟩:=wD ev hq hf Ua fv;have iq:cs.length=len*s:=by
  have Ji:∀(cs:List V)(qs:List (Nat×Nat×a_))(ml:List V),dO ρ cs qs=some ml→ml.length=cs.length:=by
   intro cs qs;induction qs generalizing cs with
    |nil=>intro ml h;simp[dO]at h;rw[h]
    |cons q qs ih=>
     intro ml h;obtain⟨off,size,x⟩:=q;simp only[dO]at h;cases hc:(Nat.beq (bK (ρ x)).length size&&Nat.ble (off+size) cs.length&&(bK (ρ x)).all dE)with
      |false=>rw[hc]at h;cases h
      |true=>rw[hc]at h;rw[ih _ _ h,fu]
  rw[Ji _ _ _ hf];simp
 refine⟨c',h6,h7,iq,?_⟩
 ·by_cases h0:len*s=0
  ·have Tr:Instr.fill (fun i=>some (i*s,s)) ((Array.range (len*s)).map ((#[]:Array Value)[·%(#[]:Array Value).size]! )) (ps.toList.map fun p=>(p.1,a.eval p.2))=some c':=by rw[←h5];simp[h0,show Array.range 0= #[]from rfl]
   simp[execOp,ho,Instr.buildSlice,run_underlying hu,cW hs,h0];simp[h0]at Tr;simp[Tr,newRow]
  ·simp[execOp,ho,Instr.buildSlice,run_underlying hu,cW hs,h0,Nat.not_lt.2 h1,oZ hi yq,h5,newRow]
theorem Dt{t e:TypeId}{len s:Nat}{ps:Array (Nat×Operand)}{z cs:List V}{qs:List (Nat×Nat×a_)}(ho:o.op=.buildSlice t len ps)(hu:P.underlying t=some (.slice e))(hs:gf P e=some s)(hz:dF P e=some z)(h1:len*s≤2^24)(h2:z.length=s)(h3:0<s)(hq:dG (fun i=>some (i*s,s)) ps.toList=some qs)(hf:dO ρ ((List.range (len*s)).map fun i=>z.getD (i%s) .any) qs=some cs)(ev:Ev ρ a g w)(hh:av g w H)(jo:jn g ns):Good P a o g w ns (.sl ns cs.length 0 len s) (bj H ns (.cells cs))∧cs.length=len*s:=by obtain⟨c',h6,h7,iq,ey⟩:=qU ho hu hs hz h1 h2 h3 hq hf ev;refine⟨?_,iq⟩;obtain⟨k1,k2,k3,k4⟩:=sG e h7 h6 hh jo _ rfl;refine⟨_,_,.value (.slice (some ⟨w.heap.size,0,none⟩) len len),ey,.inl ⟨_,rfl,?_⟩,k1,k2,fun _ h=>h⟩;simp only[RV];refine⟨⟨rfl,k3⟩,fun x hx=>?_ ⟩;rw[k4]at hx;simp only[aab]at hx;subst hx;exact⟨aao _,fun _=>⟨len,rfl,aao _,by omega⟩⟩
theorem yr{n:Nat}{u:V}{v:Value}{cs:List V}(h:cY H n u=some cs)(hv:RV g w u v)(hh:av g w H):∃aO off vs,v=.pointer (some ⟨aO,off,none⟩)∧vs.length=n∧aP g w cs vs∧∀j x,vs[j]? =some x→w.cell? ⟨aO,off+j,none⟩=some x:=by
 cases u with
  |ptr b hb off=>
   simp only[cY]at h;cases hg:aA H b with
    |none=>simp[hg]at h
    |some y=>
     cases y with
      |cells ml=>
       simp only[hg]at h;cases hc:(Nat.beq ml.length hb&&Nat.ble (off+n) hb)with
        |false=>rw[hc]at h;cases h
        |true=>
         rw[hc]at h;simp only[aag,aab]at h;simp only[aac]at hc;have e1:=aah hc.1;have e2:=aak hc.2;obtain⟨x,hx⟩:=hh.back b _ hg;obtain⟨_,y',yu,hr⟩:=hh.live b x hx;rw[hg]at yu;simp only[aab]at yu;subst yu;simp only[RV]at hv;obtain⟨aO,cp,cur,rfl,h1,h2⟩:=hv.2 x hx;simp only[RB]at hr;obtain⟨r1,r2,r3,c,e,r4,r5,r6⟩:=hr;subst h;refine⟨aO,off,((c.toList.take ml.length).drop off).take n,h1 (by omega),?_,(r6.drop off).take n,fun j x hj=>?_ ⟩
         ·simp;omega
         ·have Za:j<n:=by have:=(aai.1 hj).1;simp at this;omega
          rw[aaL,aan Za,aa7,aaL]at hj;split at hj
          ·simp only[World.cell?,r4];simpa using hj
          ·cases hj
      |_=>simp[hg]at h
  |cA ds=>
   simp only[cY]at h;cases hc:Nat.ble n ds.length with
    |false=>rw[hc]at h;cases h
    |true=>
     rw[hc]at h;simp only[aag,aab]at h;have e1:=aak hc;simp only[RV]at hv;obtain⟨aO,off,rfl,_,h3⟩:=hv;obtain⟨vs,h4,h5⟩:=dh.pW h3;subst h;have hl:=h4.length;simp at hl;refine⟨aO,off,vs.take n,rfl,by simp;omega,by rw[acq];exact h4.take n,fun j x hj=>?_ ⟩;rw[aaL]at hj;split at hj
     ·exact h5 j x hj
     ·cases hj
  |_=>simp[cY]at h
theorem Addr.fA(aO off j:Nat):(⟨aO,off,none⟩:Addr).add j=⟨aO,off+j,none⟩:=by unfold Addr.add;split<;>simp_all
theorem AI{b:Bool}{cs:List V}{v:V}{vs:List Value}(h:oW b cs=some v)(hv:aP g w cs vs):RV g w v (if b then .agg vs.toArray else vs.headD undef)∧(b=false→vs.length=1):=by
 cases b with
  |true=>simp[oW]at h;subst h;simp only[RV,aa4];exact⟨⟨vs.toArray,rfl,by simpa using hv⟩,by simp⟩
  |false=>
   simp only[oW,aaw]at h;split at h
   ·simp only[aab]at h;subst h;cases vs with
     |nil=>simp only[aP]at hv
     |cons x xs=>
      simp only[aP]at hv;cases xs with
       |nil=>exact⟨by simpa using hv.1,by simp⟩
       |cons=>simp only[aP]at hv;exact hv.2.elim
   ·cases h
theorem mn{t:TypeId}{n aO off:Nat}{b:Bool}{vs:List Value}(hn:gf P t=some n)(hb:mj P t=some b)(hl:vs.length=n)(h1:b=false→vs.length=1)(hc:∀j x,vs[j]? =some x→w.cell? ⟨aO,off+j,none⟩=some x):(loadVar t ⟨aO,off,none⟩).run P w=.ok (if b then .agg vs.toArray else vs.headD undef) w:=by
 cases b with
  |true=>have:=run_loadCells_list (P:=P) w ⟨aO,off,none⟩ vs (fun j x hj=>by rw[Addr.fA];exact hc j x hj);subst hl;simp[loadVar,rU hb,cW hn,this]
  |false=>
   have Ts:=h1 rfl;obtain⟨x,rfl⟩:∃x,vs=[x]:=by match vs,Ts with|[x],_=>exact⟨x,rfl⟩
   have:=hc 0 x rfl;simp at this;simp[loadVar,rU hb,this]
theorem Mp{t:TypeId}{x:Operand}{y:a_}{n:Nat}{b:Bool}{cs:List V}{v:V}(ho:o.op=.load t x)(hn:gf P t=some n)(hb:mj P t=some b)(hx:au x=some y)(h1:cY H n (ρ y)=some cs)(h2:oW b cs=some v)(ev:Ev ρ a g w)(hh:av g w H):Good P a o g w ns v H:=by obtain⟨aO,off,vs,e1,e2,e3,e4⟩:=yr h1 (ev _ _ hx) hh;obtain⟨h3,h4⟩:=AI h2 e3;refine Good.val hh ?_ h3;simp[execOp,ho,e1,Instr.loadAt,Instr.sureAddr,mn hn hb e2 h4 e4]
theorem jR:∀(us cs:List Value)(off:Nat),off+us.length≤cs.length→putCells cs off us=cs.take off++us++cs.drop (off+us.length)
 |[],cs,off,_=>by simp[putCells]
 |u::us,cs,off,h=>by
  simp only[aav]at h;simp only[putCells];rw[jR us (cs.set off u) (off+1) (by simp;omega)];apply ac5;intro i;simp only[List.getElem?_append,aaA,aaQ,ab9,aaL,List.getElem?_set,aa7,aav,show min (off+1) cs.length=off+1 by omega,show min off cs.length=off by omega];by_cases h1:i<off
  ·simp[h1,show i<off+1 by omega,show i<off+1+us.length by omega,show i<off+(us.length+1) by omega,show off≠i by omega]
  ·by_cases h2:i=off
   ·subst h2;simp[show i<cs.length by omega];intros;omega
   ·by_cases h3:i<off+1+us.length
    ·simp[h1,h3,show¬i<off+1 by omega,show i<off+(us.length+1) by omega,show i - off=(i - (off+1))+1 by omega]
    ·have e:off+1+us.length+(i - (off+1+us.length))=i:=by omega
     have e2:off+(us.length+1)+(i - (off+(us.length+1)))=i:=by omega
     simp only[h3,abt,e,e2,show¬i<off+(us.length+1) by omega];simp[show off≠i by omega]
theorem uG(cs us:List Value)(off k:Nat)(h:off+us.length≤k):(putCells cs off us).take k=putCells (cs.take k) off us:=by
 induction us generalizing cs off with
  |nil=>rfl
  |cons u us ih=>simp only[aav]at h;simp only[putCells];rw[ih _ _ (by omega),List.take_set]
theorem nH:∀{us:List V}{xs:List Value}{cs:List V}{vs:List Value}(off:Nat),aP g w cs vs→aP g w us xs→aP g w (putCells cs off us) (putCells vs off xs)
 |[],[],_,_,_,h,_=>h
 |u::us,x::xs,cs,vs,off,h,h2=>by simp only[aP]at h2;simp only[putCells];exact nH (off+1) (h.set off h2.1) h2.2
 |[],_::_,_,_,_,_,h=>by simp only[aP]at h
 |_::_,[],_,_,_,_,h=>by simp only[aP]at h
theorem Du{n:Nat}{u x:V}{v y:Value}{p:Nat×dU}(h:dz H n u x=some p)(hv:RV g w u v)(hx:RV g w x y)(hh:av g w H):∃aO off w',v=.pointer (some ⟨aO,off,none⟩)∧y.cells.size=n∧(storeCells ⟨aO,off,none⟩ y.cells.toList).run P w=.ok () w'∧av g w' (aX H (some p))∧ch g w g w':=by
 cases u with
  |ptr b hb off=>
   simp only[dz]at h;cases hg:aA H b with
    |none=>simp[hg]at h
    |some yb=>
     cases yb with
      |cells cs=>
       simp only[hg]at h;cases hc:(Nat.beq cs.length hb&&Nat.ble (off+n) hb&&Nat.beq (bK x).length n&&(bK x).all dE)with
        |false=>rw[hc]at h;cases h
        |true=>
         rw[hc]at h;simp only[aag,aab]at h;simp only[aac]at hc;have e1:=aah hc.1.1.1;have e2:=aak hc.1.1.2;have e3:=aah hc.1.2;obtain⟨z,hz⟩:=hh.back b _ hg;obtain⟨_,y',yu,hr⟩:=hh.live b z hz;rw[hg]at yu;simp only[aab]at yu;subst yu;simp only[RV]at hv;obtain⟨aO,cp,cur,rfl,h1,h2⟩:=hv.2 z hz;simp only[RB]at hr;obtain⟨r1,r2,r3,c,e,r4,r5,r6⟩:=hr;have F6:=pX hc.2 hx;have yf:=F6.length;have F0:y.cells.size=n:=by simp at yf;omega
         have sF:=run_storeCells_at P aO off e y.cells.toList 0 c w r4 (by simp;omega) (aP.one hc.2 F6);simp only[abk]at sF;rw[←jR _ _ _ (by simp;omega)]at sF;have hw:∀j,j≠aO→(w.setRow aO (putCells c.toList off y.cells.toList).toArray).heap[j]? =w.heap[j]? :=fun j hj=>setRow_other w aO j _ hj
         have he:ch g w g (w.setRow aO (putCells c.toList off y.cells.toList).toArray):=ch.write hz rfl (hh.u5 hz rfl) rfl rfl rfl (by simp) hw;refine⟨aO,off,_,h1 (by omega),F0,sF,?_,he⟩;subst h;refine av.write hh _ hz rfl he hw ?_;simp only[RB];have nC:∀(l:List Value)(i:Nat)(vs:List Value),(putCells l i vs).length=l.length:=by
          intro l i vs;induction vs generalizing l i with
           |nil=>rfl
           |cons v vs ih=>simp[putCells,ih]
         refine⟨by rw[fu];exact r1,qT r2 hc.2,by rw[fu];exact r3,_,e,setRow_heap w aO c _ e _ r4,by simp[nC];exact r5,?_ ⟩;rw[fu,ab5,uG _ _ _ _ (by simp;omega)];exact nH off (aP.ext he _ _ r6) (aP.ext he _ _ F6)
      |_=>simp[hg]at h
  |_=>simp[dz]at h
theorem Jj{t:TypeId}{x y:Operand}{x' y':a_}{n:Nat}{p:Nat×dU}(ho:o.op=.store t x y)(hn:gf P t=some n)(hx:au x=some x')(hy:au y=some y')(h1:dz H n (ρ x') (ρ y')=some p)(ev:Ev ρ a g w)(hh:av g w H):Good P a o g w ns .any (aX H (some p)):=by obtain⟨aO,off,w',e1,e2,e3,e4,e5⟩:=Du (P:=P) h1 (ev _ _ hx) (ev _ _ hy) hh;refine⟨g,w',.skip,?_,.inr ⟨rfl,rfl⟩,e4,e5,fun _ h=>.inl h⟩;simp[execOp,ho,e1,Instr.storeAt,Instr.sureAddr,storeVar,cW hn,e2,e3]
end
end Fw
/-
  Operations, further: arithmetic, tests, strings, slices, fields, indexes.
-/
namespace Fw
open Go
section
variable {P:Program}{a:Act}{o:Oper}{g:G}{w:World}{ρ:a_→V}{H:ah}{ns:Nat}
theorem F7{x:Operand}{y:a_}{v:V}(ho:o.op=.nilCheck x)(hx:au x=some y)(h:bu ρ H ns (.fW y)=some (v,none))(ev:Ev ρ a g w)(hh:av g w H):Good P a o g w ns v H:=by
 have hv:=ev _ _ hx;simp only[bu]at h;split at h<;>simp only[aab,aae,reduceCtorEq]at h
 ·rename_i b hb off e;obtain⟨rfl,_⟩:=h;rw[e]at hv;have fv:=hv;simp only[RV]at fv;obtain⟨⟨⟨aO,q,e2⟩,_⟩,_⟩:=fv;exact Good.val (x:=a.eval x) hh (by simp[execOp,ho,e2]) hv
 ·rename_i cs e;obtain⟨rfl,_⟩:=h;rw[e]at hv;have fv:=hv;simp only[RV]at fv;obtain⟨aO,q,e2,_⟩:=fv;exact Good.val (x:=a.eval x) hh (by simp[execOp,ho,e2]) hv
 ·rename_i f p q e;obtain⟨rfl,_⟩:=h;rw[e]at hv;have fv:=hv;simp only[RV]at fv;obtain⟨p',q',e2,_⟩:=fv;exact Good.val (x:=a.eval x) hh (by simp[execOp,ho,e2]) hv
theorem bytesLess_eq:∀(x y:List UInt8),Fw.bytesLess x y=Op.bytesLess x y
 |x,[]=>by cases x<;>rfl
 |[],_::_=>rfl
 |p::x,q::y=>by
  simp only[Fw.bytesLess,Op.bytesLess,bytesLess_eq x y];by_cases h1:p.toNat<q.toNat
  ·have e1:Nat.blt p.toNat q.toNat=true:=by simpa[aas]using h1
   have:decide (p<q)=true:=by simpa[aci]using h1
   simp[e1,this]
  ·have e1:Nat.blt p.toNat q.toNat=false:=by
    cases hb:Nat.blt p.toNat q.toNat
    ·rfl
    ·rw[aas]at hb;exact absurd hb h1
   have:decide (p<q)=false:=by simp[aci];omega
   rw[e1,this];simp only[aaw,abO];by_cases h2:p=q
   ·subst h2;simp
   ·have:Nat.beq p.toNat q.toNat=false:=cw (fun e=>h2 (ab'.1 e));simp[this,h2]
theorem cS:∀(x y:List UInt8),Fw.ai x y=(x==y)
 |[],[]=>rfl
 |[],_::_=>rfl
 |_::_,[]=>rfl
 |p::x,q::y=>by
  simp only[Fw.ai,cS x y];by_cases h2:p=q
  ·subst h2;simp
  ·have:Nat.beq p.toNat q.toNat=false:=cw (fun e=>h2 (ab'.1 e));simp[this,h2]
theorem fK(x y:List UInt8):Fw.ai x y=decide (x=y):=by rw[cS];by_cases h:x=y<;>simp[h]
theorem dW{t:TypeId}{x y:Value}{r:Result Bool}(h:∀d,(Op.equalIn (d+1) t x y).run P w=r):(Op.equal t x y).run P w=r:=h 9999
theorem Jk{op:BinOp}{s t:ByteArray}{d:D}(h:FV op s.data.toList t.data.toList=some d):∃v,(Op.stringOp op s t).run P w=.ok v w∧RV g w (.d d) v:=by
 unfold FV at h;split at h
 ·split at h
  ·rename_i hl;simp only[aab]at h;subst h;have FL:s.size+t.size≤2^62:=by simpa[FU]using hl
   refine⟨.string (s++t),?_,?_⟩
   ·have:¬(((s.size+t.size:Nat):Int)>IntKind.i64.max):=by
     have e:IntKind.i64.max=9223372036854775807:=by decide
     rw[e];omega
    simp only[Op.stringOp];rw[aal this];rfl
   ·have:s.data.toList++t.data.toList=(s++t).data.toList:=by rw[ByteArray.data_append,abD]
    rw[this];exact RV.T' _
  ·cases h
 all_goals (simp only[aab,reduceCtorEq]at h<;>subst h)
 all_goals (refine⟨_,by simp only[Op.stringOp];rfl,?_ ⟩;simp only[Lib.toList_data,cS,bytesLess_eq,RV,Rd])
theorem Pw{op:BinOp}{t yt:TypeId}{x y:Operand}{x' y':a_}{v:V}(ho:o.op=.binOp op t x y yt)(hx:au x=some x')(hy:au y=some y')(h:j_ op (ρ x') (ρ y')=some v)(ev:Ev ρ a g w)(hh:av g w H):Good P a o g w ns v H:=by
 have cE:=ev _ _ hx;have dM:=ev _ _ hy;unfold j_ at h;split at h
 ·rename_i k n k' m e1 e2;split at h
  ·rename_i hk;subst hk;simp only[aad]at h;obtain⟨d,hd,rfl⟩:=h;rw[e1]at cE;rw[e2]at dM;have f1:=RV.int cE;have f2:=RV.int dM;have hg:(eqGuard op t x y (a.eval x) (a.eval y)).run P w=.ok () w:=by rw[f1,f2];unfold eqGuard;cases op<;>simp
   unfold ky at hd;split at hd;case h_4=>
    split at hd
    ·cases hd
    ·rename_i hz;simp only[aab]at hd;subst hd;exact Good.val hh (by simp only[execOp,ho,Sem.run_bind,hg,Result.andThen_ok];simp only[f1,f2,binOp];simp[Op.intDiv,hz]) (RV.AG _ _)
   case h_5=>
    split at hd
    ·cases hd
    ·rename_i hz;simp only[aab]at hd;subst hd;exact Good.val hh (by simp only[execOp,ho,Sem.run_bind,hg,Result.andThen_ok];simp only[f1,f2,binOp];simp[Op.intDiv,hz]) (RV.AG _ _)
   case h_6=>
    simp only[aab]at hd;subst hd;have hi:(Op.intBits BinOp.and k n m).run P w=.ok (.int k (k.wrap (BitVec.ofInt k.bits n&&&BitVec.ofInt k.bits m).toNat)) w:=by unfold Op.intBits;simp only[Sem.run_pure]
    have hb:(binOp BinOp.and t (.int k n) (.int k m)).run P w=.ok (.int k (k.wrap (BitVec.ofInt k.bits n&&&BitVec.ofInt k.bits m).toNat)) w:=by rw[←hi];simp only[binOp];simp
    refine Good.val hh ?_ (RV.AG _ _);simp only[execOp,ho,Sem.run_bind,hg,Result.andThen_ok];simp only[f1,f2,hb,Result.andThen_ok,Sem.run_pure]
   all_goals (simp only[aab,reduceCtorEq]at hd<;>subst hd)
   all_goals first
    |exact Good.val hh (by simp only[execOp,ho,Sem.run_bind,hg,Result.andThen_ok];simp only[f1,f2,binOp];simp[Op.intArith]) (RV.AG _ _)
    |exact Good.val hh (by simp only[execOp,ho,Sem.run_bind,hg,Result.andThen_ok];simp only[f1,f2,binOp];simp[Op.intCmp]) (RV.Ds _)
  ·cases h
 ·rename_i s t' e1 e2;simp only[aad]at h;obtain⟨d,hd,rfl⟩:=h;rw[e1]at cE;rw[e2]at dM;obtain⟨s1,f1,rfl⟩:=RV.str cE;obtain⟨s2,f2,rfl⟩:=RV.str dM;obtain⟨r,hr,Dv⟩:=Jk (P:=P) (g:=g) (w:=w) hd;have hg:(eqGuard op t x y (a.eval x) (a.eval y)).run P w=.ok () w:=by rw[f1,f2];unfold eqGuard;cases op<;>simp
  refine Good.val hh ?_ Dv;have hb:(binOp op t (.string s1) (.string s2)).run P w=.ok r w:=by rw[←hr];cases op<;>rfl
  simp only[execOp,ho,Sem.run_bind,hg,Result.andThen_ok];simp only[f1,f2,hb,Result.andThen_ok,Sem.run_pure]
 ·cases h
set_option maxHeartbeats 1000000 in
theorem Ub{op:BinOp}{t yt:TypeId}{x y:Operand}{x' y':a_}{k:pU}{b neg:Bool}(ho:o.op=.binOp op t x y yt)(ei:(op=.eql∧neg=false)∨(op=.neq∧neg=true))(hk:match k with| .bool=>P.underlying t=some .bool| .ptr=>∃e,P.underlying t=some (.pointer e)| .iface=>(∃e,P.underlying t=some (.interface e))∧((∃c,x=.const c)∨∃c,y=.const c)| .slice=>∃e,P.underlying t=some (.slice e)| .func=>∃s:Array TypeId×Array TypeId×Bool,P.underlying t=some (.func s.1 s.2.1 s.2.2))(hx:au x=some x')(hy:au y=some y')(h:FW H k (ρ x') (ρ y')=some b)(ev:Ev ρ a g w)(hh:av g w H):Good P a o g w ns (.d (.bool (bif neg then !b else b))) H:=by
 have cE:=ev _ _ hx;have dM:=ev _ _ hy;have key:∀(vx vy:Value),a.eval x=vx→a.eval y=vy→(eqGuard op t x y vx vy).run P w=.ok () w→(Op.equal t vx vy).run P w=.ok b w→(∀k n,vx≠ .int k n)→(∀k n,vx≠ .float k n)→(∀k n m,vx≠ .complex k n m)→(∀s,vx≠ .string s)→Good P a o g w ns (.d (.bool (bif neg then !b else b))) H:=by
  intro vx vy h1 h2 h3 h4 n1 n2 n3 n4;refine Good.val (x:=.bool (bif neg then !b else b)) hh ?_ (RV.Ds _);have hb:(binOp op t vx vy).run P w=.ok (.bool (bif neg then !b else b)) w:=by
   rcases ei with⟨rfl,rfl⟩|⟨rfl,rfl⟩
   ·cases vx<;>simp_all[binOp]<;>(cases vy<;>simp_all)
   ·cases vx<;>simp_all[binOp]<;>(cases vy<;>simp_all)
  simp[execOp,ho,h1,h2,h3,hb]
 unfold FW at h;have Zb:(match op with| .eql| .neq=>true|_=>false)=true:=by rcases ei with⟨rfl,_⟩|⟨rfl,_⟩<;>rfl
 have fin:∀(vx vy:Value)(e:TypeId),P.underlying t=some (.slice e)→((∃a l c,vx=.slice a l c)∧vy=.slice none 0 0∨(∃a l c,vy=.slice a l c)∧vx=.slice none 0 0)→a.eval x=vx→a.eval y=vy→(∀a l c a' l' c',vx=.slice a l c→vy=.slice a' l' c'→b=(a.isNone&&a'.isNone))→Good P a o g w ns (.d (.bool (bif neg then !b else b))) H:=by
  intro vx vy e he hs h1 h2 hb;rcases hs with⟨⟨p,l,c,rfl⟩,rfl⟩|⟨⟨p,l,c,rfl⟩,rfl⟩
  ·have:=hb _ _ _ _ _ _ rfl rfl;subst this;refine key _ _ h1 h2 (by unfold eqGuard;rcases ei with⟨rfl,_⟩|⟨rfl,_⟩<;>simp) (dW fun d=>?_ ) (by simp) (by simp) (by simp) (by simp);cases p<;>simp[Op.equalIn,run_underlying he]
  ·have:=hb _ _ _ _ _ _ rfl rfl;subst this;refine key _ _ h1 h2 (by unfold eqGuard;rcases ei with⟨rfl,_⟩|⟨rfl,_⟩<;>simp) (dW fun d=>?_ ) (by simp) (by simp) (by simp) (by simp);cases p<;>simp[Op.equalIn,run_underlying he]
 have own:∀{bb h0 off len sz:Nat}{u:Value},wA H bb h0=some b→RV g w (.sl bb h0 off len sz) u→∃a l c,u=.slice a l c∧b=a.isNone:=by
  intro bb h0 off len sz u hn hu;unfold wA at hn;split at hn
  ·rename_i cs hg;cases hc:Nat.beq cs.length h0 with
    |false=>rw[hc]at hn;cases hn
    |true=>
     rw[hc]at hn;simp only[aag,aab]at hn;have hl:=aah hc;obtain⟨xb,nZ⟩:=hh.back bb _ hg;obtain⟨_,y0,Jl,hr⟩:=hh.live bb xb nZ;rw[hg]at Jl;simp only[aab]at Jl;subst Jl;simp only[RV]at hu;have FK:=hu.2 xb nZ;cases xb with
      |cells aO cp cur=>simp only[RB]at hr;obtain⟨cap,e1,_⟩:=FK.2 (by omega);exact⟨_,_,_,e1,by simp[←hn]⟩
      |nil=>simp only[RB]at hr
      |obj=>exact FK.elim
  ·rename_i hg;cases hc:Nat.beq h0 0 with
    |false=>rw[hc]at hn;cases hn
    |true=>
     rw[hc]at hn;simp only[aag,aab]at hn;obtain⟨xb,nZ⟩:=hh.back bb _ hg;obtain⟨_,y0,Jl,hr⟩:=hh.live bb xb nZ;rw[hg]at Jl;simp only[aab]at Jl;subst Jl;simp only[RV]at hu;have FK:=hu.2 xb nZ;cases xb with
      |cells aO cp cur=>simp only[RB]at hr
      |nil=>exact⟨_,_,_,FK.2.2.2,by simp[←hn]⟩
      |obj=>exact FK.elim
  ·cases hn
 split at h<;>try simp only[aab,reduceCtorEq]at h
 ·rename_i bb h0 _ _ _ e1 e2;rw[e1]at cE;rw[e2]at dM;obtain⟨p,l,c,q1,q2⟩:=own h cE;simp only[RV]at dM;obtain⟨e,he⟩:=hk;exact fin _ _ e he (.inl ⟨⟨p,l,c,rfl⟩,rfl⟩) q1 dM (by rintro _ _ _ _ _ _ Dw Px;cases Dw;cases Px;simp[q2])
 ·rename_i bb h0 _ _ _ e1 e2;rw[e1]at cE;rw[e2]at dM;obtain⟨p,l,c,q1,q2⟩:=own h dM;simp only[RV]at cE;obtain⟨e,he⟩:=hk;exact fin _ _ e he (.inr ⟨⟨p,l,c,rfl⟩,rfl⟩) cE q1 (by rintro _ _ _ _ _ _ Dw Px;cases Dw;cases Px;simp[q2])
 ·rename_i _ _ _ e1 e2;rw[e1]at cE;rw[e2]at dM;simp only[RV]at cE dM;obtain⟨⟨⟨aO,off,dM⟩,_⟩,_⟩:=dM;subst h;obtain⟨e,he⟩:=hk;exact key _ _ cE dM (by unfold eqGuard;rcases ei with⟨rfl,_⟩|⟨rfl,_⟩<;>simp) (dW fun d=>by simp[Op.equalIn,run_underlying he]) (by simp) (by simp) (by simp) (by simp)
 ·rename_i _ _ _ e1 e2;rw[e1]at cE;rw[e2]at dM;simp only[RV]at cE dM;obtain⟨⟨⟨aO,off,cE⟩,_⟩,_⟩:=cE;subst h;obtain⟨e,he⟩:=hk;exact key _ _ cE dM (by unfold eqGuard;rcases ei with⟨rfl,_⟩|⟨rfl,_⟩<;>simp) (dW fun d=>by simp[Op.equalIn,run_underlying he]) (by simp) (by simp) (by simp) (by simp)
 ·rename_i _ _ _ e1 e2;rw[e1]at cE;rw[e2]at dM;simp only[RV]at cE dM;obtain⟨p,q,cE,_⟩:=cE;subst h;obtain⟨e,he⟩:=hk;exact key _ _ cE dM (by unfold eqGuard;rcases ei with⟨rfl,_⟩|⟨rfl,_⟩<;>simp) (dW fun d=>by simp[Op.equalIn,run_underlying he]) (by simp) (by simp) (by simp) (by simp)
 ·rename_i e1 e2;rw[e1]at cE;rw[e2]at dM;simp only[RV]at cE dM;subst h;obtain⟨e,he⟩:=hk;exact key _ _ cE dM (by unfold eqGuard;rcases ei with⟨rfl,_⟩|⟨rfl,_⟩<;>simp) (dW fun d=>by simp[Op.equalIn,run_underlying he]) (by simp) (by simp) (by simp) (by simp)
 ·rename_i p q e1 e2;rw[e1]at cE;rw[e2]at dM;subst h;simp only at hk;exact key _ _ (RV.bool cE) (RV.bool dM) (by unfold eqGuard;rcases ei with⟨rfl,_⟩|⟨rfl,_⟩<;>simp) (dW fun d=>by simp[Op.equalIn,run_underlying hk]) (by simp) (by simp) (by simp) (by simp)
 ·rename_i e1 e2;rw[e1]at cE;rw[e2]at dM;simp only[RV]at cE dM;subst h;obtain⟨e,he⟩:=hk;exact key _ _ cE dM (by unfold eqGuard;rcases ei with⟨rfl,_⟩|⟨rfl,_⟩<;>simp) (dW fun d=>by simp[Op.equalIn,run_underlying he]) (by simp) (by simp) (by simp) (by simp)
 ·rename_i cs e1 e2;rw[e1]at cE;rw[e2]at dM;simp only[RV]at cE dM;obtain⟨aO,off,dM,_⟩:=dM;subst h;obtain⟨e,he⟩:=hk;exact key _ _ cE dM (by unfold eqGuard;rcases ei with⟨rfl,_⟩|⟨rfl,_⟩<;>simp) (dW fun d=>by simp[Op.equalIn,run_underlying he]) (by simp) (by simp) (by simp) (by simp)
 ·rename_i cs e1 e2;rw[e1]at cE;rw[e2]at dM;simp only[RV]at cE dM;obtain⟨aO,off,cE,_⟩:=cE;subst h;obtain⟨e,he⟩:=hk;exact key _ _ cE dM (by unfold eqGuard;rcases ei with⟨rfl,_⟩|⟨rfl,_⟩<;>simp) (dW fun d=>by simp[Op.equalIn,run_underlying he]) (by simp) (by simp) (by simp) (by simp)
 ·rename_i e1 e2;rw[e1]at cE;rw[e2]at dM;simp only[RV]at cE dM;subst h;obtain⟨⟨e,he⟩,hc⟩:=hk;refine key _ _ cE dM ?_ (dW fun d=>by simp[Op.equalIn,run_underlying he]) (by simp) (by simp) (by simp) (by simp);unfold eqGuard;rcases ei with⟨rfl,_⟩|⟨rfl,_⟩<;>rcases hc with⟨c,rfl⟩|⟨c,rfl⟩<;>simp
 ·rename_i e1 e2;rw[e1]at cE;rw[e2]at dM;simp only[RV]at cE dM;obtain⟨tt,z,cE⟩:=cE;subst h;obtain⟨⟨e,he⟩,hc⟩:=hk;exact key _ _ cE dM (by unfold eqGuard;rcases ei with⟨rfl,_⟩|⟨rfl,_⟩<;>simp) (dW fun d=>by simp[Op.equalIn,run_underlying he]) (by simp) (by simp) (by simp) (by simp)
 ·rename_i e1 e2;rw[e1]at cE;rw[e2]at dM;simp only[RV]at cE dM;obtain⟨tt,z,dM⟩:=dM;subst h;obtain⟨⟨e,he⟩,hc⟩:=hk;exact key _ _ cE dM (by unfold eqGuard;rcases ei with⟨rfl,_⟩|⟨rfl,_⟩<;>simp) (dW fun d=>by simp[Op.equalIn,run_underlying he]) (by simp) (by simp) (by simp) (by simp)
 ·rename_i tt z e1 e2;rw[e1]at cE;rw[e2]at dM;simp only[RV]at cE dM;obtain⟨z',cE,_⟩:=cE;subst h;obtain⟨⟨e,he⟩,hc⟩:=hk;exact key _ _ cE dM (by unfold eqGuard;rcases ei with⟨rfl,_⟩|⟨rfl,_⟩<;>simp) (dW fun d=>by simp[Op.equalIn,run_underlying he]) (by simp) (by simp) (by simp) (by simp)
 ·rename_i tt z e1 e2;rw[e1]at cE;rw[e2]at dM;simp only[RV]at cE dM;obtain⟨z',dM,_⟩:=dM;subst h;obtain⟨⟨e,he⟩,hc⟩:=hk;exact key _ _ cE dM (by unfold eqGuard;rcases ei with⟨rfl,_⟩|⟨rfl,_⟩<;>simp) (dW fun d=>by simp[Op.equalIn,run_underlying he]) (by simp) (by simp) (by simp) (by simp)
 ·rename_i e1 e2;rw[e1]at cE;rw[e2]at dM;simp only[RV]at cE dM;subst h;obtain⟨e,he⟩:=hk;exact key _ _ cE dM (by unfold eqGuard;rcases ei with⟨rfl,_⟩|⟨rfl,_⟩<;>simp) (dW fun d=>by simp[Op.equalIn,run_underlying he]) (by simp) (by simp) (by simp) (by simp)
 ·rename_i e0 Zc e1 e2;rw[e1]at cE;rw[e2]at dM;simp only[RV,Rd,reduceCtorEq,false_and,false_or]at cE dM;obtain⟨aO,off,cap,sz,cE,-⟩:=cE;subst h;obtain⟨e,he⟩:=hk;exact key _ _ cE dM (by unfold eqGuard;rcases ei with⟨rfl,_⟩|⟨rfl,_⟩<;>simp) (dW fun d=>by simp[Op.equalIn,run_underlying he]) (by simp) (by simp) (by simp) (by simp)
 ·rename_i e0 Zc e1 e2;rw[e1]at cE;rw[e2]at dM;simp only[RV,Rd,reduceCtorEq,false_and,false_or]at cE dM;obtain⟨aO,off,cap,sz,dM,-⟩:=dM;subst h;obtain⟨e,he⟩:=hk;exact key _ _ cE dM (by unfold eqGuard;rcases ei with⟨rfl,_⟩|⟨rfl,_⟩<;>simp) (dW fun d=>by simp[Op.equalIn,run_underlying he]) (by simp) (by simp) (by simp) (by simp)
theorem Uc{op:UnOp}{t:TypeId}{x:Operand}{x':a_}{v:V}(ho:o.op=.unOp op t x)(hx:au x=some x')(h:OF op (ρ x')=some v)(ev:Ev ρ a g w)(hh:av g w H):Good P a o g w ns v H:=by
 have cE:=ev _ _ hx;unfold OF at h;split at h
 ·rename_i k n e1;rw[e1]at cE;split at h<;>simp only[aab,reduceCtorEq]at h;subst h;exact Good.val hh (by simp only[execOp,ho,RV.int cE];simp[Op.unary,Op.intArith]) (RV.AG _ _)
 ·rename_i b e1;rw[e1]at cE;split at h<;>simp only[aab,reduceCtorEq]at h;subst h;exact Good.val hh (by simp only[execOp,ho,RV.bool cE];simp[Op.unary]) (RV.Ds _)
 ·cases h
theorem Mq{s d:TypeId}{k k0:IntKind}{x:Operand}{x':a_}{k1:IntKind}{n:Int}(ho:o.op=.convert s d x)(hs:P.underlying s=some (.int k0))(hd:P.underlying d=some (.int k))(hx:au x=some x')(e:ρ x'=.d (.int k1 n))(ev:Ev ρ a g w)(hh:av g w H):Good P a o g w ns (.d (.int k (k.wrap n))) H:=by have cE:=ev _ _ hx;rw[e]at cE;exact Good.val hh (by simp only[execOp,ho,RV.int cE];simp[convert,run_underlying hs,run_underlying hd,Conv.intToInt]) (RV.AG _ _)
theorem Mr{s d:TypeId}{x:Operand}{x':a_}{l:List UInt8}(ho:o.op=.convert s d x)(hs:P.underlying s=some .string)(hd:P.underlying d=some .string)(hx:au x=some x')(e:ρ x'=.d (.str l))(ev:Ev ρ a g w)(hh:av g w H):Good P a o g w ns (.d (.str l)) H:=by have cE:=ev _ _ hx;rw[e]at cE;obtain⟨b,hb,rfl⟩:=RV.str cE;exact Good.val hh (by simp only[execOp,ho,hb];simp[convert,run_underlying hs,run_underlying hd]) (RV.T' _)
end
end Fw
/-
  Operations, further: parts of strings and slices, fields, indexes, lengths.
-/
namespace Fw
open Go
section
variable {P:Program}{a:Act}{o:Oper}{g:G}{w:World}{ρ:a_→V}{H:ah}{ns:Nat}
theorem gg{u:V}{v:Value}{n:Nat}(h:dp u=some n)(hv:RV g w u v):∃k,v=.int k n:=by
 unfold dp at h;split at h
 ·rename_i k z;split at h
  ·rename_i hz;simp only[aab]at h;subst h;exact⟨k,by rw[RV.int hv,Int.toNat_of_nonneg hz]⟩
  ·cases h
 ·cases h
theorem u6{k:IntKind}{n y:Nat}(c:BoundsCode)(h:n≤y):(Instr.sliceBound (.int k n) y c).run P w=.ok n w:=by simp[Instr.sliceBound,asIntOf,h]
theorem fL{len cap l h:Nat}{lo hi:Option Operand}{uz ld:Option a_}(X1:Bool)(jH:cG lo=some uz)(js:cG hi=some ld)(hb:bounds ρ len uz ld=some (l,h))(ev:Ev ρ a g w)(hc:len≤cap):(Instr.sliceBounds X1 len cap (lo.map a.eval) (hi.map a.eval) none).run P w=.ok (l,h,cap) w∧l≤h∧h≤len:=by
 unfold bounds at hb;split at hb
 ·cases hb
 ·rename_i h0 eh;split at hb
  ·cases hb
  ·rename_i l0 el;cases gI:(Nat.ble l0 h0&&Nat.ble h0 len)with
    |false=>rw[gI]at hb;cases hb
    |true=>
     rw[gI]at hb;simp only[aag,aab,aae]at hb;obtain⟨rfl,rfl⟩:=hb;simp only[aac]at gI;have e1:=aak gI.1;have e2:=aak gI.2;have f1:(match hi.map a.eval with|some v=>Instr.sliceBound v cap (if X1 then .sliceAcap else .sliceAlen)|none=>pure len:Sem Nat).run P w=.ok h0 w:=by
      cases hi with
       |none=>simp[cG]at js;subst js;simp at eh;subst eh;simp
       |some x=>simp only[cG,aad]at js;obtain⟨y,hy,rfl⟩:=js;simp only at eh;obtain⟨k,hk⟩:=gg eh (ev _ _ hy);simp only[aat,hk];exact u6 _ (by omega)
     have f2:(match lo.map a.eval with|some v=>Instr.sliceBound v h0 (if(none:Option Value).isSome then .slice3C else .sliceB)|none=>pure 0:Sem Nat).run P w=.ok l0 w:=by
      cases lo with
       |none=>simp[cG]at jH;subst jH;simp at el;subst el;simp
       |some x=>simp only[cG,aad]at jH;obtain⟨y,hy,rfl⟩:=jH;simp only at el;obtain⟨k,hk⟩:=gg el (ev _ _ hy);simp only[aat,hk];exact u6 _ e1
     refine⟨?_,e1,e2⟩;cases hi with
      |none=>
       simp only[abC,Sem.run_pure,Result.ok.injEq,acf]at f1;subst f1;cases lo with
        |none=>simp only[abC,Sem.run_pure,Result.ok.injEq,acf]at f2;subst f2;simp[Instr.sliceBounds]
        |some x=>simp only[aat]at f2;simp only[Instr.sliceBounds,abC,aat,Sem.run_bind,Sem.run_pure,Result.andThen_ok,f2]
      |some y=>
       simp only[aat]at f1;cases lo with
        |none=>simp only[abC,Sem.run_pure,Result.ok.injEq,acf]at f2;subst f2;simp only[Instr.sliceBounds,abC,aat,Sem.run_bind,Sem.run_pure,Result.andThen_ok,f1]
        |some x=>simp only[aat]at f2;simp only[Instr.sliceBounds,aat,Sem.run_bind,Sem.run_pure,Result.andThen_ok,f1,f2]
theorem extract_toList(b:ByteArray)(l h:Nat):(b.extract l h).data.toList=(b.data.toList.take h).drop l:=by
 rw[ByteArray.data_extract,acR];apply ac5;intro i;simp only[acx,aaL,aa7];by_cases h1:i<h - l
 ·simp[h1,show l+i<h by omega]
 ·simp[h1,show¬l+i<h by omega]
theorem F8{t:TypeId}{x:Operand}{x':a_}{lo hi:Option Operand}{uz ld:Option a_}{s:List UInt8}{l h:Nat}(ho:o.op=.slice t x lo hi none)(ht:P.underlying t=some .string)(hx:au x=some x')(jH:cG lo=some uz)(js:cG hi=some ld)(e:ρ x'=.d (.str s))(hb:bounds ρ s.length uz ld=some (l,h))(ev:Ev ρ a g w)(hh:av g w H):Good P a o g w ns (.d (.str ((s.take h).drop l))) H:=by
 have hv:=ev _ _ hx;rw[e]at hv;obtain⟨b,Ca,rfl⟩:=RV.str hv;have cx:b.data.toList.length=b.size:=by simp
 rw[cx]at hb;obtain⟨f1,f2,f3⟩:=fL (P:=P) false jH js hb ev (aao _);refine Good.val (x:=.string (b.extract l h)) hh ?_ (by rw[←extract_toList];exact RV.T' _);simp[execOp,ho,Ca,Instr.sliceAt,run_underlying ht,Instr.slice,f1]
theorem iG.get{im:Nat→Prop}{aO:Nat}:∀{es:List (List D)}{off sz:Nat}(i:Nat){e:List D},iG w im aO off sz es→es[i]? =some e→e.length=sz∧dh w im aO (off+i*sz) e
 |[],_,_,i,e,_,h=>by simp at h
 |e0::es,off,sz,0,e,h,he=>by simp only[iG]at h;simp at he;subst he;simpa using⟨h.1,h.2.1⟩
 |e0::es,off,sz,i+1,e,h,he=>by simp only[iG]at h;simp at he;have:=iG.get i h.2.2 he;refine⟨this.1,?_⟩;rw[show off+(i+1)*sz=off+sz+i*sz by rw[aa3];omega];exact this.2
theorem iG.iH{im:Nat→Prop}{aO sz:Nat}:∀{es:List (List D)}{off:Nat},(∀i e,es[i]? =some e→e.length=sz∧dh w im aO (off+i*sz) e)→iG w im aO off sz es
 |[],_,_=>by simp only[iG]
 |e::es,off,h=>by simp only[iG];have h0:=h 0 e rfl;simp at h0;refine⟨h0.1,h0.2,iG.iH fun i e' he=>?_ ⟩;have:=h (i+1) e' (by simpa using he);rw[show off+sz+i*sz=off+(i+1)*sz by rw[aa3];omega];exact this
theorem Cb{es:List (List D)}{sz:Nat}(h:es.all (fun e=>Nat.beq e.length sz)=true):∀e∈es,e.length=sz:=fun e he=>aah ((aaq.1 h) e he)
theorem RV.list{es:List (List D)}{v:Value}{sz:Nat}(hv:RV g w (.d (.list es)) v)(hl:∀e∈es,e.length=sz):(es=[]∧(v=.slice none 0 0∨∃a c,v=.slice (some a) 0 c))∨∃aO off cap,v=.slice (some ⟨aO,off,none⟩) es.length cap∧es.length≤cap∧(es≠[]→da g w aO)∧iG w (da g w) aO off sz es:=by
 simp only[RV,Rd]at hv;rcases hv with h|⟨aO,off,cap,uy,h1,h2,h3,h4⟩
 ·exact .inl h
 ·refine .inr ⟨aO,off,cap,h1,h2,h3,?_⟩;cases es with
   |nil=>simp only[iG]
   |cons e es=>have e1:=(iG.get 0 h4 rfl).1;have e2:=hl e (by simp);rw[e1]at e2;subst e2;exact h4
theorem F9{t el:TypeId}{x:Operand}{x':a_}{lo hi:Option Operand}{uz ld:Option a_}{es:List (List D)}{sz l h:Nat}(ho:o.op=.slice t x lo hi none)(ht:P.underlying t=some (.slice el))(hs:gf P el=some sz)(hx:au x=some x')(jH:cG lo=some uz)(js:cG hi=some ld)(e:ρ x'=.d (.list es))(hl:es.all (fun e=>Nat.beq e.length sz)=true)(hb:bounds ρ es.length uz ld=some (l,h))(ev:Ev ρ a g w)(hh:av g w H):Good P a o g w ns (.d (.list ((es.take h).drop l))) H:=by
 have hv:=ev _ _ hx;rw[e]at hv;rcases RV.list hv (Cb hl)with⟨rfl,hn⟩|⟨aO,off,cap,h1,h2,h3,h4⟩
 ·rcases hn with hn|⟨a0,c0,hn⟩
  ·obtain⟨f1,f2,f3⟩:=fL (P:=P) (cap:=0) true jH js hb ev (by simp);simp at f3;subst f3;have:l=0:=by omega
   subst this;refine Good.val (x:=.slice none 0 0) hh ?_ (by simp[RV,Rd]);simp at f1;simp[execOp,ho,hn,Instr.sliceAt,run_underlying ht,Instr.slice,f1,cW hs]
  ·obtain⟨f1,f2,f3⟩:=fL (P:=P) (cap:=c0) true jH js hb ev (by simp);simp at f3;subst f3;have:l=0:=by omega
   subst this;refine Good.val (x:=.slice (some (if c0=0 then a0 else a0.add 0)) 0 c0) hh ?_ (by simp only[RV,Rd];exact .inl ⟨by simp,.inr ⟨_,_,rfl⟩⟩);simp at f1;simp[execOp,ho,hn,Instr.sliceAt,run_underlying ht,Instr.slice,f1,cW hs];split<;>rfl
 ·obtain⟨f1,f2,f3⟩:=fL (P:=P) true jH js hb ev h2;have hlen:((es.take h).drop l).length=h - l:=by simp;omega
  refine Good.val (x:=.slice (some (if cap=l then⟨aO,off,none⟩else⟨aO,off+l*sz,none⟩)) (h - l) (cap - l)) hh ?_ ?_
  ·simp only[execOp,ho,h1,Instr.sliceAt,Sem.run_bind,run_underlying ht,Result.andThen_ok,Instr.slice,abC,f1,cW hs,Sem.run_pure];split<;>simp[Addr.fA]
  ·simp only[RV,Rd];refine .inr ⟨aO,if cap=l then off else off+l*sz,cap - l,sz,?_,by omega,fun hn=>h3 ?_,?_ ⟩
   ·rw[hlen];congr 2;split<;>rfl
   ·rintro rfl;simp at hn
   ·by_cases hc:cap=l
    ·have:(es.take h).drop l=[]:=aby (by omega);rw[this];simp only[iG]
    ·simp only[hc,abt];refine iG.iH fun i e' he=>?_
     rw[aa7,aaL]at he;split at he
     ·have:=iG.get (l+i) h4 he;rw[aa3,←Nat.add_assoc]at this;exact this
     ·cases he
theorem lf{b h:Nat}{cs:List V}(hg:aA H b=some (.cells cs))(hl:Nat.beq cs.length h=true)(hh:av g w H):∃aO cp c e,g.γ b=some (.cells aO cp h)∧cs.all dE=true∧cs.length=h∧h≤cp∧w.heap[aO]? =some (.cells c e (0,0))∧cp≤c.size∧aP g w cs (c.toList.take h):=by
 have e1:=aah hl;obtain⟨x,hx⟩:=hh.back b _ hg;obtain⟨_,y,hy,hr⟩:=hh.live b x hx;rw[hg]at hy;simp only[aab]at hy;subst hy;cases x with
  |cells aO cp cur=>simp only[RB]at hr;obtain⟨r1,r2,r3,c,e,r4,r5,r6⟩:=hr;subst r1;subst e1;exact⟨aO,cp,c,e,hx,r2,rfl,r3,r4,r5,r6⟩
  |nil=>simp only[RB]at hr
  |obj=>simp only[RB]at hr
theorem RV.pY{b h off len sz aO cp:Nat}{v:Value}(hv:RV g w (.sl b h off len sz) v)(hg:g.γ b=some (.cells aO cp h)):∃cap,v=.slice (some ⟨aO,off,none⟩) len cap∧len≤cap∧off+cap*sz≤cp:=by simp only[RV]at hv;exact(hv.2 _ hg).2 rfl
theorem RV.u7{b h off len sz:Nat}{v:Value}(hv:RV g w (.sl b h off len sz) v)(hg:g.γ b=some .nil):h=0∧len=0∧off=0∧v=.slice none 0 0:=by simp only[RV]at hv;exact hv.2 _ hg
theorem RV.cK{b h off len sz:Nat}{v:Value}(hv:RV g w (.sl b h off len sz) v):g.cK b:=by simp only[RV]at hv;exact hv.1.2
theorem RV.AJ{b h off len sz aO cp cap:Nat}(hd:g.cK b)(hg:g.γ b=some (.cells aO cp h))(h1:len≤cap)(h2:off+cap*sz≤cp):RV g w (.sl b h off len sz) (.slice (some ⟨aO,off,none⟩) len cap):=by simp only[RV];refine⟨⟨rfl,hd⟩,fun x hx=>?_ ⟩;rw[hg]at hx;simp only[aab]at hx;subst hx;exact⟨aao _,fun _=>⟨cap,rfl,h1,h2⟩⟩
theorem jS{b h:Nat}(hl:dP H b h=true)(hh:av g w H):(∃aO cp,g.γ b=some (.cells aO cp h))∨(h=0∧g.γ b=some .nil):=by
 unfold dP at hl;split at hl
 ·rename_i cs hg;obtain⟨aO,cp,_,_,h1,_⟩:=lf hg hl hh;exact .inl ⟨aO,cp,h1⟩
 ·rename_i hg;obtain⟨x,hx⟩:=hh.back b _ hg;obtain⟨_,y,hy,hr⟩:=hh.live b x hx;rw[hg]at hy;simp only[aab]at hy;subst hy;cases x with
   |cells=>simp only[RB]at hr
   |nil=>exact .inr ⟨aah hl,hx⟩
   |obj=>simp only[RB]at hr
 ·cases hl
theorem Cc{b pZ off sz l h n aO cp cap:Nat}(hd:g.cK b)(hg:g.γ b=some (.cells aO cp pZ))(h1:l≤h)(h2:h≤n)(h3:n≤cap)(h4:off+cap*sz≤cp):RV g w (uE b pZ off sz l h) (.slice (some (if cap=l then⟨aO,off,none⟩else⟨aO,off+l*sz,none⟩)) (h - l) (cap - l)):=by
 unfold uE;cases hc:(Nat.beq l h&& !(Nat.beq l 0))with
  |true=>simp only[aac]at hc;have e:=aah hc.1;subst e;simp only[aag,RV,Rd];refine .inr ⟨aO,if cap=l then off else off+l*sz,cap - l,sz,?_,by simp,by simp,by simp only[iG]⟩;simp only[acj,aaY];congr 2;split<;>rfl
  |false=>
   simp only[aaw];have key:(if cap=l then(⟨aO,off,none⟩:Addr)else⟨aO,off+l*sz,none⟩)=⟨aO,off+l*sz,none⟩:=by
    split
    ·rename_i e;by_cases h0:l=0
     ·subst h0;simp
     ·have:l=h:=by omega
      subst this;have:Nat.beq l 0=false:=cw h0;simp[this]at hc
    ·rfl
   rw[key];refine RV.AJ hd hg (by omega) ?_;have:l*sz+(cap - l)*sz=cap*sz:=by rw[←aa3];congr 1;omega
   omega
theorem Dx{t el:TypeId}{x:Operand}{x':a_}{lo hi:Option Operand}{uz ld:Option a_}{b hb off len sz l h:Nat}(ho:o.op=.slice t x lo hi none)(ht:P.underlying t=some (.slice el))(hs:gf P el=some sz)(hx:au x=some x')(jH:cG lo=some uz)(js:cG hi=some ld)(e:ρ x'=.sl b hb off len sz)(hl:dP H b hb=true)(FM:bounds ρ len uz ld=some (l,h))(ev:Ev ρ a g w)(hh:av g w H):Good P a o g w ns (uE b hb off sz l h) H:=by
 have hv:=ev _ _ hx;rw[e]at hv;rcases jS hl hh with⟨aO,cp,hg⟩|⟨rfl,hg⟩
 ·obtain⟨cap,h1,h2,h3⟩:=RV.pY hv hg;obtain⟨f1,f2,f3⟩:=fL (P:=P) true jH js FM ev h2;refine Good.val hh ?_ (Cc (RV.cK hv) hg f2 f3 h2 h3);simp only[execOp,ho,h1,Instr.sliceAt,Sem.run_bind,run_underlying ht,Result.andThen_ok,Instr.slice,abC,f1,cW hs,Sem.run_pure];split<;>simp[Addr.fA]
 ·obtain⟨_,rfl,rfl,h1⟩:=RV.u7 hv hg;obtain⟨f1,f2,f3⟩:=fL (P:=P) (cap:=0) true jH js FM ev (aao _);have e1:h=0:=by omega
  have e2:l=0:=by omega
  subst e1;subst e2;rw[h1]at hv;refine Good.val (x:=.slice none 0 0) hh ?_ (by simpa[uE]using hv);simp[execOp,ho,h1,Instr.sliceAt,run_underlying ht,Instr.slice,f1,cW hs]
theorem Dy{t el:TypeId}{x:Operand}{x':a_}{lo hi:Option Operand}{uz ld:Option a_}{sz l h:Nat}(ho:o.op=.slice t x lo hi none)(ht:P.underlying t=some (.slice el))(hs:gf P el=some sz)(hx:au x=some x')(jH:cG lo=some uz)(js:cG hi=some ld)(e:ρ x'=.ab)(FM:bounds ρ 0 uz ld=some (l,h))(ev:Ev ρ a g w)(hh:av g w H):Good P a o g w ns .ab H:=by
 have hv:=ev _ _ hx;rw[e]at hv;simp only[RV]at hv;obtain⟨f1,f2,f3⟩:=fL (P:=P) (cap:=0) true jH js FM ev (aao _);have e1:h=0:=by omega
 have e2:l=0:=by omega
 subst e1;subst e2;refine Good.val (x:=.slice none 0 0) hh ?_ (by simp only[RV]);simp[execOp,ho,hv,Instr.sliceAt,run_underlying ht,Instr.slice,f1,cW hs]
theorem RV.Jm{b h off aO cp:Nat}{v:Value}(hv:RV g w (.ptr b h off) v)(hg:g.γ b=some (.cells aO cp h)):v=.pointer (some ⟨aO,off,none⟩):=by simp only[RV]at hv;obtain⟨Dz,X2,yv,h1,h2,_⟩:=hv.2 _ hg;simp only[GB.cells.injEq]at h1;obtain⟨rfl,rfl,rfl⟩:=h1;exact h2 rfl
theorem RV.Ms{b h off:Nat}{v:Value}(hv:RV g w (.ptr b h off) v):g.cK b:=by simp only[RV]at hv;exact hv.1.2
theorem F'{t el:TypeId}{x:Operand}{x':a_}{lo hi:Option Operand}{uz ld:Option a_}{b hb off n sz l h:Nat}(ho:o.op=.slice t x lo hi none)(ht:P.underlying t=some (.array n el))(hs:gf P el=some sz)(hx:au x=some x')(jH:cG lo=some uz)(js:cG hi=some ld)(e:ρ x'=.ptr b hb off)(hl:dP H b hb=true)(hn:off+n*sz≤hb)(h0:0<hb)(FM:bounds ρ n uz ld=some (l,h))(ev:Ev ρ a g w)(hh:av g w H):Good P a o g w ns (uE b hb off sz l h) H:=by
 have hv:=ev _ _ hx;rw[e]at hv;rcases jS hl hh with⟨aO,cp,hg⟩|⟨rfl,hg⟩
 ·have h1:=RV.Jm hv hg;obtain⟨f1,f2,f3⟩:=fL (P:=P) false jH js FM ev (aao n);have hcp:hb≤cp:=by
   obtain⟨_,y,hy,hr⟩:=hh.live b _ hg;cases y with
    |cells cs=>simp only[RB]at hr;omega
    |_=>simp only[RB]at hr
  refine Good.val hh ?_ (Cc (n:=n) (cap:=n) (RV.Ms hv) hg f2 f3 (aao _) (by omega));simp only[execOp,ho,h1,Instr.sliceAt,Sem.run_bind,run_underlying ht,Result.andThen_ok,Instr.sureAddr,Sem.run_pure,abC,f1,cW hs];split<;>simp[Addr.fA]
 ·omega
end
end Fw
