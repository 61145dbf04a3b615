/-
  The abstract machine: data, values, own boxes, the operations as they are used here, and what each of them computes.
-/
import Derived.Orders
import Derived.KernelRfl
import Derived.Below
import Derived.Laws.AppendOwn
import Derived.Laws.CopyRow
import Derived.Laws.Entries
import Derived.Laws.Append
import Derived.Lib.Strings
set_option linter.defProp false
def aaC:=@Option.some.injEq
def aaD:=@Bool.and_eq_true
def aaE:=@Prod.mk.injEq
def aaF:=@if_neg
def aaG:=@Option.map_eq_some_iff
def aaH:=@List.mem_of_getElem?
def aaJ:=@cond_true
def aaI:=@List.getElem?_eq_getElem
def aaK:=@if_pos
def aaL:=@decide_eq_true_eq
def aaM:=@Nat.eq_of_beq_eq_true
def aaN:=@Nat.le_of_ble_eq_true
def aaO:=@List.getElem?_eq_some_iff
def aaP:=@Nat.le_refl
def aaQ:=@List.length_map
def aaR:=@List.length_cons
def aaS:=@decide_eq_false
def aaT:=@cond_false
def aaU:=@Option.map_some
def aaW:=@Array.getD_eq_getD_getElem?
def aaX:=@List.all_cons
def aaY:=@Nat.zero_add
def aa0:=@decide_eq_true
def aaV:=@List.map_cons
def aa1:=@List.length_take
def aaZ:=@List.length_append
def aa3:=@List.all_eq_true
def aa4:=@Nat.beq_refl
def aa2:=@List.mem_append
def aa5:=@Bool.not_eq_true'
def aa6:=@decide_eq_false_iff_not
def aa8:=@Bool.or_eq_true
def aa7:=@List.mem_cons
def aa9:=@List.getElem?_set_self
def aa_:=@List.mem_map
def aa':=@List.length_nil
def aba:=@congrArg
def abb:=@Nat.blt_eq
def abc:=@Nat.mul_le_mul_right
def abd:=@Bool.true_and
def abf:=@Bool.and_self
def abg:=@List.length_set
def abi:=@List.mem_filter
def abj:=@List.length_singleton
def abk:=@List.mem_singleton
def abl:=@Nat.le_trans
def abh:=@Bool.eq_iff_iff
def abm:=@List.length_drop
def abp:=@Nat.ble_eq_true_of_le
def abq:=@List.take_of_length_le
def abr:=@Nat.lt_of_lt_of_le
def abt:=@Array.toList_inj
def abu:=@List.take_length
def abv:=@Option.bind_eq_some_iff
def abn:=@Bool.false_eq_true
def abx:=@List.nil_append
def aby:=@Nat.zero_le
def abA:=@List.drop_zero
def abB:=@List.map_append
def abo:=@List.mem_cons_self
def abC:=@Int.ofNat_eq_natCast
def abD:=@List.cons_append
def abE:=@Option.getD_some
def abz:=@List.getElem?_map
def abG:=@Nat.lt_or_ge
def abI:=@List.getElem?_take
def abJ:=@List.pairwise_cons
def abK:=@List.findIdx?_cons
def abN:=@Nat.mod_lt
def abO:=@Array.all_eq_true_iff_forall_mem
def abe:=@List.mem_cons_of_mem
def abP:=@Array.getElem?_eq_some_iff
def abF:=@Bool.not_true
def abQ:=@List.getElem?_append_right
def abR:=@List.getD_eq_getElem?_getD
def abS:=@Array.getElem?_setIfInBounds_ne
def abT:=@Decidable.not_not
def abw:=@List.foldl_cons
def abU:=@List.getElem?_append_left
def abL:=@if_true
def abM:=@if_false
def abV:=@Bool.not_eq_true
def abW:=@List.drop_drop
def abX:=@Bool.false_and
def abY:=@Bool.and_false
def abZ:=@Bool.or_eq_false_iff
def ab0:=@List.getElem?_cons_zero
def ab1:=@List.flatMap_cons
def ab2:=@List.dropWhile_cons
def ab3:=@Nat.mod_two_eq_zero_or_one
def ab5:=@List.mem_range
def ab6:=@Nat.lt_of_le_of_lt
def ab8:=@List.drop_eq_getElem_cons
def ab9:=@Nat.shiftRight_eq_div_pow
def ab':=@Option.map_none
def ab_:=@List.getElem?_of_mem
def aca:=@List.isEmpty_cons
def acb:=@Array.getElem?_setIfInBounds_self_of_lt
def acd:=@Nat.le_mul_of_pos_right
def ace:=@List.getElem?_cons_succ
def acf:=@List.flatMap_append
def acg:=@List.mem_map_of_mem
def ach:=@List.length_reverse
def ab7:=@Bool.not_false
def abH:=@List.lt_irrefl
def aci:=@List.drop_eq_nil_of_le
def acj:=@Nat.add_zero
def ack:=@Bool.not_eq_false'
def acm:=@and_true
def acn:=@Bool.and_true
def aco:=@List.take_add_one
def acp:=@List.getElem?_set_ne
def acq:=@List.findIdx?_isSome
def acr:=@List.getElem?_zip_eq_some
def acs:=@List.take_zero
def ab4:=@List.filter_cons
def acu:=@List.take_succ_cons
def acv:=@List.filter_eq_self
def acw:=@List.length_eq_zero_iff
def acx:=@List.getElem?_drop
def acy:=@UInt8.toNat_inj
def acz:=@Nat.mul_eq_zero
def acA:=@List.filter_append
def acB:=@List.nodup_cons
def acC:=@Nat.and_one_is_mod
def acE:=@Nat.add_mul
def acF:=@List.filter_eq_nil_iff
def acG:=@List.drop_of_length_le
def acH:=@List.take_append_of_le_length
def acI:=@List.drop_append_of_le_length
def acJ:=@List.take_append_drop
def acN:=@List.mem_flatMap
def acO:=@List.map_take
def acP:=@Bool.false_or
def acQ:=@Nat.eq_of_mul_eq_mul_right
def acS:=@List.map_congr_left
def acT:=@List.take_set_of_le
def acU:=@List.mem_or_eq_of_mem_set
def acV:=@List.append_nil
def acD:=@Option.some.inj
def acW:=@List.mem_of_find?_eq_some
def acX:=@Nat.sub_zero
def acY:=@List.all_nil
def acZ:=@List.set_set
def ac0:=@List.ext_getElem?
def ac2:=@List.map_drop
def acR:=@List.lt_trans
def acL:=@List.not_mem_nil
def ac3:=@List.isEmpty_nil
def ac4:=@Eq.trans
def ac5:=@List.getElem?_eq_none
def ac6:=@List.all_append
def ac7:=@List.cons.injEq
def acK:=@Nat.succ_mul
def ac8:=@Nat.min_eq_left
def ac9:=@List.drop_succ_cons
def ac':=@List.replicate_succ
def ac_:=@List.drop_set_of_lt
def adb:=@UInt8.toNat_ofNat'
def adh:=@of_decide_eq_true
def adi:=@List.any_eq_false
def adj:=@Nat.ble_eq
def adk:=@Nat.sub_self
def adl:=@List.map_map
def adm:=@Nat.zero_mul
def adn:=@Nat.pow_succ
set_option linter.unusedSimpArgs false
set_option linter.unusedVariables false
theorem k_.{u} {α:Sort u} {a b:α} (h:a=b:=by kernel_rfl):a=b:=h
namespace Fw
open Go
inductive D where
 |bool (b:Bool)
 |int (k:IntKind) (n:Int)
 |str (s:List UInt8)
 |list (es:List (List D))
 deriving Inhabited
inductive V where
 |any
 |d (x:D)
 |ad
 |ptr (b h off:Nat)
 |mW
 |bB (cs:List D)
 |sl (b h off len sz:Nat)
 |map (b:Nat)
 |mX
 |func (f:FuncId) (first cap:List V)
 |rL
 |iface (t:TypeId) (v:V)
 |bN
 |gm
 |agg (cs:List V)
 |tuple (vs:List V)
 |iter (b m:Nat)
 |full (es:List (List D))
 deriving Inhabited
def eK:V->Bool| .any=>false| .agg _=>false| .tuple _=>false|_=>true
inductive fJ where
 |cells (cs:List V)
 |nil
 |map (es:List (D×V))
 |Dw (s:List UInt8) (pos:Nat)
 |iH (m n:Nat) (seen:List Nat)
 deriving Inhabited
abbrev ao:=List (Option fJ)
inductive a_ where
 |t (n:Nat)
 |c (v:V)
 |g (n:Nat)
 |f (n:FuncId)
 deriving Inhabited
inductive lu where|str|slice|map|arr (n:Nat)
 deriving Inhabited
inductive dq where|int|str|bool
 deriving Inhabited
inductive rM where|bool|ptr|iface|slice|func
 deriving Inhabited
inductive lv where
 |mv (x:a_)
 |pick (c a b:a_)
 |alloc (z:List V)
 |box (n:Nat) (x:a_)
 |build (z:List V) (ps:List (Nat×Nat×a_))
 |mkSlice (sz:Nat) (len:Nat) (z:List V) (ps:List (Nat×Nat×a_))
 |load (n:Nat) (agg:Bool) (a:a_)
 |store (n:Nat) (a x:a_)
 |eZ (x:a_)
 |bin (op:BinOp) (x y:a_)
 |eq (neg:Bool) (k:rM) (x y:a_)
 |Dx (neg:Bool) (ks:List dq) (x y:a_)
 |un (op:UnOp) (x:a_)
 |conv (k:IntKind) (x:a_)
 |same (x:a_)
 |lx (x:a_)
 |rN (f:FuncId) (first cap:List a_)
 |GP
 |ku (x:a_) (lo hi:Option a_)
 |fY (sz:Nat) (x:a_) (lo hi:Option a_)
 |x_ (n sz:Nat) (x:a_) (lo hi:Option a_)
 |Pn (off n:Nat) (agg:Bool) (x:a_)
 |dI (off n:Nat) (x:a_)
 |cF (sz:Nat) (x i:a_)
 |pB (len sz:Nat) (x i:a_)
 |gz (x i:a_)
 |JX (len sz:Nat) (agg:Bool) (x i:a_)
 |ext (x:a_) (i:Nat)
 |len (k:lu) (x:a_)
 |append (sz bytes:Nat) (x y:a_)
 |oY (sz bytes:Nat) (z:List V) (l c:a_)
 |cap (x:a_)
 |ly (sz bytes:Nat) (z:List V) (x n:a_)
 |lookup (kk:dq) (z:V) (ok:Bool) (m k:a_)
 |mY (kk:dq) (m k x:a_)
 |range (ZX:Bool) (x:a_)
 |P4 (x:a_)
 |mZ (x:a_)
 |entry (x:a_)
 |nQ (t:TypeId) (x:a_)
 |lz (isMax:Bool) (xs:List a_)
 |call (f:FuncId) (args:List a_)
 |gV (x:a_) (args:List a_)
 |clip (sz:Nat) (x hi mx:a_)
 |bad
 deriving Inhabited
structure aj where
 dst:Option Nat
 op:lv
 guard:Option (Nat×Bool)
 after:List Nat:=[]
 deriving Inhabited
inductive IR where
 |skip
 |region (ops:List aj)
 |draw (ops:List aj)
 |seq (a b:IR)
 |cond (c:a_) (a b:IR)
 |block (id:Nat) (b:IR)
 |loop (b:IR)
 |exit (id:Nat)
 |ret
 deriving Inhabited
inductive iv where
 |t (n:Nat)
 |cell (n:Nat) (size:Nat) (agg:Bool)
 deriving Inhabited
structure ca where
 nparams:Nat
 ntmps:Nat
 res:List iv
 body:IR
 deriving Inhabited
def get:List (Nat×V)->Nat->V|[],_=>.any|(s,u)::l,t=>bif Nat.beq s t then u else get l t
def put:List (Nat×V)->Nat->V->List (Nat×V)|[],t,v=>[(t,v)]|(s,u)::l,t,v=>bif Nat.beq s t then(t,v)::l else bif Nat.ble t s then(t,v)::(s,u)::l else(s,u)::put l t v
structure St where
 n:Nat
 tm:List (Nat×V)
 hp:ao
 deriving Inhabited
def aF:ao->Nat->Option fJ|[],_=>none|b::_,0=>b|_::l,n+1=>aF l n
def bJ:ao->Nat->fJ->ao|[],0,x=>[some x]|[],n+1,x=>none::bJ [] n x|_::l,0,x=>some x::l|b::l,n+1,x=>b::bJ l n x
abbrev Wr:=Option (Nat×fJ)
def br(H:ao):Wr->ao|none=>H|some (b,x)=>bJ H b x
structure ch where
 rd:Nat->Option (List D)
 w0:World
def aZ(GL:ch)(tm:List (Nat×V)):a_->V
 | .t n=>get tm n
 | .c v=>v
 | .g n=>match GL.rd n with|some cs=>.bB cs|none=>.any
 | .f f=>.func f [] []
def B_(agg:Bool)(cs:List V):Option V:=bif agg then some (V.agg cs)else match cs with|[v]=>some v|_=>none
def cl:V->List V| .agg cs=>cs|v=>[v]
def gv(sz:Nat):Nat->List D->List (List D)|0,_=>[]|n+1,l=>l.take sz::gv sz n (l.drop sz)
def ji:List V->Option (List D)|[]=>some []| .d x::l=>(ji l).map (x:: ·)| .ad::l=>(ji l).map (.list []:: ·)|_=>none
def bW{α β:Type}(f:α->Option β):List α->Option (List β)
 |[]=>some []
 |x::xs=>
  match f x with
   |none=>none
   |some y=>
    match bW f xs with
     |none=>none
     |some ys=>some (y::ys)
def iI(H:ao):Nat->V->Option D
 |_,.d x=>some x
 |_,.ad=>some (.list [])
 |f+1,.sl b h off len sz=>
  match aF H b with
   |some (.cells cs)=>
    bif Nat.beq cs.length h&&Nat.ble (off+len*sz) h then
     match bW (iI H f) ((cs.drop off).take (len*sz))with
      |some l=>some (.list (gv sz len l))
      |none=>none
    else none
   |some .nil=>bif Nat.beq len 0 then some (.list [])else none
   |_=>none
 |_,_=>none
def m_:Nat:=6
def qm(H:ao):V->Option V
 | .agg cs=>
  match bW (iI H m_) cs with
   |some l=>some (.agg (l.map V.d))
   |none=>none
 | .gm=>some .gm
 | .bN=>some .bN
 | .mW=>some .mW
 |v=>
  match iI H m_ v with
   |some x=>some (.d x)
   |none=>none
def fc(H:ao):V->Option V
 | .tuple vs=>
  match bW (qm H) vs with
   |some l=>some (.tuple l)
   |none=>none
 |v=>qm H v
def bytesLess:List UInt8->List UInt8->Bool|_,[]=>false|[],_::_=>true|a::x,b::y=>bif Nat.blt a.toNat b.toNat then true else bif Nat.beq a.toNat b.toNat then bytesLess x y else false
def ai:List UInt8->List UInt8->Bool|[],[]=>true|a::x,b::y=>bif Nat.beq a.toNat b.toNat then ai x y else false|_,_=>false
def ou(op:BinOp)(k:IntKind)(a b:Int):Option D:=match op with
 | .add=>some (.int k (k.wrap (a+b)))
 | .sub=>some (.int k (k.wrap (a - b)))
 | .mul=>some (.int k (k.wrap (a*b)))
 | .quo=>if b=0 then none else some (.int k (k.wrap (a.tdiv b)))
 | .rem=>if b=0 then none else some (.int k (a.tmod b))
 | .and=>some (.int k (k.wrap (BitVec.ofInt k.bits a&&&BitVec.ofInt k.bits b).toNat))
 | .eql=>some (.bool (a==b))
 | .neq=>some (.bool (a !=b))
 | .lss=>some (.bool (decide (a<b)))
 | .leq=>some (.bool (decide (a<=b)))
 | .gtr=>some (.bool (decide (b<a)))
 | .geq=>some (.bool (decide (b<=a)))
 |_=>none
def Cj:Nat:=2^62
def GQ(op:BinOp)(a b:List UInt8):Option D:=match op with
 | .add=>if a.length+b.length<=Cj then some (.str (a++b))else none
 | .eql=>some (.bool (ai a b))
 | .neq=>some (.bool (!ai a b))
 | .lss=>some (.bool (bytesLess a b))
 | .leq=>some (.bool (bytesLess a b||ai a b))
 | .gtr=>some (.bool !(bytesLess a b||ai a b))
 | .geq=>some (.bool !bytesLess a b)
 |_=>none
def mJ(op:BinOp):V->V->Option V| .d (.int k a),.d (.int k' b)=>if k=k' then(ou op k a b).map .d else none| .d (.str a),.d (.str b)=>(GQ op a b).map .d|_,_=>none
def E4:D->D->Option Bool| .int k a,.int k' b=>if k=k' then some (a==b)else none| .str a,.str b=>some (ai a b)| .bool a,.bool b=>some (a==b)|_,_=>none
def iJ:dq->D->Bool| .int,.int _ _=>true| .str,.str _=>true| .bool,.bool _=>true|_,_=>false
def jj:List dq->List V->List V->Option Bool
 |[],[],[]=>some true
 |k::ks,.d x::xs,.d y::ys=>
  bif iJ k x then
   match E4 x y with
    |some true=>jj ks xs ys
    |some false=>some false
    |none=>none else none
 |_,_,_=>none
def ya(H:ao)(b h:Nat):Option Bool:=match aF H b with
 |some (.cells cs)=>bif Nat.beq cs.length h then some false else none
 |some .nil=>bif Nat.beq h 0 then some true else none
 |_=>none
def Dy(H:ao)(k:rM)(x y:V):Option Bool:=match k,x,y with
 | .slice,.sl b h _ _ _,.ad=>ya H b h
 | .slice,.ad,.sl b h _ _ _=>ya H b h
 | .bool,.d (.bool a),.d (.bool b)=>some (a==b)
 | .iface,.gm,.gm=>some true
 | .iface,.bN,.gm=>some false
 | .iface,.gm,.bN=>some false
 | .iface,.iface _ _,.gm=>some false
 | .iface,.gm,.iface _ _=>some false
 | .slice,.ad,.ad=>some true
 | .slice,.d (.list (_::_)),.ad=>some false
 | .slice,.ad,.d (.list (_::_))=>some false
 |_,_,_=>none
def U0(op:UnOp):V->Option V
 | .d (.int k a)=>
  match op with
   | .neg=>some (.d (.int k (k.wrap (0 - a))))
   |_=>none
 | .d (.bool b)=>
  match op with
   | .not=>some (.d (.bool !b))
   |_=>none
 |_=>none
def putCells{α:Type}:List α->Nat->List α->List α|l,_,[]=>l|l,i,v::vs=>putCells (l.set i v) (i+1) vs
def iK(ρ:a_->V):List V->List (Nat×Nat×a_)->Option (List V)|cs,[]=>some cs|cs,(off,size,x)::ps=>let vs:=cl (ρ x);bif Nat.beq vs.length size&&Nat.ble (off+size) cs.length&&vs.all eK then iK ρ (putCells cs off vs) ps else none
def jR(H:ao)(n:Nat):V->Option (List V)
 | .ptr b h off=>
  match aF H b with
   |some (.cells cs)=>bif Nat.beq cs.length h&&Nat.ble (off+n) h then some ((cs.drop off).take n)else none
   |_=>none
 | .bB cs=>bif Nat.ble n cs.length then some ((cs.take n).map .d)else none
 |_=>none
def gA(H:ao)(n:Nat)(a x:V):Option (Nat×fJ):=match a with
 | .ptr b h off=>
  match aF H b with
   |some (.cells cs)=>bif Nat.beq cs.length h&&Nat.ble (off+n) h&&Nat.beq (cl x).length n&&(cl x).all eK then some (b,.cells (putCells cs off (cl x)))else none
   |_=>none
 |_=>none
def bt(H:ao)(sz:Nat):V->Option (List V)
 | .ad=>some []
 | .d (.list es)=>bif es.all (fun e=>Nat.beq e.length sz)then some (es.flatten.map .d)else none
 | .d (.str s)=>bif Nat.beq sz 1 then some (s.map fun b=>.d (.int .u8 b.toNat))else none
 | .sl b h off len w_=>
  bif Nat.beq sz w_ then
   match aF H b with
    |some (.cells cs)=>bif Nat.beq cs.length h&&Nat.ble (off+len*sz) h then some ((cs.drop off).take (len*sz))else none
    |some .nil=>bif Nat.beq len 0 then some []else none
    |_=>none
  else none
 |_=>none
def ct:V->Option Nat| .d (.int _ n)=>if 0<=n then some n.toNat else none|_=>none
def ff(H:ao)(b h:Nat):Bool:=match aF H b with
 |some (.cells cs)=>Nat.beq cs.length h
 |some .nil=>Nat.beq h 0
 |_=>false
def iw(H:ao)(k:lu):V->Option Nat
 | .d (.str s)=>match k with| .str=>some s.length|_=>none
 | .d (.list es)=>match k with| .slice=>some es.length|_=>none
 | .ad=>match k with| .slice=>some 0|_=>none
 | .sl b h _ len _=>match k with| .slice=>bif ff H b h then some len else none|_=>none
 | .mX=>match k with| .map=>some 0|_=>none
 | .map b=>match k,aF H b with| .map,some (.map es)=>some es.length|_,_=>none
 |_=>none
def bI:Nat:=2^40
def dr(H:ao)(ns sz bytes:Nat)(x:V)(xs:List V):Option (V×Wr):=bif Nat.beq sz 0 then none else
 bif !(Nat.beq (xs.length%sz) 0)then none else
  bif !(xs.all eK)then none else
   match x with
    | .ad=>
     match xs with
      |[]=>some (.ad,none)
      |_=>bif Nat.ble (xs.length*(bytes+1)) bI then some (.sl ns xs.length 0 (xs.length / sz) sz,some (ns,.cells xs))else none
    | .sl b h off len w_=>
     bif Nat.beq sz w_ then
      match aF H b with
       |some (.cells cs)=>
        bif Nat.beq cs.length h&&Nat.beq off 0&&Nat.beq (len*sz) h&&Nat.ble ((h+xs.length)*(bytes+1)) bI then some (.sl b (h+xs.length) 0 (len+xs.length / sz) sz,some (b,.cells (cs++xs)))
        else none
       |some .nil=>
        bif Nat.beq h 0&&Nat.beq off 0&&Nat.beq len 0 then
         match xs with
          |[]=>some (x,none)
          |_=>bif Nat.ble (xs.length*(bytes+1)) bI then some (.sl b xs.length 0 (xs.length / sz) sz,some (b,.cells xs))else none
        else none
       |_=>none
     else none
    | .full es=>bif es.all (fun e=>Nat.beq e.length sz)&& !xs.isEmpty&&Nat.ble ((es.flatten.length+xs.length)*(bytes+1)) bI then some (.sl ns (es.flatten.length+xs.length) 0 (es.length+xs.length / sz) sz,some (ns,.cells (es.flatten.map .d++xs)))else none
    |_=>none
def bounds(ρ:a_->V)(len:Nat)(lo hi:Option a_):Option (Nat×Nat):=match(match hi with|some x=>ct (ρ x)|none=>some len)with
 |none=>none
 |some h=>
  match(match lo with|some x=>ct (ρ x)|none=>some 0)with
   |none=>none
   |some l=>bif Nat.ble l h&&Nat.ble h len then some (l,h)else none
def xa(k:D):List (D×V)->Nat->Option (Option (Nat×V))
 |[],_=>some none
 |(x,v)::es,i=>
  match E4 k x with
   |some true=>some (some (i,v))
   |some false=>xa k es (i+1)
   |none=>none
def uF(H:ao):V->Option (List (D×V))
 | .mX=>some []
 | .map b=>match aF H b with|some (.map es)=>some es|_=>none
 |_=>none
def bu(ρ:a_->V):List a_->List V|[]=>[]|x::xs=>ρ x::bu ρ xs
def pC(isMax:Bool):Int->List V->IntKind->Option Int|a,[],_=>some a|a,.d (.int k b)::l,k'=>if k=k' then pC isMax (if isMax then(if a<b then b else a)else(if b<a then b else a)) l k' else none|_,_,_=>none
def yc(b hh off sz l h:Nat):V:=bif Nat.beq l h&& !(Nat.beq l 0)then .d (.list [])else .sl b hh (off+l*sz) (h - l) sz
def bE(ρ:a_->V)(H:ao)(ns:Nat):lv->Option (V×Wr)
 | .mv x=>some (ρ x,none)
 | .pick c a b=>
  match ρ c with
   | .d (.bool t)=>some (bif t then ρ a else ρ b,none)
   |_=>none
 | .alloc z=>some (.ptr ns z.length 0,some (ns,.cells z))
 | .box n x=>let cs:=cl (ρ x);bif Nat.beq cs.length n&&cs.all eK then some (.ptr ns n 0,some (ns,.cells cs))else none
 | .build z ps=>(iK ρ z ps).map fun cs=>(.agg cs,none)
 | .mkSlice sz len z ps=>bif Nat.beq z.length (len*sz)&&z.all eK then(iK ρ z ps).map fun cs=>(.sl ns (len*sz) 0 len sz,some (ns,.cells cs))else none
 | .load n agg a=>
  match jR H n (ρ a)with
   |some cs=>(B_ agg cs).map fun v=>(v,none)
   |none=>none
 | .store n a x=>(gA H n (ρ a) (ρ x)).map fun p=>(.any,some p)
 | .eZ x=>
  match ρ x with
   | .ptr b h off=>some (.ptr b h off,none)
   | .bB cs=>some (.bB cs,none)
   | .func f a b=>some (.func f a b,none)
   |_=>none
 | .bin op x y=>(mJ op (ρ x) (ρ y)).map fun v=>(v,none)
 | .eq neg k x y=>(Dy H k (ρ x) (ρ y)).map fun b=>(.d (.bool (bif neg then !b else b)),none)
 | .Dx neg ks x y=>
  match ρ x with
   | .agg a=>
    match ρ y with
     | .agg b=>
      match jj ks a b with
       |some r=>some (.d (.bool (bif neg then !r else r)),none)
       |none=>none
     |_=>none
   |_=>none
 | .un op x=>(U0 op (ρ x)).map fun v=>(v,none)
 | .conv k x=>
  match ρ x with
   | .d (.int _ n)=>some (.d (.int k (k.wrap n)),none)
   |_=>none
 | .same x=>
  match ρ x with
   | .d (.str s)=>some (.d (.str s),none)
   |_=>none
 | .lx x=>
  match ρ x with
   | .d (.str s)=>some (.d (.list (s.map fun b=>[.int .u8 b.toNat])),none)
   |_=>none
 | .oY sz bytes z l c=>
  match ct (ρ l),ct (ρ c)with
   |some l,some c=>bif Nat.ble l c&&Nat.ble (c*(bytes+1)) bI&&Nat.ble c bI&&z.all eK&&Nat.beq z.length sz&&Nat.blt 0 sz then some (.sl ns (l*sz) 0 l sz,some (ns,.cells ((List.range (l*sz)).map fun i=>z.getD (i%sz) .any)))else none
   |_,_=>none
 | .cap x=>
  match ρ x with
   | .ad=>some (.d (.int .i64 0),none)
   |_=>none
 | .ly sz bytes z x n=>
  match ρ x,ct (ρ n)with
   | .ad,some n=>bif Nat.blt 0 n&&Nat.ble (n*(bytes+1)) bI&&Nat.ble n bI&&z.all eK&&Nat.beq z.length sz&&Nat.blt 0 sz then some (.sl ns (n*sz) 0 n sz,some (ns,.cells ((List.range (n*sz)).map fun i=>z.getD (i%sz) .any)))else none
   |_,_=>none
 | .rN f a b=>some (.func f (bu ρ a) (bu ρ b),none)
 | .GP=>some (.map ns,some (ns,.map []))
 | .range m x=>
  bif m then
   match ρ x with
    | .map b=>
     match aF H b with
      |some (.map es)=>some (.iter ns b,some (ns,.iH b es.length []))
      |_=>none
    |_=>none else none
 | .entry x=>
  match ρ x with
   | .iter b m=>
    match aF H b with
     |some (.iH m' n seen)=>
      match aF H m with
       |some (.map es)=>
        bif Nat.beq m' m&&Nat.beq es.length n then
         match seen.getLast? with
          |some i=>
           match es[i]? with
            |some (k,v)=>some (.tuple [.d k,v],none)
            |none=>none
          |none=>none else none
       |_=>none
     |_=>none
   |_=>none
 | .ku x lo hi=>
  match ρ x with
   | .d (.str s)=>(bounds ρ s.length lo hi).map fun(l,h)=>(.d (.str ((s.take h).drop l)),none)
   |_=>none
 | .fY sz x lo hi=>
  match ρ x with
   | .d (.list es)=>bif es.all (fun e=>Nat.beq e.length sz)then(bounds ρ es.length lo hi).map fun(l,h)=>(.d (.list ((es.take h).drop l)),none)else none
   | .sl b hh off len w_=>bif Nat.beq sz w_&&ff H b hh then(bounds ρ len lo hi).map fun(l,h)=>(yc b hh off sz l h,none)else none
   | .ad=>(bounds ρ 0 lo hi).map fun _=>(.ad,none)
   |_=>none
 | .clip sz x hi mx=>
  match ρ x,ct (ρ hi),ct (ρ mx)with
   | .d (.list es),some h,some m=>bif es.all (fun e=>Nat.beq e.length sz)&&Nat.beq h m&&Nat.ble h es.length then some (.full (es.take h),none)else none
   |_,_,_=>none
 | .x_ n sz x lo hi=>
  match ρ x with
   | .ptr b hh off=>bif ff H b hh&&Nat.ble (off+n*sz) hh&&Nat.blt 0 hh then(bounds ρ n lo hi).map fun(l,h)=>(yc b hh off sz l h,none)else none
   |_=>none
 | .Pn off n agg x=>
  match ρ x with
   | .agg cs=>bif Nat.ble (off+n) cs.length then(B_ agg ((cs.drop off).take n)).map fun v=>(v,none)else none
   |_=>none
 | .dI off n x=>
  match ρ x with
   | .ptr b h o=>some (.ptr b h (o+off),none)
   | .bB cs=>some (.bB ((cs.drop off).take n),none)
   |_=>none
 | .cF sz x i=>
  match ct (ρ i)with
   |none=>none
   |some j=>
    match ρ x with
     | .d (.list es)=>
      match es[j]? with
       |some e=>bif Nat.beq e.length sz then some (.bB e,none)else none
       |none=>none
     | .sl b h off len w_=>bif Nat.beq sz w_&&Nat.blt j len&&ff H b h then some (.ptr b h (off+j*sz),none)else none
     |_=>none
 | .pB len sz x i=>
  match ct (ρ i)with
   |none=>none
   |some j=>
    bif Nat.blt j len then
     match ρ x with
      | .ptr b h off=>some (.ptr b h (off+j*sz),none)
      | .bB cs=>some (.bB (cs.drop (j*sz)),none)
      |_=>none else none
 | .gz x i=>
  match ct (ρ i)with
   |none=>none
   |some j=>
    match ρ x with
     | .d (.str s)=>
      match s[j]? with
       |some b=>some (.d (.int .u8 b.toNat),none)
       |none=>none
     |_=>none
 | .JX len sz agg x i=>
  match ct (ρ i)with
   |none=>none
   |some j=>
    match ρ x with
     | .agg cs=>bif Nat.blt j len&&Nat.ble (len*sz) cs.length then(B_ agg ((cs.drop (j*sz)).take sz)).map fun v=>(v,none)else none
     |_=>none
 | .ext x i=>
  match ρ x with
   | .tuple vs=>vs[i]?.map fun v=>(v,none)
   |_=>none
 | .len k x=>
  match k with
   | .arr n=>some (.d (.int .i64 n),none)
   |k=>
    match iw H k (ρ x)with
     |some n=>some (.d (.int .i64 (n:Nat)),none)
     |none=>none
 | .append sz bytes x y=>
  match bt H sz (ρ y)with
   |some xs=>dr H ns sz bytes (ρ x) xs
   |none=>none
 | .nQ t x=>some (.iface t (ρ x),none)
 | .lz isMax xs=>
  match bu ρ xs with
   | .d (.int k a)::l=>(pC isMax a l k).map fun n=>(.d (.int k n),none)
   |_=>none
 | .lookup kk z ok m k=>
  match ρ k with
   | .d kd=>
    bif iJ kk kd then
     match uF H (ρ m)with
      |some es=>
       match xa kd es 0 with
        |some (some (_,v))=>some (bif ok then .tuple [v,.d (.bool true)]else v,none)
        |some none=>some (bif ok then .tuple [z,.d (.bool false)]else z,none)
        |none=>none
      |none=>none else none
   |_=>none
 | .mY kk m k x=>
  match ρ m,ρ k with
   | .map b,.d kd=>
    bif iJ kk kd then
     match aF H b with
      |some (.map es)=>
       match xa kd es 0 with
        |some (some (i,_))=>some (.any,some (b,.map (es.set i (kd,ρ x))))
        |some none=>some (.any,some (b,.map (es++[(kd,ρ x)])))
        |none=>none
      |_=>none else none
   |_,_=>none
 |_=>none
end Fw
/-
  What a value of the abstract machine says of a value of the model: the relation, and what keeps it.
-/
namespace Fw
open Go
mutual
def Rd(w:World)(im:Nat->Prop):D->Value->Prop| .bool b,v=>v=.bool b| .int k n,v=>v=.int k n| .str l,v=>∃s:ByteArray,v=.string s/\s.data.toList=l| .list es,v=>(es=[]/\(v=.slice none 0 0\/∃a c,v=.slice (some a) 0 c))\/∃aU off cap sz,v=.slice (some ⟨aU,off,none⟩) es.length cap/\es.length<=cap/\(es≠[]->im aU)/\iu w im aU off sz es
def iu(w:World)(im:Nat->Prop)(aU off sz:Nat):List (List D)->Prop|[]=>True|e::es=>e.length=sz/\dC w im aU off e/\iu w im aU (off+sz) sz es
def dC(w:World)(im:Nat->Prop)(aU off:Nat):List D->Prop|[]=>True|d::ds=>(∃v,w.cell? ⟨aU,off,none⟩=some v/\Rd w im d v)/\dC w im aU (off+1) ds
end
def jS(w w':World)(im xd:Nat->Prop):Prop:=∀k,im k->xd k/\w'.heap[k]? =w.heap[k]?
theorem jS.cell{w w':World}{im xd:Nat->Prop}(h:jS w w' im xd){k o:Nat}(hk:im k):w'.cell? ⟨k,o,none⟩=w.cell? ⟨k,o,none⟩:=by have:=(h k hk).2;grind[World.cell?]
mutual
theorem Rd.keeps{w w':World}{im xd:Nat->Prop}(h:jS w w' im xd):∀(d:D)(v:Value),Rd w im d v->Rd w' xd d v
 | .bool _,_,hd=>by grind[Rd]
 | .int _ _,_,hd=>by grind[Rd]
 | .str _,_,hd=>by grind[Rd]
 | .list es,v,hd=>by
  simp only[Rd]at hd⊢;rcases hd with hd|⟨aU,off,cap,sz,h1,h2,h3,h4⟩
  ·grind
  ·refine .inr ⟨aU,off,cap,sz,h1,h2,fun hn=>(h _ (h3 hn)).1,?_ ⟩;cases es with
    |nil=>simp only[iu]
    |cons e es=>exact iu.keeps h (h3 (by simp)) _ _ _ h4
theorem iu.keeps{w w':World}{im xd:Nat->Prop}(h:jS w w' im xd){aU:Nat}(hb:im aU):∀(off sz:Nat)(es:List (List D)),iu w im aU off sz es->iu w' xd aU off sz es
 |_,_,[],_=>by simp only[iu]
 |off,sz,e::es,hd=>by simp only[iu]at hd⊢;exact⟨hd.1,dC.keeps h hb _ _ hd.2.1,iu.keeps h hb _ _ _ hd.2.2⟩
theorem dC.keeps{w w':World}{im xd:Nat->Prop}(h:jS w w' im xd){aU:Nat}(hb:im aU):∀(off:Nat)(ds:List D),dC w im aU off ds->dC w' xd aU off ds
 |_,[],_=>by simp only[dC]
 |off,d::ds,hd=>by simp only[dC]at hd⊢;obtain⟨⟨v,h1,h2⟩,h3⟩:=hd;exact⟨⟨v,by rw[h.cell hb];exact h1,Rd.keeps h _ _ h2⟩,dC.keeps h hb _ _ h3⟩
end
inductive GB where
 |cells (aU cp cur:Nat)
 |nil
 |obj (aU:Nat)
def GB.own:GB->Option Nat| .cells b _ _=>some b| .nil=>none| .obj b=>some b
structure G where
 cV:Nat->Prop
 γ:Nat->Option GB
 fo:Nat->Prop
def cZ(g:G)(w:World)(k:Nat):Prop:=k<w.heap.size/\¬g.fo k/\∀b x,g.γ b=some x->x.own≠some k
mutual
def RV(g:G)(w:World):V->Value->Prop
 | .any,_=>True
 | .full es,v=>Rd w (cZ g w) (.list es) v/\∃a,v=.slice a es.length es.length
 | .d x,v=>Rd w (cZ g w) x v
 | .ad,v=>v=.slice none 0 0
 | .ptr b h off,v=>((∃aU o,v=.pointer (some ⟨aU,o,none⟩))/\g.cV b)/\∀x,g.γ b=some x->∃aU cp cur,x=.cells aU cp cur/\(cur=h->v=.pointer (some ⟨aU,off,none⟩))/\h<=cur
 | .mW,v=>v=.pointer none
 | .bB cs,v=>∃aU off,v=.pointer (some ⟨aU,off,none⟩)/\(cs≠[]->cZ g w aU)/\dC w (cZ g w) aU off cs
 | .sl b h off len sz,v=>
  (v.oneCell'=true/\g.cV b)/\∀x,g.γ b=some x->match x with
   | .nil=>h=0/\len=0/\off=0/\v=.slice none 0 0
   | .cells aU cp cur=>h<=cur/\(cur=h->∃cap,v=.slice (some ⟨aU,off,none⟩) len cap/\len<=cap/\off+cap*sz<=cp)
   | .obj _=>False
 | .map b,v=>(v.oneCell'=true/\g.cV b)/\∀x,g.γ b=some x->∃aU,x=.obj aU/\v=.map (some aU)
 | .mX,v=>v=.map none
 | .func f a c,v=>∃x y,v=.func (.func f) x y/\aT g w a x.toList/\aT g w c y.toList
 | .rL,v=>v=.nilFunc
 | .iface t u,v=>∃x,v=.iface t x/\RV g w u x
 | .bN,v=>∃t x,v=.iface t x
 | .gm,v=>v=.nilIface
 | .agg cs,v=>∃x,v=.agg x/\aT g w cs x.toList
 | .tuple vs,v=>∃x,v=.tuple x/\aT g w vs x.toList
 | .iter b _,v=>(v.oneCell'=true/\g.cV b)/\∀x,g.γ b=some x->∃aU,x=.obj aU/\v=.pointer (some ⟨aU,0,none⟩)
def aT(g:G)(w:World):List V->List Value->Prop|[],[]=>True|a::as,b::bs=>RV g w a b/\aT g w as bs|_,_=>False
end
def GB.step:Option GB->Option GB->Prop|_,none=>True|none,some _=>False|some (.cells b c u),some x=>x=.cells b c u\/∃b' c' u',x=.cells b' c' u'/\u<u'|some .nil,some x=>x=.nil\/∃b' c' u',x=.cells b' c' u'/\0<u'|some (.obj b),some x=>x=.obj b
theorem GB.step.refl:∀x,GB.step x x|none=>trivial|some (.cells _ _ _)=>.inl rfl|some .nil=>.inl rfl|some (.obj _)=>rfl
structure cg (g:G) (w:World) (g':G) (w':World):Prop where
 os:w'.os=w.os
 tape:w'.tape=w.tape
 output:w'.output=w.output
 size:w.heap.size<=w'.heap.size
 keeps:jS w w' (cZ g w) (cZ g' w')
 cV:∀b,g.cV b->g'.cV b
 step:∀b,g.cV b->GB.step (g.γ b) (g'.γ b)
 fo:g'.fo=g.fo
 fp:∀k,g.fo k->w'.heap[k]? =w.heap[k]?
theorem cg.refl(g:G)(w:World):cg g w g w:=⟨rfl,rfl,rfl,aaP _,fun _ h=>⟨h,rfl⟩,fun _ h=>h,fun _ _=>GB.step.refl _,rfl,fun _ _=>rfl⟩
theorem GB.step.trans:∀{x y z:Option GB},GB.step x y->GB.step y z->GB.step x z
 |_,_,none,_,_=>by simp only[GB.step]
 |x,none,some z,_,h=>by grind[GB.step]
 |none,some y,_,h,_=>by grind[GB.step]
 |some (.cells b c u),some y,some z,h1,h2=>by
  rcases h1 with rfl|⟨b',c',u',rfl,hu⟩
  ·exact h2
  ·rcases h2 with rfl|⟨b2,c2,u2,rfl,L7⟩
   ·exact .inr ⟨_,_,_,rfl,hu⟩
   ·exact .inr ⟨_,_,_,rfl,by omega⟩
 |some .nil,some y,some z,h1,h2=>by
  rcases h1 with rfl|⟨b',c',u',rfl,hu⟩
  ·exact h2
  ·rcases h2 with rfl|⟨b2,c2,u2,rfl,L7⟩
   ·exact .inr ⟨_,_,_,rfl,hu⟩
   ·exact .inr ⟨_,_,_,rfl,by omega⟩
 |some (.obj b),some y,some z,h1,h2=>by grind[GB.step]
theorem cg.trans{g g' ZY:G}{w w' V0:World}(h:cg g w g' w')(k:cg g' w' ZY V0):cg g w ZY V0:=⟨k.os.trans h.os,k.tape.trans h.tape,k.output.trans h.output,abl h.size k.size,fun b hb=>⟨(k.keeps b (h.keeps b hb).1).1,((k.keeps b (h.keeps b hb).1).2).trans (h.keeps b hb).2⟩,fun b hb=>k.cV b (h.cV b hb),fun b hb=>(h.step b hb).trans (k.step b (h.cV b hb)),k.fo.trans h.fo,fun b hb=>(k.fp b (by rw[h.fo];exact hb)).trans (h.fp b hb)⟩
mutual
theorem RV.ext{g g':G}{w w':World}(h:cg g w g' w'):∀(u:V)(v:Value),RV g w u v->RV g' w' u v
 | .any,_,_=>by simp only[RV]
 | .d x,v,hv=>by simp only[RV]at hv⊢;exact Rd.keeps h.keeps _ _ hv
 | .full es,v,hv=>by simp only[RV]at hv⊢;exact⟨Rd.keeps h.keeps _ _ hv.1,hv.2⟩
 | .ad,_,hv=>by grind[RV]
 | .ptr b hh off,v,hv=>by
  simp only[RV]at hv⊢;refine⟨⟨hv.1.1,h.cV b hv.1.2⟩,fun x hx=>?_ ⟩;have hs:=h.step b hv.1.2;rw[hx]at hs;cases hb:g.γ b with
   |none=>rw[hb]at hs;exact hs.elim
   |some y=>obtain⟨aU,cp,cur,rfl,h1,h2⟩:=hv.2 y hb;rw[hb]at hs;rcases hs with rfl|⟨b',c',u',rfl,hu⟩;all_goals grind
 | .mW,_,hv=>by grind[RV]
 | .bB cs,v,hv=>by
  simp only[RV]at hv⊢;obtain⟨aU,off,h1,h2,h3⟩:=hv;refine⟨aU,off,h1,fun hn=>(h.keeps _ (h2 hn)).1,?_ ⟩;cases cs with
   |nil=>simp only[dC]
   |cons c cs=>exact dC.keeps h.keeps (h2 (by simp)) _ _ h3
 | .sl b hh off len sz,v,hv=>by
  simp only[RV]at hv⊢;refine⟨⟨hv.1.1,h.cV b hv.1.2⟩,fun x hx=>?_ ⟩;have hs:=h.step b hv.1.2;rw[hx]at hs;cases hb:g.γ b with
   |none=>rw[hb]at hs;exact hs.elim
   |some y=>
    have hy:=hv.2 y hb;rw[hb]at hs;cases y with
     |nil=>rcases hs with rfl|⟨b',c',u',rfl,hu⟩;all_goals grind
     |cells bb cc uu=>rcases hs with rfl|⟨b',c',u',rfl,hu⟩;all_goals grind
     |obj bb=>grind
 | .map b,v,hv=>by simp only[RV]at hv⊢;refine⟨⟨hv.1.1,h.cV b hv.1.2⟩,fun x hx=>?_ ⟩;have hs:=h.step b hv.1.2;rw[hx]at hs;cases hb:g.γ b<;>grind[GB.step]
 | .mX,_,hv=>by grind[RV]
 | .func f a c,v,hv=>by simp only[RV]at hv⊢;obtain⟨x,y,h1,h2,h3⟩:=hv;exact⟨x,y,h1,aT.ext h _ _ h2,aT.ext h _ _ h3⟩
 | .rL,_,hv=>by grind[RV]
 | .iface t u,v,hv=>by simp only[RV]at hv⊢;obtain⟨x,h1,h2⟩:=hv;exact⟨x,h1,RV.ext h _ _ h2⟩
 | .bN,_,hv=>by grind[RV]
 | .gm,_,hv=>by grind[RV]
 | .agg cs,v,hv=>by simp only[RV]at hv⊢;obtain⟨x,h1,h2⟩:=hv;exact⟨x,h1,aT.ext h _ _ h2⟩
 | .tuple vs,v,hv=>by simp only[RV]at hv⊢;obtain⟨x,h1,h2⟩:=hv;exact⟨x,h1,aT.ext h _ _ h2⟩
 | .iter b _,v,hv=>by simp only[RV]at hv⊢;refine⟨⟨hv.1.1,h.cV b hv.1.2⟩,fun x hx=>?_ ⟩;have hs:=h.step b hv.1.2;rw[hx]at hs;cases hb:g.γ b<;>grind[GB.step]
theorem aT.ext{g g':G}{w w':World}(h:cg g w g' w'):∀(us:List V)(vs:List Value),aT g w us vs->aT g' w' us vs
 |[],[],_=>by simp only[aT]
 |u::us,v::vs,hv=>by simp only[aT]at hv⊢;exact⟨RV.ext h _ _ hv.1,aT.ext h _ _ hv.2⟩
 |[],_::_,hv=>by grind[aT]
 |_::_,[],hv=>by grind[aT]
end
variable {g g':G}{w w':World}{GL:ch}{a:Act}{σ:St}
theorem RV.one:∀{u:V}{v:Value},eK u=true->RV g w u v->v.oneCell'=true:=by
 intro u v hu hv;cases u with
  |any=>grind[eK]
  |agg=>grind[eK]
  |tuple=>grind[eK]
  |d x=>
   cases x with
    |bool=>simp only[RV,Rd]at hv;subst hv;rfl
    |int=>simp only[RV,Rd]at hv;subst hv;rfl
    |str=>simp only[RV,Rd]at hv;obtain⟨s,rfl,_⟩:=hv;rfl
    |list es=>simp only[RV,Rd]at hv;rcases hv with⟨_,rfl|⟨_,_,rfl⟩⟩|⟨_,_,_,_,rfl,_⟩<;>rfl
  |full=>simp only[RV]at hv;obtain⟨_,_,rfl⟩:=hv;rfl
  |ad=>simp only[RV]at hv;subst hv;rfl
  |mW=>simp only[RV]at hv;subst hv;rfl
  |mX=>simp only[RV]at hv;subst hv;rfl
  |rL=>simp only[RV]at hv;subst hv;rfl
  |gm=>simp only[RV]at hv;subst hv;rfl
  |bB=>simp only[RV]at hv;obtain⟨_,_,rfl,_⟩:=hv;rfl
  |func=>simp only[RV]at hv;obtain⟨_,_,rfl,_⟩:=hv;rfl
  |iface=>simp only[RV]at hv;obtain⟨_,rfl,_⟩:=hv;rfl
  |bN=>simp only[RV]at hv;obtain⟨_,_,rfl⟩:=hv;rfl
  |ptr=>simp only[RV]at hv;obtain⟨⟨⟨_,_,rfl⟩,_⟩,_⟩:=hv;rfl
  |sl=>grind[RV]
  |map=>grind[RV]
  |iter=>grind[RV]
theorem aT.length{g:G}{w:World}:∀{us:List V}{vs:List Value},aT g w us vs->us.length=vs.length
 |[],[],_=>rfl
 |u::us,v::vs,h=>by simp only[aT]at h;simp[aT.length h.2]
 |[],_::_,h=>by grind[aT]
 |_::_,[],h=>by grind[aT]
theorem aT.get{g:G}{w:World}:∀{us:List V}{vs:List Value}(i:Nat){u:V},aT g w us vs->us[i]? =some u->∃v,vs[i]? =some v/\RV g w u v
 |[],[],i,u,_,hu=>by simp at hu
 |x::us,v::vs,0,u,h,hu=>by grind[aT]
 |x::us,v::vs,i+1,u,h,hu=>by simp only[aT]at h;simp at hu⊢;exact aT.get i h.2 hu
 |[],_::_,_,_,h,_=>by grind
 |_::_,[],_,_,h,_=>by grind[aT]
theorem aT.append{g:G}{w:World}:∀{us:List V}{vs:List Value}{ZZ:List V}{V1:List Value},aT g w us vs->aT g w ZZ V1->aT g w (us++ZZ) (vs++V1)
 |[],[],_,_,_,h=>by grind
 |u::us,v::vs,_,_,h,h'=>by simp only[aT]at h;simp only[abD,aT];exact⟨h.1,aT.append h.2 h'⟩
 |[],_::_,_,_,h,_=>by grind[aT]
 |_::_,[],_,_,h,_=>by grind[aT]
theorem aT.take{g:G}{w:World}:∀{us:List V}{vs:List Value}(n:Nat),aT g w us vs->aT g w (us.take n) (vs.take n)
 |[],[],n,_=>by simp[aT]
 |u::us,v::vs,0,h=>by simp[aT]
 |u::us,v::vs,n+1,h=>by simp only[aT]at h;simp only[acu,aT];exact⟨h.1,aT.take n h.2⟩
 |[],_::_,_,h=>by grind[aT]
 |_::_,[],_,h=>by grind[aT]
theorem aT.drop{g:G}{w:World}:∀{us:List V}{vs:List Value}(n:Nat),aT g w us vs->aT g w (us.drop n) (vs.drop n)
 |[],[],n,_=>by simp[aT]
 |u::us,v::vs,0,h=>by grind
 |u::us,v::vs,n+1,h=>by simp only[aT]at h;simp only[ac9];exact aT.drop n h.2
 |[],_::_,_,h=>by grind[aT]
 |_::_,[],_,h=>by grind[aT]
theorem aT.set{g:G}{w:World}:∀{us:List V}{vs:List Value}(n:Nat){u:V}{v:Value},aT g w us vs->RV g w u v->aT g w (us.set n u) (vs.set n v)
 |[],[],n,_,_,_,_=>by simp[aT]
 |u::us,v::vs,0,_,_,h,hv=>by grind[aT]
 |u::us,v::vs,n+1,_,_,h,hv=>by simp only[aT]at h;simp only[List.set_cons_succ,aT];exact⟨h.1,aT.set n h.2 hv⟩
 |[],_::_,_,_,_,h,_=>by grind[aT]
 |_::_,[],_,_,_,h,_=>by grind[aT]
theorem aT.one{g:G}{w:World}:∀{us:List V}{vs:List Value},us.all eK=true->aT g w us vs->∀v∈vs,v.oneCell'=true
 |[],[],_,_=>by simp
 |u::us,v::vs,hu,h=>by
  simp only[aT]at h;simp only[aaX,aaD]at hu;intro x hx;rcases aa7.1 hx with rfl|hx
  ·exact RV.one hu.1 h.1
  ·exact aT.one hu.2 h.2 x hx
 |[],_::_,_,h=>by grind[aT]
 |_::_,[],_,h=>by grind
theorem dC.cX{g:G}{w:World}{aU:Nat}:∀{off:Nat}{ds:List D},dC w (cZ g w) aU off ds->∃vs,aT g w (ds.map V.d) vs/\∀j v,vs[j]? =some v->w.cell? ⟨aU,off+j,none⟩=some v
 |_,[],_=>⟨[],by simp[aT],by simp⟩
 |off,d::ds,h=>by simp only[dC]at h;obtain⟨⟨v,h1,h2⟩,h3⟩:=h;obtain⟨vs,h4,h5⟩:=dC.cX h3;refine⟨v::vs,by grind[aT,RV],fun j u hu=>?_ ⟩;grind
def RB(g:G)(w:World):GB->fJ->Prop| .cells aU cp cur,.cells cs=>cur=cs.length/\cs.all eK=true/\cs.length<=cp/\∃c e,w.heap[aU]? =some (.cells c e (0,0))/\cp<=c.size/\aT g w cs (c.toList.take cs.length)| .nil,.nil=>True| .obj aU,.map es=>∃bO clock,w.heap[aU]? =some (.map bO clock)/\bO.size=es.length/\(∀(i:Nat)(k:D)(v:V),es[i]? =some (k,v)->∃x,bO[i]? =some x/\x.born<clock/\Rd w (cZ g w) k x.key/\RV g w v x.val)/\(∀(i:Nat)(x:MapEntry),bO[i]? =some x->x.born=i)/\clock=bO.size| .obj aU,.iH m n seen=>∃mb sa,w.heap[aU]? =some (.mapIter (some mb) n sa n)/\sa.toList=seen/\g.cV m/\∀x,g.γ m=some x->x=.obj mb| .obj aU,.Dw s pos=>∃b:ByteArray,w.heap[aU]? =some (.stringIter b pos)/\b.data.toList=s|_,_=>False
structure az (g:G) (w:World) (H:ao):Prop where
 cV:∀b,g.cV b->b<H.length
 live:∀b x,g.γ b=some x->g.cV b/\∃y,aF H b=some y/\RB g w x y
 back:∀b y,aF H b=some y->∃x,g.γ b=some x
 inj:∀b b' x x' k,g.γ b=some x->g.γ b'=some x'->x.own=some k->x'.own=some k->b=b'
 fo:∀k,g.fo k->k<w.heap.size/\∀b x,g.γ b=some x->x.own≠some k
structure gW (GL:ch) (g:G) (w:World):Prop where
 rd:∀n cs,GL.rd n=some cs->cZ g w n/\dC w (cZ g w) n 0 cs
 w0:∀k,k<GL.w0.heap.size->cZ g w k/\w.heap[k]? =GL.w0.heap[k]?
structure R (GL:ch) (g:G) (w:World) (a:Act) (σ:St):Prop where
 defers:a.defers=[]
 size:a.tmps.size=σ.n
 tmps:∀t,RV g w (get σ.tm t) (a.tmps.getD t undef)
 heap:az g w σ.hp
 dJ:gW GL g w
theorem gW.ext(h:cg g w g' w')(hg:gW GL g w):gW GL g' w':=⟨fun n cs hn=>⟨(h.keeps _ (hg.rd n cs hn).1).1,dC.keeps h.keeps (hg.rd n cs hn).1 _ _ (hg.rd n cs hn).2⟩,fun k hk=>⟨(h.keeps _ (hg.w0 k hk).1).1,(h.keeps _ (hg.w0 k hk).1).2.trans (hg.w0 k hk).2⟩⟩
theorem cB{a b:Nat}(h:a≠b):Nat.beq a b=false:=by cases hh:Nat.beq a b;all_goals simp_all
theorem lA(l:List (Nat×V))(t s:Nat)(v:V):get (put l t v) s=if s=t then v else get l s:=by
 induction l with
  |nil=>
   simp only[put,get];by_cases h:s=t
   ·subst h;simp
   ·have:Nat.beq t s=false:=cB (by omega);grind
  |cons p l ih=>
   obtain⟨q,u⟩:=p;simp only[put];by_cases hq:q=t
   ·subst hq;simp only[aa4,aaJ,get];by_cases h:s=q
    ·subst h;simp
    ·have:Nat.beq q s=false:=cB (by omega);grind
   ·have hb:Nat.beq q t=false:=cB hq;simp only[hb,aaT];cases hle:Nat.ble t q with
     |true=>
      simp only[aaJ,get];by_cases h:s=t
      ·subst h;simp
      ·have:Nat.beq t s=false:=cB (by omega);grind
     |false=>simp only[aaT,get,ih];grind
theorem R.put{H':ao}(h:R GL g w a σ)(e:cg g w g' w')(hh:az g' w' H')(t:Nat)(v:V)(x:Value)(ht:t<σ.n)(hv:RV g' w' v x):R GL g' w' (a.put (some t) x) ⟨σ.n,Fw.put σ.tm t v,H'⟩:=by
 refine⟨h.defers,by simp[Act.put,h.size],fun s=>?_,hh,h.dJ.ext e⟩;simp only[lA,Act.put];by_cases hs:s=t
 ·subst hs;have hs:s<a.tmps.size:=by rw[h.size];exact ht
  simp_all
 ·simp only[hs,abM];rw[aaW,abS (by omega),←aaW];exact RV.ext e _ _ (h.tmps s)
theorem R.GR{H':ao}(h:R GL g w a σ)(e:cg g w g' w')(hh:az g' w' H')(x:Value):R GL g' w' (a.put none x) ⟨σ.n,σ.tm,H'⟩:=⟨h.defers,h.size,fun s=>RV.ext e _ _ (h.tmps s),hh,h.dJ.ext e⟩
theorem R.any(h:R GL g w a σ)(t:Nat)(x:Value)(ht:t<σ.n):R GL g w (a.put (some t) x) ⟨σ.n,Fw.put σ.tm t .any,σ.hp⟩:=h.put (cg.refl _ _) h.heap t .any x ht (by simp only[RV])
end Fw
/-
  Steps of world and boxes: a new box, a box written, a box that has grown.
-/
namespace Fw
open Go
variable {g:G}{w w':World}{H:ao}{b k:Nat}{y:fJ}{ko:Option Nat}
theorem RB.ext{g':G}(h:cg g w g' w'){x:GB}(ho:∀k,x.own=some k->w'.heap[k]? =w.heap[k]? )(hr:RB g w x y):RB g' w' x y:=by
 cases x with
  |cells aU cp cur=>
   cases y with
    |cells cs=>simp only[RB]at hr⊢;obtain⟨h1,h2,h3,c,e,h4,h5,h6⟩:=hr;exact⟨h1,h2,h3,c,e,by rw[ho aU rfl];exact h4,h5,aT.ext h _ _ h6⟩
    |_=>grind[RB]
  |nil=>grind[RB]
  |obj aU=>
   cases y with
    |map es=>simp only[RB]at hr⊢;obtain⟨bO,clock,h1,h2,h3,h4⟩:=hr;refine⟨bO,clock,by rw[ho aU rfl];exact h1,h2,fun i k v hi=>?_,h4⟩;obtain⟨z,JY,M1,V2,V3⟩:=h3 i k v hi;exact⟨z,JY,M1,Rd.keeps h.keeps _ _ V2,RV.ext h _ _ V3⟩
    |Dw s pos=>simp only[RB]at hr⊢;obtain⟨b,h1,h2⟩:=hr;exact⟨b,by rw[ho aU rfl];exact h1,h2⟩
    |iH m n seen=>
     simp only[RB]at hr⊢;obtain⟨mb,sa,h1,h2,h3,h4⟩:=hr;refine⟨mb,sa,by rw[ho aU rfl];exact h1,h2,h.cV m h3,fun x hx=>?_ ⟩;have hs:=h.step m h3;rw[hx]at hs;cases hb:g.γ m with
      |none=>rw[hb]at hs;exact hs.elim
      |some y=>have:=h4 y hb;subst this;rw[hb]at hs;exact hs
    |_=>grind[RB]
theorem RB.lt{x:GB}(h:RB g w x y):∀k,x.own=some k->k<w.heap.size:=by
 intro k hk;have key:∀o,w.heap[k]? =some o->k<w.heap.size:=fun o ho=>(abP.1 ho).1
 cases x with
  |cells aU cp cur=>simp only[GB.own,aaC]at hk;subst hk;cases y<;>grind[RB]
  |nil=>grind[GB.own]
  |obj aU=>simp only[GB.own,aaC]at hk;subst hk;cases y<;>grind[RB]
theorem lB(h:aF H b=some y):b<H.length:=by
 induction H generalizing b with
  |nil=>simp[aF]at h
  |cons z H ih=>cases b<;>grind[aF]
theorem dT(H:ao)(b:Nat)(y:fJ)(c:Nat):aF (bJ H b y) c=if c=b then some y else aF H c:=by
 induction H generalizing b c with
  |nil=>
   induction b generalizing c with
    |zero=>cases c<;>simp[bJ,aF]
    |succ b ih=>cases c<;>grind[bJ,aF]
  |cons z H ih=>
   cases b with
    |zero=>cases c<;>simp[bJ,aF]
    |succ b=>cases c<;>simp[bJ,aF,ih]
theorem jk(H:ao)(b:Nat)(y:fJ):aF (bJ H b y) b=some y:=by grind[dT]
theorem eL{b':Nat}(y:fJ)(h:b'≠b):aF (bJ H b y) b'=aF H b':=by grind[dT]
theorem Dz(h:H.length<=b):aF H b=none:=by
 cases hg:aF H b with
  |none=>rfl
  |some y=>have:=lB hg;omega
theorem cg.drawn(g:G)(w:World)(n:Nat):cg g w g {w with drawn:=n}:=⟨rfl,rfl,rfl,aaP _,fun _ h=>⟨h,rfl⟩,fun _ h=>h,fun _ _=>GB.step.refl _,rfl,fun _ _=>rfl⟩
theorem az.ext(hh:az g w H)(h:cg g w g w')(ho:∀b x k,g.γ b=some x->x.own=some k->w'.heap[k]? =w.heap[k]? ):az g w' H:=⟨hh.cV,fun b x hx=>by obtain⟨h1,y,h2,h3⟩:=hh.live b x hx;exact⟨h1,y,h2,RB.ext h (fun k hk=>ho b x k hx hk) h3⟩,hh.back,hh.inj,fun k hk=>⟨abr (hh.fo k hk).1 h.size,(hh.fo k hk).2⟩⟩
def G.add(g:G)(b:Nat)(x:GB):G:=⟨fun c=>g.cV c\/c=b,fun c=>if c=b then some x else g.γ c,g.fo⟩
def jl(g:G)(ns:Nat):Prop:=¬g.cV ns
theorem az.fresh(hh:az g w H):jl g H.length:=fun h=>by have:=hh.cV _ h;omega
theorem cE(w:World)(o:Obj)(h:k<w.heap.size):(w.alloc o).heap[k]? =w.heap[k]? :=by show(w.heap.push o)[k]? =_;grind
theorem bA(w:World)(o:Obj):(w.alloc o).heap[w.heap.size]? =some o:=by show(w.heap.push o)[w.heap.size]? =_;grind
theorem cg.new{ns:Nat}(hh:az g w H)(jT:jl g ns)(o:Obj)(x:GB)(hx:x.own=some w.heap.size):cg g w (g.add ns x) (w.alloc o):=by
 refine⟨rfl,rfl,rfl,by simp,?_,fun b h=>.inl h,?_,rfl,fun k hk=>cE _ _ (hh.fo k hk).1⟩
 ·intro k hk;refine⟨⟨by have:=hk.1;simp;omega,hk.2.1,fun b y hy=>?_ ⟩,cE _ _ hk.1⟩;simp only[G.add]at hy;split at hy
  ·simp only[aaC]at hy;subst hy;rw[hx];intro e;have:=hk.1;grind
  ·exact hk.2.2 b y hy
 ·intro b hb;have:b≠ns:=by rintro rfl;exact jT hb
  simp only[G.add,this,abM];exact GB.step.refl _
theorem jU(H:ao)(b:Nat)(y:fJ):H.length<=(bJ H b y).length/\b<(bJ H b y).length:=by
 induction H generalizing b with
  |nil=>induction b<;>grind[bJ,List.length_cons]
  |cons z H ih=>cases b<;>grind[bJ,List.length_cons]
theorem az.new{ns:Nat}(hh:az g w H)(jT:jl g ns)(o:Obj)(x:GB)(y:fJ)(hx:x.own=some w.heap.size)(hr:RB (g.add ns x) (w.alloc o) x y):az (g.add ns x) (w.alloc o) (bJ H ns y):=by
 have he:=cg.new hh jT o x hx;refine⟨?_,?_,?_,?_,?_⟩
 ·intro b hb;have hl:=jU H ns y;rcases hb with hb|rfl
  ·have:=hh.cV b hb;omega
  grind
 ·intro b z hz;simp only[G.add]at hz;split at hz
  ·rename_i hb;simp only[aaC]at hz;subst hz;subst hb;exact⟨.inr rfl,y,jk _ _ _,hr⟩
  ·rename_i hb;obtain⟨h1,y',h2,h3⟩:=hh.live b z hz;refine⟨.inl h1,y',by rw[eL y hb];exact h2,RB.ext he (fun k hk=>cE _ _ (h3.lt k hk)) h3⟩
 ·intro b z hz;by_cases hb:b=ns
  ·simp_all[G.add]
  ·rw[eL y hb]at hz;obtain⟨q,hq⟩:=hh.back b z hz;simp_all[G.add]
 ·intro b b' z z' k hz GS hk lC;simp only[G.add]at hz GS;split at hz
  ·rename_i hb;split at GS
   ·grind
   ·simp only[aaC]at hz;subst hz;rw[hx]at hk;simp only[aaC]at hk;subst hk;obtain⟨_,_,_,h3⟩:=hh.live b' z' GS;have:=h3.lt _ lC;omega
  ·split at GS
   ·simp only[aaC]at GS;subst GS;rw[hx]at lC;simp only[aaC]at lC;subst lC;obtain⟨_,_,_,h3⟩:=hh.live b z hz;have:=h3.lt _ hk;omega
   ·exact hh.inj b b' z z' k hz GS hk lC
 ·intro k hk;have hl:=(hh.fo k hk).1;refine⟨by simp;omega,fun c z hz=>?_ ⟩;simp only[G.add]at hz;split at hz
  ·grind
  ·exact(hh.fo k hk).2 c z hz
theorem cg.write{x:GB}(hx:g.γ b=some x)(hk:x.own=some k)(Z0:¬g.fo k)(V4:w'.os=w.os)(ht:w'.tape=w.tape)(E5:w'.output=w.output)(cK:w'.heap.size=w.heap.size)(hw:∀j,j≠k->w'.heap[j]? =w.heap[j]? ):cg g w g w':=by
 refine⟨V4,ht,E5,by omega,fun j hj=>⟨⟨by have:=hj.1;omega,hj.2⟩,hw j ?_⟩,fun _ h=>h,fun _ _=>GB.step.refl _,rfl,fun j hj=>hw j ?_ ⟩
 ·rintro rfl;exact hj.2.2 b x hx hk
 grind
theorem az.write(hh:az g w H){x:GB}(y:fJ)(hx:g.γ b=some x)(hk:x.own=some k)(he:cg g w g w')(hw:∀j,j≠k->w'.heap[j]? =w.heap[j]? )(hr:RB g w' x y):az g w' (bJ H b y):=by
 refine⟨fun c hc=>abr (hh.cV c hc) (jU H b y).1,?_,?_,hh.inj,fun j hj=>⟨abr (hh.fo j hj).1 he.size,(hh.fo j hj).2⟩⟩
 ·intro c z hz;obtain⟨h1,y',h2,h3⟩:=hh.live c z hz;by_cases hc:c=b
  ·subst hc;rw[hx]at hz;simp only[aaC]at hz;subst hz;exact⟨h1,y,jk _ _ _,hr⟩
  ·refine⟨h1,y',by rw[eL y hc];exact h2,RB.ext he (fun j hj=>hw j ?_ ) h3⟩;rintro rfl;exact hc (hh.inj c b z x j hz hx hj hk)
 ·intro c z hz;by_cases hc:c=b
  ·grind
  ·rw[eL y hc]at hz;exact hh.back c z hz
def G.set(g:G)(b:Nat)(x:GB):G:=⟨g.cV,fun c=>if c=b then some x else g.γ c,g.fo⟩
theorem cg.grow{x x':GB}(JK:∀k,g.fo k->k<w.heap.size/\some k≠ko)(hx:g.γ b=some x)(P5:x.own=ko)(Ck:GB.step (some x) (some x'))(hn:x'.own=ko\/∃k,x'.own=some k/\w.heap.size<=k)(V4:w'.os=w.os)(ht:w'.tape=w.tape)(E5:w'.output=w.output)(cK:w.heap.size<=w'.heap.size)(hw:∀j,j<w.heap.size->some j≠ko->w'.heap[j]? =w.heap[j]? ):cg g w (g.set b x') w':=by
 refine⟨V4,ht,E5,cK,fun j hj=>?_,fun _ h=>h,?_,rfl,fun j hj=>hw j (JK j hj).1 (JK j hj).2⟩
 ·have fq:some j≠ko:=by rw[←P5];intro e;exact hj.2.2 b x hx e.symm
  refine⟨⟨by have:=hj.1;omega,hj.2.1,fun c z hz=>?_ ⟩,hw j hj.1 fq⟩;simp only[G.set]at hz;split at hz
  ·simp only[aaC]at hz;subst hz;rcases hn with h|⟨k,h,hl⟩
   ·grind
   ·rw[h];intro e;simp only[aaC]at e;have:=hj.1;omega
  ·exact hj.2.2 c z hz
 ·intro c hc;simp only[G.set];split
  ·grind
  ·exact GB.step.refl _
theorem az.grow(hh:az g w H){x x':GB}(y:fJ)(hx:g.γ b=some x)(P5:x.own=ko)(hn:x'.own=ko\/∃k,x'.own=some k/\w.heap.size<=k)(he:cg g w (g.set b x') w')(hw:∀j,j<w.heap.size->some j≠ko->w'.heap[j]? =w.heap[j]? )(hr:RB (g.set b x') w' x' y):az (g.set b x') w' (bJ H b y):=by
 have V5:∀c z k,c≠b->g.γ c=some z->z.own=some k->k<w.heap.size/\some k≠ko:=by intro c z k hc hz hk;obtain⟨_,_,_,h3⟩:=hh.live c z hz;refine⟨h3.lt k hk,fun e=>hc (hh.inj c b z x k hz hx hk (by grind))⟩
 refine⟨fun c hc=>abr (hh.cV c hc) (jU H b y).1,?_,?_,?_,?_ ⟩
 ·intro c z hz;simp only[G.set]at hz;split at hz
  ·rename_i hc;subst hc;simp only[aaC]at hz;subst hz;obtain⟨h1,y',h2,h3⟩:=hh.live c x hx;exact⟨h1,y,jk _ _ _,hr⟩
  ·rename_i hc;obtain⟨h1,y',h2,h3⟩:=hh.live c z hz;exact⟨h1,y',by rw[eL y hc];exact h2,RB.ext he (fun j hj=>by grind) h3⟩
 ·intro c z hz;by_cases hc:c=b
  ·simp_all[G.set]
  ·rw[eL y hc]at hz;obtain⟨q,hq⟩:=hh.back c z hz;simp_all[G.set]
 ·intro c c' z z' k hz GS hk lC;simp only[G.set]at hz GS;split at hz<;>split at GS
  ·grind
  ·grind
  ·grind
  ·exact hh.inj c c' z z' k hz GS hk lC
 ·intro k hk;refine⟨abr (hh.fo k hk).1 he.size,fun c z hz=>?_ ⟩;simp only[G.set]at hz;split at hz
  ·simp only[aaC]at hz;subst hz;rcases hn with h|⟨j,h,hl⟩
   ·rw[h,←P5];exact(hh.fo k hk).2 b x hx
   ·rw[h];intro e;simp only[aaC]at e;have:=(hh.fo k hk).1;omega
  ·exact(hh.fo k hk).2 c z hz
theorem az.M2(hh:az g w H){x:GB}(hx:g.γ b=some x)(P5:x.own=ko):∀k,g.fo k->k<w.heap.size/\some k≠ko:=by intro k hk;refine⟨(hh.fo k hk).1,?_⟩;rw[←P5];exact fun e=>(hh.fo k hk).2 b x hx e.symm
theorem az.zJ(hh:az g w H){x:GB}(hx:g.γ b=some x)(hk:x.own=some k):¬g.fo k:=fun h=>(hh.fo k h).2 b x hx hk
end Fw
/-
  From the model's code to the operations of the abstract machine.
-/
namespace Fw
open Go
def zK:Value->Option V| .bool b=>some (.d (.bool b))| .int k n=>some (.d (.int k n))| .string s=>some (.d (.str s.data.toList))| .slice none 0 0=>some .ad| .pointer none=>some .mW| .map none=>some .mX| .nilFunc=>some .rL| .nilIface=>some .gm|_=>none
def U1:Value->Option V| .agg cs=>(bW zK cs.toList).map .agg|v=>zK v
def ar:Operand->Option a_| .tmp t=>some (.t t)| .const v=>(U1 v).map .c| .global g=>some (.g g)| .func f=>some (.f f)
def gB(P:Program)(t:TypeId):Option Nat:=(P.info? t).map (·.size)
def qn(P:Program)(t:TypeId):Option Bool:=(P.underlying t).map fun| .struct _| .array _ _=>true|_=>false
def dj(P:Program)(t:TypeId):Option (List V):=((P.info? t).bind (·.zero)).bind fun z=>bW zK z.cells.toList
def GU(P:Program)(t:TypeId):Option V:=((P.info? t).bind (·.zero)).bind U1
def cW:Option Operand->Option (Option a_)|none=>some none|some x=>(ar x).map some
def dD(place:Nat->Option (Nat×Nat)):List (Nat×Operand)->Option (List (Nat×Nat×a_))
 |[]=>some []
 |(i,x)::ps=>
  match place i with
   |none=>none
   |some (off,size)=>
    match ar x with
     |none=>none
     |some y=>
      match dD place ps with
       |none=>none
       |some qs=>some ((off,size,y)::qs)
def lD(P:Program)(fs:Array Field)(i:Nat):Option (Nat×Nat):=(fs[i]? ).bind fun f=>(gB P f.type).map fun s=>(f.offset,s)
def M3:TypeDesc->Bool| .slice _=>true| .string=>true|_=>false
def yd(P:Program)(t:TypeId):Option dq:=match P.underlying t with
 |some (.int _)=>some .int
 |some .string=>some .str
 |some .bool=>some .bool
 |_=>none
def gX(P:Program):Nat->List Field->Option (List dq)
 |_,[]=>some []
 |n,f::fs=>
  if f.offset=n/\f.name≠ "_" then
   match yd P f.type,gX P (n+1) fs with
    |some k,some ks=>some (k::ks)
    |_,_=>none else none
def jV(P:Program)(t:TypeId):Option (List dq):=match P.underlying t with
 |some (.struct fs)=>if P.stoodInHeld t=false/\P.eqGuardType P.depth t=false then gX P 0 fs.toList else none
 |_=>none
def dQ(P:Program)(c:Call):Option lv:=match c.callee with
 | .builtin .len=>
  match c.args.toList,c.argTypes.toList with
   |[x],[t]=>
    match P.underlying t with
     |some .string=>(ar x).map (.len .str)
     |some (.slice _)=>(ar x).map (.len .slice)
     |some (.map _ _)=>(ar x).map (.len .map)
     |some (.array n _)=>(ar x).map (.len (.arr n))
     |_=>none
   |_,_=>none
 | .builtin .append=>
  match c.args.toList,c.argTypes.toList with
   |[x,y],[t,u]=>
    match P.underlying t,P.underlying u with
     |some (.slice e),some (.int _)=>
      match P.info? e,dj P e,ar x,ar y with
       |some i,some z,some x',some y'=>some (.ly i.size i.bytes z x' y')
       |_,_,_,_=>none
     |some (.slice e),some d=>
      match M3 d,P.info? e,dj P e,ar x,ar y with
       |true,some i,some z,some x',some y'=>if 0<i.size/\z.length=i.size then some (.append i.size i.bytes x' y')else none
       |_,_,_,_,_=>none
     |_,_=>none
   |_,_=>none
 | .builtin .cap=>
  match c.args.toList,c.argTypes.toList with
   |[x],[t]=>
    match P.underlying t with
     |some (.slice _)=>(ar x).map .cap
     |_=>none
   |_,_=>none
 | .builtin .min=>(bW ar c.args.toList).map (.lz false)
 | .builtin .max=>(bW ar c.args.toList).map (.lz true)
 | .value (.func f)=>
  match(P.funcs[f]? ).map (fun fn=>(fn.body.isSome,fn.name== "runtime.NumGoroutine"))with
   |some (true,false)=>(bW ar c.args.toList).map (.call f)
   |_=>none
 | .value (.tmp t)=>(bW ar c.args.toList).map (.gV (.t t))
 |_=>none
def bq(P:Program)(op:Op):Option lv:=match op with
 | .move x=>(ar x).map .mv
 | .assign x=>(ar x).map .mv
 | .pick c a b=>
  match ar c,ar a,ar b with
   |some c',some a',some b'=>some (.pick c' a' b')
   |_,_,_=>none
 | .alloc t=>(dj P t).map .alloc
 | .box t x=>
  match gB P t,ar x with
   |some n,some x'=>some (.box n x')
   |_,_=>none
 | .build t ps=>
  match P.underlying t,dj P t with
   |some (.struct fs),some z=>
    match fs.toList.mapM (fun f=>(P.info? f.type).map fun i=>(f.offset,i.size))with
     |some GV=>(dD (fun i=>GV.toArray[i]? ) ps.toList).map (.build z)
     |none=>none
   |some (.array _ e),some z=>
    match P.info? e with
     |some ie=>(dD (fun i=>some (i*ie.size,ie.size)) ps.toList).map (.build z)
     |none=>none
   |_,_=>none
 | .buildSlice t len ps=>
  match P.underlying t with
   |some (.slice e)=>
    match gB P e,dj P e with
     |some s,some z=>if len*s<=2^24/\z.length=s/\0<s then(dD (fun i=>some (i*s,s)) ps.toList).map (.mkSlice s len ((List.range (len*s)).map fun i=>z.getD (i%s) .any))else none
     |_,_=>none
   |_=>none
 | .load t a=>
  match gB P t,qn P t,ar a with
   |some n,some g,some a'=>if g=true\/n=1 then some (.load n g a')else none
   |_,_,_=>none
 | .store t a x=>
  match gB P t,ar a,ar x with
   |some n,some a',some x'=>some (.store n a' x')
   |_,_,_=>none
 | .nilCheck x=>(ar x).map .eZ
 | .binOp op t x y _=>
  match ar x,ar y with
   |some x',some y'=>
    match op with
     | .eql=>
      match P.underlying t with
       |some (.int _)=>some (.bin op x' y')
       |some .string=>some (.bin op x' y')
       |some .bool=>some (.eq false .bool x' y')
       |some (.slice _)=>some (.eq false .slice x' y')
       |some (.struct _)=>(jV P t).map fun ks=>.Dx false ks x' y'
       |some (.interface _)=>
        match x,y with
         | .const _,_=>some (.eq false .iface x' y')
         |_,.const _=>some (.eq false .iface x' y')
         |_,_=>none
       |_=>none
     | .neq=>
      match P.underlying t with
       |some (.int _)=>some (.bin op x' y')
       |some .string=>some (.bin op x' y')
       |some .bool=>some (.eq true .bool x' y')
       |some (.slice _)=>some (.eq true .slice x' y')
       |some (.struct _)=>(jV P t).map fun ks=>.Dx true ks x' y'
       |some (.interface _)=>
        match x,y with
         | .const _,_=>some (.eq true .iface x' y')
         |_,.const _=>some (.eq true .iface x' y')
         |_,_=>none
       |_=>none
     |_=>some (.bin op x' y')
   |_,_=>none
 | .unOp op _ x=>(ar x).map (.un op)
 | .convert s d x=>
  match P.underlying s,P.underlying d,ar x with
   |some (.int _),some (.int k),some x'=>some (.conv k x')
   |some .string,some (.slice e),some x'=>
    match P.underlying e with
     |some (.int .u8)=>some (.lx x')
     |_=>none
   |_,_,_=>none
 | .makeFunc (.func f) a b=>
  match bW ar a.toList,bW ar b.toList with
   |some a',some b'=>some (.rN f a' b')
   |_,_=>none
 | .makeMap _ none=>some .GP
 | .makeSlice t l c=>
  match P.underlying t,ar l,ar c with
   |some (.slice e),some l',some c'=>
    match P.info? e,dj P e with
     |some i,some z=>some (.oY i.size i.bytes z l' c')
     |_,_=>none
   |_,_,_=>none
 | .slice t x lo hi none=>
  match ar x,cW lo,cW hi with
   |some x',some DA,some lE=>
    match P.underlying t with
     |some .string=>some (.ku x' DA lE)
     |some (.slice e)=>(gB P e).map fun s=>.fY s x' DA lE
     |_=>none
   |_,_,_=>none
 | .slice t x none (some hi) (some mx)=>
  match ar x,ar hi,ar mx with
   |some x',some lE,some P6=>
    match P.underlying t with
     |some (.slice e)=>(gB P e).map fun s=>.clip s x' lE P6
     |_=>none
   |_,_,_=>none
 | .fieldAddr s x f=>
  match P.underlying s,ar x with
   |some (.struct fs),some x'=>
    match lD P fs f with
     |some (off,n)=>if 0<n then some (.dI off n x')else none
     |none=>none
   |_,_=>none
 | .indexAddr t x i=>
  match ar x,ar i with
   |some x',some i'=>
    match P.underlying t with
     |some (.slice e)=>(gB P e).map fun s=>.cF s x' i'
     |some (.array n e)=>(gB P e).map fun s=>.pB n s x' i'
     |_=>none
   |_,_=>none
 | .index t x i=>
  match ar x,ar i with
   |some x',some i'=>
    match P.underlying t with
     |some .string=>some (.gz x' i')
     |some (.array n e)=>
      match gB P e,qn P e with
       |some s,some g=>if g=true\/s=1 then some (.JX n s g x' i')else none
       |_,_=>none
     |_=>none
   |_,_=>none
 | .extract x i=>(ar x).map fun x'=>.ext x' i
 | .makeInterface t x=>
  match P.underlying t,ar x with
   |some (.interface _),_=>none
   |some _,some x'=>some (.nQ t x')
   |_,_=>none
 | .lookup t m k ok=>
  match P.underlying t,ar m,ar k with
   |some (.map kt e),some m',some k'=>
    match GU P e,P.underlying kt with
     |some z,some (.int _)=>some (.lookup .int z ok m' k')
     |some z,some .string=>some (.lookup .str z ok m' k')
     |some z,some .bool=>some (.lookup .bool z ok m' k')
     |_,_=>none
   |_,_,_=>none
 | .mapUpdate t m k x=>
  match P.underlying t,ar m,ar k,ar x with
   |some (.map kt _),some m',some k',some x'=>
    match P.underlying kt with
     |some (.int _)=>some (.mY .int m' k' x')
     |some .string=>some (.mY .str m' k' x')
     |some .bool=>some (.mY .bool m' k' x')
     |_=>none
   |_,_,_,_=>none
 | .range t x=>
  match P.underlying t with
   |some (.map _ _)=>(ar x).map (.range true)
   |_=>none
 | .next it s=>if s then none else(ar it).map .mZ
 | .entry it=>(ar it).map .entry
 | .call c=>dQ P c
 |_=>none
def eM(o:Oper):List Nat:=(o.after.toList.filter (Region.binds .any)).map (·.on)
def gC(ops:List Oper)(o:Oper):Option (Option (Nat×Bool)):=match o.guard with
 |none=>some none
 |some (j,qo)=>
  match(ops[j]? ).bind (·.dst)with
   |some d=>some (some (d,qo))
   |none=>none
def fg(P:Program)(ops:List Oper)(draw:Bool)(o:Oper):Option aj:=match gC ops o with
 |some g=>some {dst:=o.dst,op:=(bq P o.op).getD .bad,guard:=g,after:=if draw then eM o else[]}
 |none=>none
theorem gP{P:Program}{op:Op}{io:lv}(h:(bq P op).getD .bad=io)(fq:io≠ .bad):bq P op=some io:=by cases hc:bq P op<;>grind
def lF(P:Program)(ops:List Oper)(draw:Bool)(l:List Oper):Option (List aj):=bW (fg P ops draw) l
def aR(P:Program):Code->Option IR
 | .skip=>some .skip
 | .region _ ops draw=>
  match lF P ops.toList draw ops.toList with
   |some l=>some (if draw then .draw l else .region l)
   |none=>none
 | .seq a b=>
  match aR P a,aR P b with
   |some a',some b'=>some (.seq a' b')
   |_,_=>none
 | .cond c a b=>
  match ar c,aR P a,aR P b with
   |some c',some a',some b'=>some (.cond c' a' b')
   |_,_,_=>none
 | .block id b=>(aR P b).map (.block id)
 | .loop b=>(aR P b).map .loop
 | .exit id=>some (.exit id)
 | .ret=>some .ret
 |_=>none
def nR(P:Program):ResultVar->Option iv
 | .tmp t=>some (.t t)
 | .cell a t=>
  match gB P t,qn P t with
   |some n,some g=>if g=true\/n=1 then some (.cell a n g)else none
   |_,_=>none
def aC(P:Program)(f:FuncId):Option ca:=match P.funcs[f]? with
 |none=>none
 |some fn=>
  match fn.body with
   |none=>none
   |some c=>
    match aR P c,bW (nR P) fn.results.toList with
     |some b,some r=>some {nparams:=fn.params.size+fn.nfree,ntmps:=fn.ntmps,res:=r,body:=b}
     |_,_=>none
end Fw
/-
  Each operation that calls nothing, carried out in the model: what the abstract machine says of it.
-/
namespace Fw
open Go
variable {g:G}{w:World}{v:Value}{u:V}
def L8(g g':G)(ns:Nat):Prop:=∀b,g'.cV b->g.cV b\/b=ns
def Good(P:Program)(a:Act)(o:Oper)(g:G)(w:World)(ns:Nat)(v:V)(H':ao):Prop:=∃g' w' nx,(execOp a.eval o).run P w=.ok nx w'/\((∃x,nx=.value x/\RV g' w' v x)\/(nx=.skip/\v=.any))/\az g' w' H'/\cg g w g' w'/\L8 g g' ns
def Ev(ρ:a_->V)(a:Act)(g:G)(w:World):Prop:=∀x y,ar x=some y->RV g w (ρ y) (a.eval x)
theorem cA{α β:Type}{f:α->Option β}:∀{l:List α}{l':List β},bW f l=some l'->l.length=l'.length
 |[],l',h=>by grind[bW]
 |x::xs,l',h=>by
  simp only[bW]at h;split at h
  ·cases h
  ·split at h
   ·cases h
   ·rename_i ys GF;simp only[aaC]at h;subst h;simp[cA GF]
theorem jm{α β:Type}{f:α->Option β}:∀{l:List α}{l':List β}(i:Nat)(x:α),bW f l=some l'->l[i]? =some x->∃y,l'[i]? =some y/\f x=some y
 |[],l',i,x,h,hx=>by simp at hx
 |z::xs,l',i,x,h,hx=>by
  simp only[bW]at h;split at h
  ·cases h
  ·rename_i y hy;split at h
   ·cases h
   ·rename_i ys GF;simp only[aaC]at h;subst h;cases i with
     |zero=>grind
     |succ i=>simp at hx⊢;exact jm i x GF hx
theorem GW(h:zK v=some u):RV g w u v:=by unfold zK at h;grind[Option.some.injEq,reduceCtorEq,RV,Rd]
theorem M4(h:zK v=some u):eK u=true:=by unfold zK at h;split at h<;>simp only[aaC,reduceCtorEq]at h<;>subst h<;>rfl
theorem jn{g:G}{w:World}:∀{l:List Value}{us:List V},bW zK l=some us->aT g w us l/\us.all eK=true
 |[],us,h=>by grind[bW,aT]
 |x::xs,us,h=>by
  simp only[bW]at h;split at h
  ·cases h
  ·rename_i y hy;split at h
   ·cases h
   ·rename_i ys GF;simp only[aaC]at h;subst h;have ih:=jn (g:=g) (w:=w) GF;refine⟨by simp only[aT];exact⟨GW hy,ih.1⟩,by simp[M4 hy];grind⟩
theorem GX(h:U1 v=some u):RV g w u v:=by
 unfold U1 at h;split at h
 ·rename_i cs;cases hm:bW zK cs.toList with
   |none=>grind
   |some us=>simp[hm]at h;subst h;simp only[RV];exact⟨cs,rfl,(jn hm).1⟩
 ·exact GW h
theorem R.ev{GL:ch}{a:Act}{σ:St}(h:R GL g w a σ):Ev (aZ GL σ.tm) a g w:=by
 intro x y Po;cases x with
  |tmp t=>simp[ar]at Po;subst Po;exact h.tmps t
  |const v=>simp only[ar,aaG]at Po;obtain⟨u,hu,rfl⟩:=Po;exact GX hu
  |global n=>
   simp[ar]at Po;subst Po;simp only[aZ,Act.eval];cases hn:GL.rd n with
    |none=>simp only[RV]
    |some cs=>simp only[RV];exact⟨n,0,rfl,fun _=>(h.dJ.rd n cs hn).1,(h.dJ.rd n cs hn).2⟩
  |func f=>grind[ar,aZ,Act.eval,RV,aT]
theorem Good.val{P:Program}{a:Act}{o:Oper}{ns:Nat}{v:V}{H:ao}{x:Value}(hh:az g w H)(hr:(execOp a.eval o).run P w=.ok (.value x) w)(hv:RV g w v x):Good P a o g w ns v H:=⟨g,w,_,hr,.inl ⟨x,rfl,hv⟩,hh,cg.refl _ _,fun _ h=>.inl h⟩
section
variable {P:Program}{a:Act}{o:Oper}{g:G}{w:World}{ρ:a_->V}{H:ao}{ns:Nat}
variable {t:TypeId}{cs:List V}{n:Nat}{v:Value}{b:Bool}{y:a_}{u:V}{ps:Array (Nat×Operand)}{qs:List (Nat×Nat×a_)}
theorem RV.bool(h:RV g w (.d (.bool b)) v):v=.bool b:=by grind[RV,Rd]
theorem RV.int{k:IntKind}{n:Int}(h:RV g w (.d (.int k n)) v):v=.int k n:=by grind[RV,Rd]
theorem RV.E6(b:Bool):RV g w (.d (.bool b)) (.bool b):=by grind[RV,Rd]
theorem RV.Cl(k:IntKind)(n:Int):RV g w (.d (.int k n)) (.int k n):=by grind[RV,Rd]
theorem RV.str{l:List UInt8}(h:RV g w (.d (.str l)) v):∃s:ByteArray,v=.string s/\s.data.toList=l:=by grind[RV,Rd]
theorem RV.Z1(s:ByteArray):RV g w (.d (.str s.data.toList)) (.string s):=by grind[RV,Rd]
theorem P7{x:Operand}(ho:o.op=.move x\/o.op=.assign x)(hx:ar x=some y)(ev:Ev ρ a g w)(hh:az g w H):Good P a o g w ns (ρ y) H:=by refine Good.val (x:=a.eval x) hh ?_ (ev _ _ hx);rcases ho with ho|ho<;>simp[execOp,ho]
theorem M5{c x y:Operand}{c' x' y':a_}(ho:o.op=.pick c x y)(hc:ar c=some c')(hx:ar x=some x')(hy:ar y=some y')(hb:ρ c'=.d (.bool b))(ev:Ev ρ a g w)(hh:az g w H):Good P a o g w ns (bif b then ρ x' else ρ y') H:=by
 have h1:=ev _ _ hc;rw[hb]at h1;have h2:=RV.bool h1;cases b with
  |true=>exact Good.val (x:=a.eval x) hh (by simp_all[execOp,asBool]) (ev _ _ hx)
  |false=>exact Good.val (x:=a.eval y) hh (by simp_all[execOp,asBool]) (ev _ _ hy)
theorem uG{c:Array Value}(e:TypeId)(iL:cs.all eK=true)(hv:aT g w cs c.toList)(hh:az g w H)(jT:jl g ns)(n:Nat)(hn:n=cs.length):let g':=g.add ns (.cells w.heap.size n n);let w':=w.alloc (.cells c e);az g' w' (bJ H ns (.cells cs))/\cg g w g' w'/\g'.cV ns/\g'.γ ns=some (.cells w.heap.size n n):=by subst hn;have he:=cg.new hh jT (.cells c e) (.cells w.heap.size cs.length cs.length) rfl;refine⟨az.new hh jT _ _ _ rfl ?_,he,.inr rfl,by simp[G.add]⟩;have hl:=hv.length;simp only[RB];refine⟨trivial,iL,aaP _,c,e,bA _ _,by grind,?_ ⟩;rw[abq (by grind)];exact aT.ext he _ _ hv
theorem RV.GY{g':G}{w':World}{b aU:Nat}(h1:g'.cV b)(h2:g'.γ b=some (.cells aU n n)):RV g' w' (.ptr b n 0) (.pointer (some ⟨aU,0,none⟩)):=by grind[RV,Option.some.injEq]
theorem run_typeInfo{i:TypeInfo}(h:P.info? t=some i)(w:World):(typeInfo t).run P w=.ok i w:=by simp[typeInfo,h]
theorem qp{i:TypeInfo}{z:Value}(h:P.info? t=some i)(hz:i.zero=some z)(w:World):(zeroValue t).run P w=.ok z w:=by simp[zeroValue,run_typeInfo h,hz]
theorem cC(h:gB P t=some n)(w:World):(Go.sizeOf t).run P w=.ok n w:=by simp only[gB,aaG]at h;obtain⟨i,hi,rfl⟩:=h;simp[Go.sizeOf,run_typeInfo hi]
theorem ud(h:qn P t=some b)(w:World):(isAgg t).run P w=.ok b w:=by simp only[qn,aaG]at h;obtain⟨d,hd,rfl⟩:=h;cases d<;>simp[isAgg,run_underlying hd]
theorem JZ{z:List V}(ho:o.op=.alloc t)(hz:dj P t=some z)(hh:az g w H)(jT:jl g ns):Good P a o g w ns (.ptr ns z.length 0) (bJ H ns (.cells z)):=by simp only[dj,abv]at hz;obtain⟨zv,⟨i,hi,zL⟩,hm⟩:=hz;obtain⟨hv,iL⟩:=jn (g:=g) (w:=w) hm;obtain⟨h1,h2,h3,h4⟩:=uG t iL hv hh jT _ rfl;refine⟨_,_,.value (.pointer (some ⟨w.heap.size,0,none⟩)),?_,.inl ⟨_,rfl,RV.GY h3 h4⟩,h1,h2,fun _ h=>h⟩;simp[execOp,ho,Instr.alloc,qp hi zL,newVar,newRow]
theorem rO(hu:(cl u).all eK=true)(h:RV g w u v):aT g w (cl u) v.cells.toList:=by
 cases u with
  |agg cs=>grind[RV,cl,Value.cells]
  |any=>grind[cl,eK]
  |tuple=>grind[cl,eK]
  |_=>
   simp only[cl]at hu⊢;have h1:=RV.one (by grind) h;have h2:v.cells= #[v]:=by cases v<;>first|rfl|grind[Value.oneCell']
   simp_all[aT,acm]
theorem P8{x:Operand}(ho:o.op=.box t x)(hx:ar x=some y)(iL:(cl (ρ y)).all eK=true)(ev:Ev ρ a g w)(hh:az g w H)(jT:jl g ns):Good P a o g w ns (.ptr ns (cl (ρ y)).length 0) (bJ H ns (.cells (cl (ρ y)))):=by obtain⟨h1,h2,h3,h4⟩:=uG t iL (rO iL (ev _ _ hx)) hh jT _ rfl;refine⟨_,_,.value (.pointer (some ⟨w.heap.size,0,none⟩)),?_,.inl ⟨_,rfl,RV.GY h3 h4⟩,h1,h2,fun _ h=>h⟩;simp[execOp,ho,Instr.box,newVar,newRow]
theorem ye:∀{cs:List V}{vs:List Value}(off:Nat){us:List V}{xs:List Value},aT g w cs vs->aT g w us xs->∀(c:Array Value),c.toList=vs->aT g w (putCells cs off us) ((xs.zipIdx).foldl (fun(ds:Array Value)(p:Value×Nat)=>ds.setIfInBounds (off+p.2) p.1) c).toList:=by
 suffices h:∀(us:List V)(xs:List Value)(k off:Nat)(cs:List V)(c:Array Value),aT g w cs c.toList->aT g w us xs->aT g w (putCells cs (off+k) us) ((xs.zipIdx k).foldl (fun(ds:Array Value)(p:Value×Nat)=>ds.setIfInBounds (off+p.2) p.1) c).toList by intro cs vs off us xs h1 h2 c hc;subst hc;exact h us xs 0 off cs c h1 h2
 intro us;induction us with
  |nil=>
   intro xs k off cs c h1 h2;cases xs with
    |nil=>simp_all[putCells]
    |cons=>grind[aT]
  |cons u us ih=>
   intro xs k off cs c h1 h2;cases xs with
    |nil=>grind[aT]
    |cons x xs=>simp only[aT]at h2;simp only[putCells,List.zipIdx_cons,abw];have:=ih xs (k+1) off (cs.set (off+k) u) (c.setIfInBounds (off+k) x) (by simpa using aT.set _ h1 h2.1) h2.2;grind
theorem fu(l:List V)(i:Nat)(vs:List V):(putCells l i vs).length=l.length:=by induction vs generalizing l i<;>grind[putCells]
theorem tg{l:List V}{i:Nat}{vs:List V}(h:l.all eK=true)(hv:vs.all eK=true):(putCells l i vs).all eK=true:=by
 induction vs generalizing l i with
  |nil=>exact h
  |cons v vs ih=>simp only[aaX,aaD]at hv;refine ih ?_ hv.2;grind
theorem yf{place:Nat->Option (Nat×Nat)}(ev:Ev ρ a g w):∀{ps:List (Nat×Operand)}{qs:List (Nat×Nat×a_)}{cs uH:List V}{c:Array Value},dD place ps=some qs->iK ρ cs qs=some uH->cs.all eK=true->aT g w cs c.toList->∃c',Instr.fill place c (ps.map fun p=>(p.1,a.eval p.2))=some c'/\aT g w uH c'.toList/\uH.all eK=true
 |[],qs,cs,uH,c,h1,h2,h3,h4=>by simp only[dD,aaC]at h1;subst h1;simp only[iK,aaC]at h2;subst h2;exact⟨c,rfl,h4,h3⟩
 |(i,x)::ps,qs,cs,uH,c,h1,h2,h3,h4=>by
  simp only[dD]at h1;split at h1
  ·cases h1
  ·rename_i off size hp;split at h1
   ·cases h1
   ·rename_i y hy;split at h1
    ·cases h1
    ·rename_i qs' J0;simp only[aaC]at h1;subst h1;simp only[iK]at h2;cases hc:(Nat.beq (cl (ρ y)).length size&&Nat.ble (off+size) cs.length&&(cl (ρ y)).all eK)with
      |false=>grind
      |true=>
       rw[hc]at h2;simp only[aaJ]at h2;simp only[aaD]at hc;have hv:=rO hc.2 (ev _ _ hy);have hl:=hv.length;have hl4:=h4.length;have e1:(cl (ρ y)).length=size:=aaM hc.1.1;have e2:off+size<=cs.length:=aaN hc.1.2;have key:=ye off h4 hv c rfl;obtain⟨c',q1,q2,q3⟩:=yf ev J0 h2 (tg h3 hc.2) key;refine⟨c',?_,q2,q3⟩;simp only[aaV,Instr.fill,hp];have e3:(a.eval x).cells.size=size:=by grind
       have e4:¬((decide ((a.eval x).cells.size≠size)||decide (off+(a.eval x).cells.size>c.size))=true):=by grind
       grind[Array.toList_zipIdx]
theorem DB{z:List V}{place:Nat->Option (Nat×Nat)}(ho:o.op=.build t ps)(hz:dj P t=some z)(hb:∀(i:TypeInfo)(zv:Value)(parts:List (Nat×Value)),P.info? t=some i->i.zero=some zv->P.built t parts=Instr.fill place zv.cells parts)(hq:dD place ps.toList=some qs)(hf:iK ρ z qs=some cs)(ev:Ev ρ a g w)(hh:az g w H):Good P a o g w ns (.agg cs) H:=by simp only[dj,abv]at hz;obtain⟨zv,⟨i,hi,zL⟩,hm⟩:=hz;obtain⟨hv,iL⟩:=jn (g:=g) (w:=w) hm;obtain⟨c',h1,h2,h3⟩:=yf ev hq hf iL hv;have Z2:=hb i zv (ps.map fun p=>(p.1,a.eval p.2)).toList hi zL;rw[Array.toList_map,h1]at Z2;refine Good.val (x:=.agg c') hh ?_ (by grind[RV]);have hr:=run_build (P:=P) w t (ps.map fun p=>(p.1,a.eval p.2)) c' (by simp_all);simp[execOp,ho,hr]
theorem uI(z:Array Value)(hz:0<z.size)(n:Nat):∀i,((Array.range n).map (z[·%z.size]! )).toList[i]? =if i<n then z[i%z.size]? else none:=by intro i;have hm:=abN i hz;grind
theorem aT.iy:∀{us:List V}{vs:List Value},us.length=vs.length->(∀(i:Nat)(u:V)(v:Value),us[i]? =some u->vs[i]? =some v->RV g w u v)->aT g w us vs
 |[],[],_,_=>by simp only[aT]
 |u::us,v::vs,hl,h=>by simp only[aT];exact⟨h 0 u v rfl rfl,aT.iy (by grind) (fun i x y hx hy=>h (i+1) x y (by grind) (by grind))⟩
 |[],_::_,hl,_=>by simp at hl
 |_::_,[],hl,_=>by simp at hl
theorem th{e:TypeId}{len s:Nat}{z:List V}(ho:o.op=.buildSlice t len ps)(hu:P.underlying t=some (.slice e))(hs:gB P e=some s)(hz:dj P e=some z)(h1:len*s<=2^24)(h2:z.length=s)(h3:0<s)(hq:dD (fun i=>some (i*s,s)) ps.toList=some qs)(hf:iK ρ ((List.range (len*s)).map fun i=>z.getD (i%s) .any) qs=some cs)(ev:Ev ρ a g w):∃c':Array Value,aT g w cs c'.toList/\cs.all eK=true/\cs.length=len*s/\(execOp a.eval o).run P w=.ok (.value (.slice (some ⟨w.heap.size,0,none⟩) len len)) (w.alloc (.cells c' e)):=by
 simp only[dj,abv]at hz;obtain⟨zv,⟨i,hi,zL⟩,hm⟩:=hz;obtain⟨hv,iL⟩:=jn (g:=g) (w:=w) hm;have V6:=hv.length;have cK:0<zv.cells.size:=by grind
 have hze:zv.cells.size=s:=by grind
 have V7:((List.range (len*s)).map fun i=>z.getD (i%s) .any).all eK=true:=by simp only[aa3,aa_,ab5];rintro x ⟨j,_,rfl⟩;have:=abN j h3;grind
 have jF:aT g w ((List.range (len*s)).map fun i=>z.getD (i%s) .any) ((Array.range (len*s)).map (zv.cells[·%zv.cells.size]! )).toList:=by
  refine aT.iy (by simp) fun j u v hu L9=>?_
  rw[uI _ cK]at L9;by_cases hj:j<len*s
  ·simp only[hj,abL]at L9;simp[hj]at hu;subst hu;have U2:=abN j h3;rw[hze]at L9;have hg:z[j%s]? =some (z[j%s]'(by omega)):=aaI _;rw[hg,abE];obtain⟨v',h5,h6⟩:=aT.get (j%s) hv hg;grind
  grind
 obtain⟨c',h5,h6,h7⟩:=yf ev hq hf V7 jF;have mz:cs.length=len*s:=by
  have M6:∀(cs:List V)(qs:List (Nat×Nat×a_))(uH:List V),iK ρ cs qs=some uH->uH.length=cs.length:=by intro cs qs;induction qs generalizing cs<;>grind[iK,fu]
  grind
 refine⟨c',h6,h7,mz,?_⟩
 ·by_cases h0:len*s=0
  ·have h5':Instr.fill (fun i=>some (i*s,s)) ((Array.range (len*s)).map ((#[]:Array Value)[·%(#[]:Array Value).size]! )) (ps.toList.map fun p=>(p.1,a.eval p.2))=some c':=by grind
   simp[execOp,ho,Instr.buildSlice,run_underlying hu,cC hs,h0];simp_all[newRow]
  ·simp[execOp,ho,Instr.buildSlice,run_underlying hu,cC hs,h0,Nat.not_lt.2 h1,qp hi zL,h5,newRow]
theorem E7{e:TypeId}{len s:Nat}{z:List V}(ho:o.op=.buildSlice t len ps)(hu:P.underlying t=some (.slice e))(hs:gB P e=some s)(hz:dj P e=some z)(h1:len*s<=2^24)(h2:z.length=s)(h3:0<s)(hq:dD (fun i=>some (i*s,s)) ps.toList=some qs)(hf:iK ρ ((List.range (len*s)).map fun i=>z.getD (i%s) .any) qs=some cs)(ev:Ev ρ a g w)(hh:az g w H)(jT:jl g ns):Good P a o g w ns (.sl ns cs.length 0 len s) (bJ H ns (.cells cs))/\cs.length=len*s:=by obtain⟨c',h6,h7,mz,fA⟩:=th ho hu hs hz h1 h2 h3 hq hf ev;refine⟨?_,mz⟩;obtain⟨k1,k2,k3,k4⟩:=uG e h7 h6 hh jT _ rfl;refine⟨_,_,.value (.slice (some ⟨w.heap.size,0,none⟩) len len),fA,.inl ⟨_,rfl,?_⟩,k1,k2,fun _ h=>h⟩;simp only[RV];refine⟨⟨rfl,k3⟩,fun x hx=>?_ ⟩;grind
theorem zM(h:jR H n u=some cs)(hv:RV g w u v)(hh:az g w H):∃aU off vs,v=.pointer (some ⟨aU,off,none⟩)/\vs.length=n/\aT g w cs vs/\∀j x,vs[j]? =some x->w.cell? ⟨aU,off+j,none⟩=some x:=by
 cases u with
  |ptr b hb off=>
   simp only[jR]at h;cases hg:aF H b with
    |none=>grind
    |some y=>
     cases y with
      |cells uH=>
       simp only[hg]at h;cases hc:(Nat.beq uH.length hb&&Nat.ble (off+n) hb)with
        |false=>grind
        |true=>rw[hc]at h;simp only[aaJ,aaC]at h;simp only[aaD]at hc;have e1:=aaM hc.1;have e2:=aaN hc.2;obtain⟨x,hx⟩:=hh.back b _ hg;obtain⟨_,y',uJ,hr⟩:=hh.live b x hx;rw[hg]at uJ;simp only[aaC]at uJ;subst uJ;simp only[RV]at hv;obtain⟨aU,cp,cur,rfl,h1,h2⟩:=hv.2 x hx;simp only[RB]at hr;obtain⟨r1,r2,r3,c,e,r4,r5,r6⟩:=hr;subst h;refine⟨aU,off,((c.toList.take uH.length).drop off).take n,h1 (by omega),?_,(r6.drop off).take n,fun j x hj=>?_ ⟩;all_goals grind[World.cell?]
      |_=>grind
  |bB ds=>
   simp only[jR]at h;cases hc:Nat.ble n ds.length with
    |false=>grind
    |true=>rw[hc]at h;simp only[aaJ,aaC]at h;have e1:=aaN hc;simp only[RV]at hv;obtain⟨aU,off,rfl,_,h3⟩:=hv;obtain⟨vs,h4,h5⟩:=dC.cX h3;subst h;have hl:=h4.length;simp at hl;refine⟨aU,off,vs.take n,rfl,by simp;omega,by rw[acO];exact h4.take n,fun j x hj=>?_ ⟩;grind
  |_=>simp[jR]at h
theorem Addr.gD(aU off j:Nat):(⟨aU,off,none⟩:Addr).add j=⟨aU,off+j,none⟩:=by unfold Addr.add;grind
theorem Cm{v:V}{vs:List Value}(h:B_ b cs=some v)(hv:aT g w cs vs):RV g w v (if b then .agg vs.toArray else vs.headD undef)/\(b=false->vs.length=1):=by
 cases b with
  |true=>simp[B_]at h;subst h;simp_all[RV,abL]
  |false=>
   simp only[B_,aaT]at h;split at h
   ·simp only[aaC]at h;subst h;cases vs<;>grind[aT]
   ·cases h
theorem na{aU off:Nat}{vs:List Value}(hn:gB P t=some n)(hb:qn P t=some b)(hl:vs.length=n)(h1:b=false->vs.length=1)(hc:∀j x,vs[j]? =some x->w.cell? ⟨aU,off+j,none⟩=some x):(loadVar t ⟨aU,off,none⟩).run P w=.ok (if b then .agg vs.toArray else vs.headD undef) w:=by
 cases b with
  |true=>have:=run_loadCells_list (P:=P) w ⟨aU,off,none⟩ vs (fun j x hj=>by grind[Addr.gD]);subst hl;simp[loadVar,ud hb,cC hn,this]
  |false=>
   have V8:=h1 rfl;obtain⟨x,rfl⟩:∃x,vs=[x]:=by match vs,V8 with|[x],_=>grind
   have:=hc 0 x rfl;simp at this;simp[loadVar,ud hb,this]
theorem M7{x:Operand}{v:V}(ho:o.op=.load t x)(hn:gB P t=some n)(hb:qn P t=some b)(hx:ar x=some y)(h1:jR H n (ρ y)=some cs)(h2:B_ b cs=some v)(ev:Ev ρ a g w)(hh:az g w H):Good P a o g w ns v H:=by obtain⟨aU,off,vs,e1,e2,e3,e4⟩:=zM h1 (ev _ _ hx) hh;obtain⟨h3,h4⟩:=Cm h2 e3;refine Good.val hh ?_ h3;simp[execOp,ho,e1,Instr.loadAt,Instr.sureAddr,na hn hb e2 h4 e4]
theorem jW:∀(us cs:List Value)(off:Nat),off+us.length<=cs.length->putCells cs off us=cs.take off++us++cs.drop (off+us.length)
 |[],cs,off,_=>by simp[putCells]
 |u::us,cs,off,h=>by simp only[aaR]at h;simp only[putCells];rw[jW us (cs.set off u) (off+1) (by simp;omega)];apply ac0;intro i;simp only[List.getElem?_append,aaZ,aa1,abg,abI,List.getElem?_set,acx,aaR,show min (off+1) cs.length=off+1 by omega,show min off cs.length=off by omega];grind
theorem wL(cs us:List Value)(off k:Nat)(h:off+us.length<=k):(putCells cs off us).take k=putCells (cs.take k) off us:=by induction us generalizing cs off<;>grind[List.length_cons,putCells,List.take_set]
theorem oZ:∀{us:List V}{xs:List Value}{cs:List V}{vs:List Value}(off:Nat),aT g w cs vs->aT g w us xs->aT g w (putCells cs off us) (putCells vs off xs)
 |[],[],_,_,_,h,_=>h
 |u::us,x::xs,cs,vs,off,h,h2=>by simp only[aT]at h2;simp only[putCells];exact oZ (off+1) (h.set off h2.1) h2.2
 |[],_::_,_,_,_,_,h=>by grind[aT]
 |_::_,[],_,_,_,_,h=>by grind[aT]
theorem E8{x:V}{y:Value}{p:Nat×fJ}(h:gA H n u x=some p)(hv:RV g w u v)(hx:RV g w x y)(hh:az g w H):∃aU off w',v=.pointer (some ⟨aU,off,none⟩)/\y.cells.size=n/\(storeCells ⟨aU,off,none⟩ y.cells.toList).run P w=.ok () w'/\az g w' (br H (some p))/\cg g w g w':=by
 cases u with
  |ptr b hb off=>
   simp only[gA]at h;cases hg:aF H b with
    |none=>grind
    |some yb=>
     cases yb with
      |cells cs=>
       simp only[hg]at h;cases hc:(Nat.beq cs.length hb&&Nat.ble (off+n) hb&&Nat.beq (cl x).length n&&(cl x).all eK)with
        |false=>grind
        |true=>
         rw[hc]at h;simp only[aaJ,aaC]at h;simp only[aaD]at hc;have e1:=aaM hc.1.1.1;have e2:=aaN hc.1.1.2;have e3:=aaM hc.1.2;obtain⟨z,hz⟩:=hh.back b _ hg;obtain⟨_,y',uJ,hr⟩:=hh.live b z hz;rw[hg]at uJ;simp only[aaC]at uJ;subst uJ;simp only[RV]at hv;obtain⟨aU,cp,cur,rfl,h1,h2⟩:=hv.2 z hz;simp only[RB]at hr;obtain⟨r1,r2,r3,c,e,r4,r5,r6⟩:=hr;have E9:=rO hc.2 hx;have Pq:=E9.length;have GF:y.cells.size=n:=by grind
         have Ck:=run_storeCells_at P aU off e y.cells.toList 0 c w r4 (by simp;omega) (aT.one hc.2 E9);simp only[acj]at Ck;rw[←jW _ _ _ (by simp;omega)]at Ck;have hw:∀j,j≠aU->(w.setRow aU (putCells c.toList off y.cells.toList).toArray).heap[j]? =w.heap[j]? :=fun j hj=>setRow_other w aU j _ hj
         have he:cg g w g (w.setRow aU (putCells c.toList off y.cells.toList).toArray):=cg.write hz rfl (hh.zJ hz rfl) rfl rfl rfl (by simp) hw;refine⟨aU,off,_,h1 (by omega),GF,Ck,?_,he⟩;subst h;refine az.write hh _ hz rfl he hw ?_;simp only[RB];have tO:∀(l:List Value)(i:Nat)(vs:List Value),(putCells l i vs).length=l.length:=by intro l i vs;induction vs generalizing l i<;>grind[putCells]
         refine⟨by grind[fu],tg r2 hc.2,by grind[fu],_,e,setRow_heap w aU c _ e _ r4,by grind,?_ ⟩;rw[fu,List.toList_toArray,wL _ _ _ _ (by simp;omega)];exact oZ off (aT.ext he _ _ r6) (aT.ext he _ _ E9)
      |_=>grind
  |_=>simp[gA]at h
theorem J1{x y:Operand}{x' y':a_}{p:Nat×fJ}(ho:o.op=.store t x y)(hn:gB P t=some n)(hx:ar x=some x')(hy:ar y=some y')(h1:gA H n (ρ x') (ρ y')=some p)(ev:Ev ρ a g w)(hh:az g w H):Good P a o g w ns .any (br H (some p)):=by obtain⟨aU,off,w',e1,e2,e3,e4,e5⟩:=E8 (P:=P) h1 (ev _ _ hx) (ev _ _ hy) hh;refine⟨g,w',.skip,?_,.inr ⟨rfl,rfl⟩,e4,e5,fun _ h=>.inl h⟩;simp[execOp,ho,e1,Instr.storeAt,Instr.sureAddr,storeVar,cC hn,e2,e3]
end
end Fw
/-
  Operations, further: arithmetic, tests, strings, slices, fields, indexes.
-/
namespace Fw
open Go
section
variable {P:Program}{a:Act}{o:Oper}{g:G}{w:World}{ρ:a_->V}{H:ao}{ns:Nat}
variable {t:TypeId}{x':a_}{v:V}{op:BinOp}
theorem GZ{x:Operand}{y:a_}(ho:o.op=.nilCheck x)(hx:ar x=some y)(h:bE ρ H ns (.eZ y)=some (v,none))(ev:Ev ρ a g w)(hh:az g w H):Good P a o g w ns v H:=by
 have hv:=ev _ _ hx;simp only[bE]at h;split at h<;>simp only[aaC,aaE,reduceCtorEq]at h
 ·rename_i b hb off e;obtain⟨rfl,_⟩:=h;rw[e]at hv;have jF:=hv;simp only[RV]at jF;obtain⟨⟨⟨aU,q,e2⟩,_⟩,_⟩:=jF;exact Good.val (x:=a.eval x) hh (by simp[execOp,ho,e2]) hv
 ·rename_i cs e;obtain⟨rfl,_⟩:=h;rw[e]at hv;have jF:=hv;simp only[RV]at jF;obtain⟨aU,q,e2,_⟩:=jF;exact Good.val (x:=a.eval x) hh (by simp[execOp,ho,e2]) hv
 ·rename_i f p q e;obtain⟨rfl,_⟩:=h;rw[e]at hv;have jF:=hv;simp only[RV]at jF;obtain⟨p',q',e2,_⟩:=jF;exact Good.val (x:=a.eval x) hh (by simp[execOp,ho,e2]) hv
theorem bytesLess_eq:∀(x y:List UInt8),Fw.bytesLess x y=Op.bytesLess x y
 |x,[]=>by cases x<;>rfl
 |[],_::_=>rfl
 |p::x,q::y=>by
  simp only[Fw.bytesLess,Op.bytesLess,bytesLess_eq x y];by_cases h1:p.toNat<q.toNat
  ·grind[Nat.blt_eq,UInt8.lt_iff_toNat_lt]
  ·have e1:Nat.blt p.toNat q.toNat=false:=by grind[Nat.blt_eq]
   have:decide (p<q)=false:=by grind[UInt8.lt_iff_toNat_lt]
   rw[e1,this];simp only[aaT,acP];by_cases h2:p=q
   ·simp_all
   ·have:Nat.beq p.toNat q.toNat=false:=cB (fun e=>h2 (acy.1 e));grind
theorem ep:∀(x y:List UInt8),Fw.ai x y=(x==y)
 |[],[]=>rfl
 |[],_::_=>rfl
 |_::_,[]=>rfl
 |p::x,q::y=>by
  simp only[Fw.ai,ep x y];by_cases h2:p=q
  ·simp_all
  ·have:Nat.beq p.toNat q.toNat=false:=cB (fun e=>h2 (acy.1 e));grind
theorem eu(x y:List UInt8):Fw.ai x y=decide (x=y):=by grind[ep]
theorem iz{x y:Value}{r:Result Bool}(h:∀d,(Op.equalIn (d+1) t x y).run P w=r):(Op.equal t x y).run P w=r:=h 9999
theorem J2{s t:ByteArray}{d:D}(h:GQ op s.data.toList t.data.toList=some d):∃v,(Op.stringOp op s t).run P w=.ok v w/\RV g w (.d d) v:=by
 unfold GQ at h;split at h
 ·split at h
  ·rename_i hl;simp only[aaC]at h;subst h;have P9:s.size+t.size<=2^62:=by simp_all[Cj]
   refine⟨.string (s++t),?_,?_⟩
   ·have:¬(((s.size+t.size:Nat):Int)>IntKind.i64.max):=by
     have e:IntKind.i64.max=9223372036854775807:=by decide
     grind
    simp_all[Op.stringOp]
   ·have:s.data.toList++t.data.toList=(s++t).data.toList:=by simp_all
    rw[this];exact RV.Z1 _
  ·cases h
 all_goals (simp only[aaC,reduceCtorEq]at h<;>subst h)
 all_goals simp_all[Op.stringOp,Lib.toList_data,ep,bytesLess_eq,RV,Rd]
theorem P'{yt:TypeId}{x y:Operand}{y':a_}(ho:o.op=.binOp op t x y yt)(hx:ar x=some x')(hy:ar y=some y')(h:mJ op (ρ x') (ρ y')=some v)(ev:Ev ρ a g w)(hh:az g w H):Good P a o g w ns v H:=by
 have dy:=ev _ _ hx;have gk:=ev _ _ hy;unfold mJ at h;split at h
 ·rename_i k n k' m e1 e2;split at h
  ·rename_i hk;subst hk;simp only[aaG]at h;obtain⟨d,hd,rfl⟩:=h;rw[e1]at dy;rw[e2]at gk;have f1:=RV.int dy;have f2:=RV.int gk;have hg:(eqGuard op t x y (a.eval x) (a.eval y)).run P w=.ok () w:=by rw[f1,f2];unfold eqGuard;simp_all
   unfold ou at hd;split at hd;case h_4=>
    split at hd
    ·cases hd
    ·rename_i hz;simp only[aaC]at hd;subst hd;exact Good.val hh (by simp_all[execOp,Sem.run_bind,Result.andThen_ok,binOp,Op.intDiv]) (RV.Cl _ _)
   case h_5=>
    split at hd
    ·cases hd
    ·rename_i hz;simp only[aaC]at hd;subst hd;exact Good.val hh (by simp_all[execOp,Sem.run_bind,Result.andThen_ok,binOp,Op.intDiv]) (RV.Cl _ _)
   case h_6=>
    simp only[aaC]at hd;subst hd;have hi:(Op.intBits BinOp.and k n m).run P w=.ok (.int k (k.wrap (BitVec.ofInt k.bits n&&&BitVec.ofInt k.bits m).toNat)) w:=by unfold Op.intBits;simp_all
    have hb:(binOp BinOp.and t (.int k n) (.int k m)).run P w=.ok (.int k (k.wrap (BitVec.ofInt k.bits n&&&BitVec.ofInt k.bits m).toNat)) w:=by grind[binOp]
    refine Good.val hh ?_ (RV.Cl _ _);grind[execOp,Sem.run_bind,Result.andThen_ok,Sem.run_pure]
   all_goals (simp only[aaC,reduceCtorEq]at hd<;>subst hd)
   all_goals first
    |exact Good.val hh (by simp only[execOp,ho,Sem.run_bind,hg,Result.andThen_ok];simp only[f1,f2,binOp];simp[Op.intArith]) (RV.Cl _ _)
    |exact Good.val hh (by simp_all[execOp,Sem.run_bind,Result.andThen_ok,binOp,Op.intCmp]) (RV.E6 _)
  ·cases h
 ·rename_i s t' e1 e2;simp only[aaG]at h;obtain⟨d,hd,rfl⟩:=h;rw[e1]at dy;rw[e2]at gk;obtain⟨s1,f1,rfl⟩:=RV.str dy;obtain⟨s2,f2,rfl⟩:=RV.str gk;obtain⟨r,hr,zN⟩:=J2 (P:=P) (g:=g) (w:=w) hd;have hg:(eqGuard op t x y (a.eval x) (a.eval y)).run P w=.ok () w:=by rw[f1,f2];unfold eqGuard;simp_all
  refine Good.val hh ?_ zN;have hb:(binOp op t (.string s1) (.string s2)).run P w=.ok r w:=by rw[←hr];cases op<;>rfl
  grind[execOp,Sem.run_bind,Result.andThen_ok,Sem.run_pure]
 ·cases h
set_option maxHeartbeats 1000000 in
theorem V9{yt:TypeId}{x y:Operand}{y':a_}{k:rM}{b neg:Bool}(ho:o.op=.binOp op t x y yt)(kx:(op=.eql/\neg=false)\/(op=.neq/\neg=true))(hk:match k with| .bool=>P.underlying t=some .bool| .ptr=>∃e,P.underlying t=some (.pointer e)| .iface=>(∃e,P.underlying t=some (.interface e))/\((∃c,x=.const c)\/∃c,y=.const c)| .slice=>∃e,P.underlying t=some (.slice e)| .func=>∃s:Array TypeId×Array TypeId×Bool,P.underlying t=some (.func s.1 s.2.1 s.2.2))(hx:ar x=some x')(hy:ar y=some y')(h:Dy H k (ρ x') (ρ y')=some b)(ev:Ev ρ a g w)(hh:az g w H):Good P a o g w ns (.d (.bool (bif neg then !b else b))) H:=by
 have dy:=ev _ _ hx;have gk:=ev _ _ hy;have key:∀(vx vy:Value),a.eval x=vx->a.eval y=vy->(eqGuard op t x y vx vy).run P w=.ok () w->(Op.equal t vx vy).run P w=.ok b w->(∀k n,vx≠ .int k n)->(∀k n,vx≠ .float k n)->(∀k n m,vx≠ .complex k n m)->(∀s,vx≠ .string s)->Good P a o g w ns (.d (.bool (bif neg then !b else b))) H:=by
  intro vx vy h1 h2 h3 h4 n1 n2 n3 n4;refine Good.val (x:=.bool (bif neg then !b else b)) hh ?_ (RV.E6 _);have hb:(binOp op t vx vy).run P w=.ok (.bool (bif neg then !b else b)) w:=by rcases kx with⟨rfl,rfl⟩|⟨rfl,rfl⟩;all_goals simp_all[binOp]
  simp_all[execOp]
 unfold Dy at h;have aae:(match op with| .eql| .neq=>true|_=>false)=true:=by grind
 have fin:∀(vx vy:Value)(e:TypeId),P.underlying t=some (.slice e)->((∃a l c,vx=.slice a l c)/\vy=.slice none 0 0\/(∃a l c,vy=.slice a l c)/\vx=.slice none 0 0)->a.eval x=vx->a.eval y=vy->(∀a l c a' l' c',vx=.slice a l c->vy=.slice a' l' c'->b=(a.isNone&&a'.isNone))->Good P a o g w ns (.d (.bool (bif neg then !b else b))) H:=by
  intro vx vy e he hs h1 h2 hb;rcases hs with⟨⟨p,l,c,rfl⟩,rfl⟩|⟨⟨p,l,c,rfl⟩,rfl⟩
  ·have:=hb _ _ _ _ _ _ rfl rfl;subst this;refine key _ _ h1 h2 (by unfold eqGuard;simp_all) (iz fun d=>?_ ) (by simp) (by simp) (by simp) (by simp);cases p<;>simp[Op.equalIn,run_underlying he]
  ·have:=hb _ _ _ _ _ _ rfl rfl;subst this;refine key _ _ h1 h2 (by unfold eqGuard;simp_all) (iz fun d=>?_ ) (by simp) (by simp) (by simp) (by simp);cases p<;>simp[Op.equalIn,run_underlying he]
 have own:∀{bb h0 off len sz:Nat}{u:Value},ya H bb h0=some b->RV g w (.sl bb h0 off len sz) u->∃a l c,u=.slice a l c/\b=a.isNone:=by
  intro bb h0 off len sz u hn hu;unfold ya at hn;split at hn
  ·rename_i cs hg;cases hc:Nat.beq cs.length h0 with
    |false=>grind
    |true=>rw[hc]at hn;simp only[aaJ,aaC]at hn;have hl:=aaM hc;obtain⟨xb,qq⟩:=hh.back bb _ hg;obtain⟨_,y0,L',hr⟩:=hh.live bb xb qq;rw[hg]at L';simp only[aaC]at L';subst L';simp only[RV]at hu;have L7:=hu.2 xb qq;grind[RB]
  ·rename_i hg;cases hc:Nat.beq h0 0 with
    |false=>grind
    |true=>rw[hc]at hn;simp only[aaJ,aaC]at hn;obtain⟨xb,qq⟩:=hh.back bb _ hg;obtain⟨_,y0,L',hr⟩:=hh.live bb xb qq;grind[Option.some.injEq,RV,RB]
  ·cases hn
 split at h<;>try simp only[aaC,reduceCtorEq]at h
 ·rename_i bb h0 _ _ _ e1 e2;rw[e1]at dy;rw[e2]at gk;obtain⟨p,l,c,q1,q2⟩:=own h dy;simp only[RV]at gk;obtain⟨e,he⟩:=hk;exact fin _ _ e he (.inl ⟨⟨p,l,c,rfl⟩,rfl⟩) q1 gk (by grind)
 ·rename_i bb h0 _ _ _ e1 e2;rw[e1]at dy;rw[e2]at gk;obtain⟨p,l,c,q1,q2⟩:=own h gk;simp only[RV]at dy;obtain⟨e,he⟩:=hk;exact fin _ _ e he (.inr ⟨⟨p,l,c,rfl⟩,rfl⟩) dy q1 (by grind)
 ·rename_i p q e1 e2;rw[e1]at dy;rw[e2]at gk;subst h;simp only at hk;exact key _ _ (RV.bool dy) (RV.bool gk) (by unfold eqGuard;simp_all) (iz fun d=>by simp[Op.equalIn,run_underlying hk]) (by simp) (by simp) (by simp) (by simp)
 ·rename_i e1 e2;rw[e1]at dy;rw[e2]at gk;simp only[RV]at dy gk;subst h;obtain⟨⟨e,he⟩,hc⟩:=hk;refine key _ _ dy gk ?_ (iz fun d=>by simp[Op.equalIn,run_underlying he]) (by simp) (by simp) (by simp) (by simp);unfold eqGuard;rcases kx with⟨rfl,_⟩|⟨rfl,_⟩<;>rcases hc with⟨c,rfl⟩|⟨c,rfl⟩<;>simp
 ·rename_i e1 e2;rw[e1]at dy;rw[e2]at gk;simp only[RV]at dy gk;obtain⟨tt,z,dy⟩:=dy;subst h;obtain⟨⟨e,he⟩,hc⟩:=hk;exact key _ _ dy gk (by unfold eqGuard;simp_all) (iz fun d=>by simp[Op.equalIn,run_underlying he]) (by simp) (by simp) (by simp) (by simp)
 ·rename_i e1 e2;rw[e1]at dy;rw[e2]at gk;simp only[RV]at dy gk;obtain⟨tt,z,gk⟩:=gk;subst h;obtain⟨⟨e,he⟩,hc⟩:=hk;exact key _ _ dy gk (by unfold eqGuard;simp_all) (iz fun d=>by simp[Op.equalIn,run_underlying he]) (by simp) (by simp) (by simp) (by simp)
 ·rename_i tt z e1 e2;rw[e1]at dy;rw[e2]at gk;simp only[RV]at dy gk;obtain⟨z',dy,_⟩:=dy;subst h;obtain⟨⟨e,he⟩,hc⟩:=hk;exact key _ _ dy gk (by unfold eqGuard;simp_all) (iz fun d=>by simp[Op.equalIn,run_underlying he]) (by simp) (by simp) (by simp) (by simp)
 ·rename_i tt z e1 e2;rw[e1]at dy;rw[e2]at gk;simp only[RV]at dy gk;obtain⟨z',gk,_⟩:=gk;subst h;obtain⟨⟨e,he⟩,hc⟩:=hk;exact key _ _ dy gk (by unfold eqGuard;simp_all) (iz fun d=>by simp[Op.equalIn,run_underlying he]) (by simp) (by simp) (by simp) (by simp)
 ·rename_i e1 e2;rw[e1]at dy;rw[e2]at gk;simp only[RV]at dy gk;subst h;obtain⟨e,he⟩:=hk;exact key _ _ dy gk (by unfold eqGuard;simp_all) (iz fun d=>by simp[Op.equalIn,run_underlying he]) (by simp) (by simp) (by simp) (by simp)
 ·rename_i e0 es0 e1 e2;rw[e1]at dy;rw[e2]at gk;simp only[RV,Rd,reduceCtorEq,false_and,false_or]at dy gk;obtain⟨aU,off,cap,sz,dy,-⟩:=dy;subst h;obtain⟨e,he⟩:=hk;exact key _ _ dy gk (by unfold eqGuard;simp_all) (iz fun d=>by simp[Op.equalIn,run_underlying he]) (by simp) (by simp) (by simp) (by simp)
 ·rename_i e0 es0 e1 e2;rw[e1]at dy;rw[e2]at gk;simp only[RV,Rd,reduceCtorEq,false_and,false_or]at dy gk;obtain⟨aU,off,cap,sz,gk,-⟩:=gk;subst h;obtain⟨e,he⟩:=hk;exact key _ _ dy gk (by unfold eqGuard;simp_all) (iz fun d=>by simp[Op.equalIn,run_underlying he]) (by simp) (by simp) (by simp) (by simp)
theorem V'{op:UnOp}{x:Operand}(ho:o.op=.unOp op t x)(hx:ar x=some x')(h:U0 op (ρ x')=some v)(ev:Ev ρ a g w)(hh:az g w H):Good P a o g w ns v H:=by
 have dy:=ev _ _ hx;unfold U0 at h;split at h
 ·rename_i k n e1;rw[e1]at dy;split at h<;>simp only[aaC,reduceCtorEq]at h;subst h;exact Good.val hh (by simp only[execOp,ho,RV.int dy];simp[Op.unary,Op.intArith]) (RV.Cl _ _)
 ·rename_i b e1;rw[e1]at dy;split at h<;>simp only[aaC,reduceCtorEq]at h;subst h;exact Good.val hh (by simp only[execOp,ho,RV.bool dy];simp[Op.unary]) (RV.E6 _)
 ·cases h
theorem M8{s d:TypeId}{k k0:IntKind}{x:Operand}{k1:IntKind}{n:Int}(ho:o.op=.convert s d x)(hs:P.underlying s=some (.int k0))(hd:P.underlying d=some (.int k))(hx:ar x=some x')(e:ρ x'=.d (.int k1 n))(ev:Ev ρ a g w)(hh:az g w H):Good P a o g w ns (.d (.int k (k.wrap n))) H:=by have dy:=ev _ _ hx;rw[e]at dy;exact Good.val hh (by simp only[execOp,ho,RV.int dy];simp[convert,run_underlying hs,run_underlying hd,Conv.intToInt]) (RV.Cl _ _)
end
end Fw
/-
  Operations, further: parts of strings and slices, fields, indexes, lengths.
-/
namespace Fw
open Go
section
variable {P:Program}{a:Act}{o:Oper}{g:G}{w:World}{ρ:a_->V}{H:ao}{ns:Nat}
variable {h sz b len l off n cap aU cp:Nat}{v:Value}{hi:Option Operand}{DA lE:Option a_}{t el:TypeId}{x':a_}{es:List (List D)}
theorem ew{u:V}(h:ct u=some n)(hv:RV g w u v):∃k,v=.int k n:=by
 unfold ct at h;split at h
 ·rename_i k z;split at h
  ·rename_i hz;simp only[aaC]at h;subst h;exact⟨k,by rw[RV.int hv,Int.toNat_of_nonneg hz]⟩
  ·cases h
 ·cases h
theorem nS{k:IntKind}{y:Nat}(c:BoundsCode)(h:n<=y):(Instr.sliceBound (.int k n) y c).run P w=.ok n w:=by simp[Instr.sliceBound,asIntOf,h]
theorem gF{lo:Option Operand}(Z3:Bool)(kQ:cW lo=some DA)(jD:cW hi=some lE)(hb:bounds ρ len DA lE=some (l,h))(ev:Ev ρ a g w)(hc:len<=cap):(Instr.sliceBounds Z3 len cap (lo.map a.eval) (hi.map a.eval) none).run P w=.ok (l,h,cap) w/\l<=h/\h<=len:=by
 unfold bounds at hb;split at hb
 ·cases hb
 ·rename_i h0 eh;split at hb
  ·cases hb
  ·rename_i l0 el;cases fZ:(Nat.ble l0 h0&&Nat.ble h0 len)with
    |false=>grind
    |true=>
     rw[fZ]at hb;simp only[aaJ,aaC,aaE]at hb;obtain⟨rfl,rfl⟩:=hb;simp only[aaD]at fZ;have e1:=aaN fZ.1;have e2:=aaN fZ.2;have f1:(match hi.map a.eval with|some v=>Instr.sliceBound v cap (if Z3 then .sliceAcap else .sliceAlen)|none=>pure len:Sem Nat).run P w=.ok h0 w:=by
      cases hi with
       |none=>simp[cW]at jD;subst jD;simp_all
       |some x=>simp only[cW,aaG]at jD;obtain⟨y,hy,rfl⟩:=jD;simp only at eh;obtain⟨k,hk⟩:=ew eh (ev _ _ hy);simp only[aaU,hk];exact nS _ (by omega)
     have f2:(match lo.map a.eval with|some v=>Instr.sliceBound v h0 (if(none:Option Value).isSome then .slice3C else .sliceB)|none=>pure 0:Sem Nat).run P w=.ok l0 w:=by
      cases lo with
       |none=>simp[cW]at kQ;subst kQ;simp_all
       |some x=>simp only[cW,aaG]at kQ;obtain⟨y,hy,rfl⟩:=kQ;simp only at el;obtain⟨k,hk⟩:=ew el (ev _ _ hy);simp only[aaU,hk];exact nS _ e1
     refine⟨?_,e1,e2⟩;cases hi with
      |none=>
       simp only[ab',Sem.run_pure,Result.ok.injEq,acm]at f1;subst f1;cases lo with
        |none=>simp_all[ab',Sem.run_pure,Result.ok.injEq,acm,Instr.sliceBounds]
        |some x=>grind[Instr.sliceBounds,Sem.run_bind,Sem.run_pure,Result.andThen_ok]
      |some y=>
       simp only[aaU]at f1;cases lo with
        |none=>simp_all[ab',Sem.run_pure,Result.ok.injEq,acm,Instr.sliceBounds,aaU,Sem.run_bind,Result.andThen_ok]
        |some x=>simp_all[aaU,Instr.sliceBounds,Sem.run_bind,Sem.run_pure,Result.andThen_ok]
theorem extract_toList(b:ByteArray)(l h:Nat):(b.extract l h).data.toList=(b.data.toList.take h).drop l:=by rw[ByteArray.data_extract,Array.toList_extract];apply ac0;grind
theorem G0{x:Operand}{lo:Option Operand}{s:List UInt8}(ho:o.op=.slice t x lo hi none)(ht:P.underlying t=some .string)(hx:ar x=some x')(kQ:cW lo=some DA)(jD:cW hi=some lE)(e:ρ x'=.d (.str s))(hb:bounds ρ s.length DA lE=some (l,h))(ev:Ev ρ a g w)(hh:az g w H):Good P a o g w ns (.d (.str ((s.take h).drop l))) H:=by
 have hv:=ev _ _ hx;rw[e]at hv;obtain⟨b,DC,rfl⟩:=RV.str hv;have cK:b.data.toList.length=b.size:=by simp
 rw[cK]at hb;obtain⟨f1,f2,f3⟩:=gF (P:=P) false kQ jD hb ev (aaP _);refine Good.val (x:=.string (b.extract l h)) hh ?_ (by rw[←extract_toList];exact RV.Z1 _);simp[execOp,ho,DC,Instr.sliceAt,run_underlying ht,Instr.slice,f1]
theorem iu.get{im:Nat->Prop}{aU:Nat}:∀{es:List (List D)}{off sz:Nat}(i:Nat){e:List D},iu w im aU off sz es->es[i]? =some e->e.length=sz/\dC w im aU (off+i*sz) e
 |[],_,_,i,e,_,h=>by simp at h
 |e0::es,off,sz,0,e,h,he=>by grind[iu]
 |e0::es,off,sz,i+1,e,h,he=>by simp only[iu]at h;simp at he;have:=iu.get i h.2.2 he;grind
theorem iu.iy{im:Nat->Prop}{aU sz:Nat}:∀{es:List (List D)}{off:Nat},(∀i e,es[i]? =some e->e.length=sz/\dC w im aU (off+i*sz) e)->iu w im aU off sz es
 |[],_,_=>by simp only[iu]
 |e::es,off,h=>by simp only[iu];have h0:=h 0 e rfl;simp at h0;refine⟨h0.1,h0.2,iu.iy fun i e' he=>?_ ⟩;have:=h (i+1) e' (by grind);grind
theorem yg(h:es.all (fun e=>Nat.beq e.length sz)=true):∀e∈es,e.length=sz:=fun e he=>aaM ((aa3.1 h) e he)
theorem RV.list(hv:RV g w (.d (.list es)) v)(hl:∀e∈es,e.length=sz):(es=[]/\(v=.slice none 0 0\/∃a c,v=.slice (some a) 0 c))\/∃aU off cap,v=.slice (some ⟨aU,off,none⟩) es.length cap/\es.length<=cap/\(es≠[]->cZ g w aU)/\iu w (cZ g w) aU off sz es:=by
 simp only[RV,Rd]at hv;rcases hv with h|⟨aU,off,cap,w_,h1,h2,h3,h4⟩
 ·grind
 ·refine .inr ⟨aU,off,cap,h1,h2,h3,?_⟩;cases es<;>grind[iu]
theorem G1{x:Operand}{lo:Option Operand}(ho:o.op=.slice t x lo hi none)(ht:P.underlying t=some (.slice el))(hs:gB P el=some sz)(hx:ar x=some x')(kQ:cW lo=some DA)(jD:cW hi=some lE)(e:ρ x'=.d (.list es))(hl:es.all (fun e=>Nat.beq e.length sz)=true)(hb:bounds ρ es.length DA lE=some (l,h))(ev:Ev ρ a g w)(hh:az g w H):Good P a o g w ns (.d (.list ((es.take h).drop l))) H:=by
 have hv:=ev _ _ hx;rw[e]at hv;rcases RV.list hv (yg hl)with⟨rfl,hn⟩|⟨aU,off,cap,h1,h2,h3,h4⟩
 ·rcases hn with hn|⟨a0,c0,hn⟩
  ·obtain⟨f1,f2,f3⟩:=gF (P:=P) (cap:=0) true kQ jD hb ev (by simp);simp at f3;subst f3;have:l=0:=by omega
   subst this;refine Good.val (x:=.slice none 0 0) hh ?_ (by grind);simp at f1;simp[execOp,ho,hn,Instr.sliceAt,run_underlying ht,Instr.slice,f1,cC hs]
  ·obtain⟨f1,f2,f3⟩:=gF (P:=P) (cap:=c0) true kQ jD hb ev (by simp);simp at f3;subst f3;have:l=0:=by omega
   subst this;refine Good.val (x:=.slice (some (if c0=0 then a0 else a0.add 0)) 0 c0) hh ?_ (by grind[RV,Rd]);simp at f1;simp[execOp,ho,hn,Instr.sliceAt,run_underlying ht,Instr.slice,f1,cC hs];grind
 ·obtain⟨f1,f2,f3⟩:=gF (P:=P) true kQ jD hb ev h2;have hlen:((es.take h).drop l).length=h - l:=by simp;omega
  refine Good.val (x:=.slice (some (if cap=l then⟨aU,off,none⟩else⟨aU,off+l*sz,none⟩)) (h - l) (cap - l)) hh ?_ ?_
  ·simp only[execOp,ho,h1,Instr.sliceAt,Sem.run_bind,run_underlying ht,Result.andThen_ok,Instr.slice,ab',f1,cC hs,Sem.run_pure];grind[Addr.gD]
  ·simp only[RV,Rd];refine .inr ⟨aU,if cap=l then off else off+l*sz,cap - l,sz,?_,by omega,fun hn=>h3 ?_,?_ ⟩
   ·grind
   ·grind
   ·by_cases hc:cap=l
    ·grind[iu]
    ·simp only[hc,abM];refine iu.iy fun i e' he=>?_
     rw[acx,abI]at he;split at he
     ·have:=iu.get (l+i) h4 he;grind
     ·cases he
theorem lG{cs:List V}(hg:aF H b=some (.cells cs))(hl:Nat.beq cs.length h=true)(hh:az g w H):∃aU cp c e,g.γ b=some (.cells aU cp h)/\cs.all eK=true/\cs.length=h/\h<=cp/\w.heap[aU]? =some (.cells c e (0,0))/\cp<=c.size/\aT g w cs (c.toList.take h):=by
 have e1:=aaM hl;obtain⟨x,hx⟩:=hh.back b _ hg;obtain⟨_,y,hy,hr⟩:=hh.live b x hx;rw[hg]at hy;simp only[aaC]at hy;subst hy;cases x with
  |cells aU cp cur=>simp only[RB]at hr;obtain⟨r1,r2,r3,c,e,r4,r5,r6⟩:=hr;subst r1;subst e1;exact⟨aU,cp,c,e,hx,r2,rfl,r3,r4,r5,r6⟩
  |nil=>grind[RB]
  |obj=>grind[RB]
theorem RV.rP(hv:RV g w (.sl b h off len sz) v)(hg:g.γ b=some (.cells aU cp h)):∃cap,v=.slice (some ⟨aU,off,none⟩) len cap/\len<=cap/\off+cap*sz<=cp:=by grind[RV]
theorem RV.xe(hv:RV g w (.sl b h off len sz) v)(hg:g.γ b=some .nil):h=0/\len=0/\off=0/\v=.slice none 0 0:=by grind[RV]
theorem RV.cV(hv:RV g w (.sl b h off len sz) v):g.cV b:=by grind[RV]
theorem RV.zO(hd:g.cV b)(hg:g.γ b=some (.cells aU cp h))(h1:len<=cap)(h2:off+cap*sz<=cp):RV g w (.sl b h off len sz) (.slice (some ⟨aU,off,none⟩) len cap):=by simp only[RV];refine⟨⟨rfl,hd⟩,fun x hx=>?_ ⟩;grind
theorem nb(hl:ff H b h=true)(hh:az g w H):(∃aU cp,g.γ b=some (.cells aU cp h))\/(h=0/\g.γ b=some .nil):=by
 unfold ff at hl;split at hl
 ·rename_i cs hg;obtain⟨aU,cp,_,_,h1,_⟩:=lG hg hl hh;grind
 ·rename_i hg;obtain⟨x,hx⟩:=hh.back b _ hg;obtain⟨_,y,hy,hr⟩:=hh.live b x hx;rw[hg]at hy;simp only[aaC]at hy;subst hy;cases x with
   |cells=>grind[RB]
   |nil=>simp_all
   |obj=>grind[RB]
 ·cases hl
theorem J3{ti:Nat}(hd:g.cV b)(hg:g.γ b=some (.cells aU cp ti))(h1:l<=h)(h2:h<=n)(h3:n<=cap)(h4:off+cap*sz<=cp):RV g w (yc b ti off sz l h) (.slice (some (if cap=l then⟨aU,off,none⟩else⟨aU,off+l*sz,none⟩)) (h - l) (cap - l)):=by
 unfold yc;cases hc:(Nat.beq l h&& !(Nat.beq l 0))with
  |true=>simp_all[aaD,aaJ,RV,Rd,iu,adk,aa']
  |false=>
   simp only[aaT];have key:(if cap=l then(⟨aU,off,none⟩:Addr)else⟨aU,off+l*sz,none⟩)=⟨aU,off+l*sz,none⟩:=by
    split
    ·rename_i e;by_cases h0:l=0
     ·grind
     ·have:l=h:=by omega
      simp_all
    ·rfl
   rw[key];refine RV.zO hd hg (by omega) ?_;have:l*sz+(cap - l)*sz=cap*sz:=by rw[←acE];grind
   omega
theorem E'{x:Operand}{lo:Option Operand}{hb:Nat}(ho:o.op=.slice t x lo hi none)(ht:P.underlying t=some (.slice el))(hs:gB P el=some sz)(hx:ar x=some x')(kQ:cW lo=some DA)(jD:cW hi=some lE)(e:ρ x'=.sl b hb off len sz)(hl:ff H b hb=true)(zP:bounds ρ len DA lE=some (l,h))(ev:Ev ρ a g w)(hh:az g w H):Good P a o g w ns (yc b hb off sz l h) H:=by
 have hv:=ev _ _ hx;rw[e]at hv;rcases nb hl hh with⟨aU,cp,hg⟩|⟨rfl,hg⟩
 ·obtain⟨cap,h1,h2,h3⟩:=RV.rP hv hg;obtain⟨f1,f2,f3⟩:=gF (P:=P) true kQ jD zP ev h2;refine Good.val hh ?_ (J3 (RV.cV hv) hg f2 f3 h2 h3);simp only[execOp,ho,h1,Instr.sliceAt,Sem.run_bind,run_underlying ht,Result.andThen_ok,Instr.slice,ab',f1,cC hs,Sem.run_pure];grind[Addr.gD]
 ·obtain⟨_,rfl,rfl,h1⟩:=RV.xe hv hg;obtain⟨f1,f2,f3⟩:=gF (P:=P) (cap:=0) true kQ jD zP ev (aaP _);have e1:h=0:=by omega
  have e2:l=0:=by omega
  subst e1;subst e2;rw[h1]at hv;refine Good.val (x:=.slice none 0 0) hh ?_ (by grind[yc]);simp[execOp,ho,h1,Instr.sliceAt,run_underlying ht,Instr.slice,f1,cC hs]
theorem M9{x hi mx:Operand}{lE P6:a_}(ho:o.op=.slice t x none (some hi) (some mx))(ht:P.underlying t=some (.slice el))(hs:gB P el=some sz)(hx:ar x=some x')(jD:ar hi=some lE)(J4:ar mx=some P6)(e:ρ x'=.d (.list es))(hl:es.all (fun e=>Nat.beq e.length sz)=true)(h1:ct (ρ lE)=some h)(h2:ct (ρ P6)=some h)(hb:h<=es.length)(ev:Ev ρ a g w)(hh:az g w H):Good P a o g w ns (.full (es.take h)) H:=by
 have hv:=ev _ _ hx;rw[e]at hv;obtain⟨k1,U3⟩:=ew h1 (ev _ _ jD);obtain⟨k2,tP⟩:=ew h2 (ev _ _ J4);have zP:∀{len cap:Nat},h<=cap->(Instr.sliceBounds true len cap none (some (a.eval hi)) (some (a.eval mx))).run P w=.ok (0,h,h) w:=by intro len cap hc;simp only[Instr.sliceBounds,U3,tP,Sem.run_bind,nS _ hc,Result.andThen_ok,nS _ (aaP h),Sem.run_pure]
 rcases RV.list hv (yg hl)with⟨rfl,hn⟩|⟨aU,off,cap,h3,h4,h5,h6⟩
 ·have h0:h=0:=by grind
  subst h0;rcases hn with hn|⟨a0,c0,hn⟩
  ·refine Good.val (x:=.slice none 0 0) hh ?_ (by simp[RV,Rd]);simp only[execOp,ho,hn,aaU,ab',Instr.sliceAt,Sem.run_bind,run_underlying ht,Result.andThen_ok,Instr.slice,zP (aaP 0),cC hs,Sem.run_pure];rfl
  ·refine Good.val (x:=.slice (some a0) 0 0) hh ?_ ?_
   ·simp only[execOp,ho,hn,aaU,ab',Instr.sliceAt,Sem.run_bind,run_underlying ht,Result.andThen_ok,Instr.slice,zP (aby c0),cC hs,Sem.run_pure];rfl
   grind[RV,Rd,List.length_nil]
 ·have hlen:(es.take h).length=h:=by grind
  refine Good.val (x:=.slice (some ⟨aU,off,none⟩) h h) hh ?_ ?_
  ·simp only[execOp,ho,h3,aaU,ab',Instr.sliceAt,Sem.run_bind,run_underlying ht,Result.andThen_ok,Instr.slice,zP (show h<=cap by omega),cC hs,Sem.run_pure];grind[Addr.gD]
  ·simp only[RV,Rd];refine⟨.inr ⟨aU,off,h,sz,by rw[hlen],by omega,fun hn=>h5 (fun h7=>hn (by grind)),?_ ⟩,_,by rw[hlen]⟩;refine iu.iy fun i e' he=>?_
   rw[abI]at he;split at he
   ·exact iu.get i h6 he
   ·cases he
theorem E_{x:Operand}{lo:Option Operand}(ho:o.op=.slice t x lo hi none)(ht:P.underlying t=some (.slice el))(hs:gB P el=some sz)(hx:ar x=some x')(kQ:cW lo=some DA)(jD:cW hi=some lE)(e:ρ x'=.ad)(zP:bounds ρ 0 DA lE=some (l,h))(ev:Ev ρ a g w)(hh:az g w H):Good P a o g w ns .ad H:=by
 have hv:=ev _ _ hx;rw[e]at hv;simp only[RV]at hv;obtain⟨f1,f2,f3⟩:=gF (P:=P) (cap:=0) true kQ jD zP ev (aaP _);have e1:h=0:=by omega
 have e2:l=0:=by omega
 subst e1;subst e2;refine Good.val (x:=.slice none 0 0) hh ?_ (by simp only[RV]);simp[execOp,ho,hv,Instr.sliceAt,run_underlying ht,Instr.slice,f1,cC hs]
end
end Fw
