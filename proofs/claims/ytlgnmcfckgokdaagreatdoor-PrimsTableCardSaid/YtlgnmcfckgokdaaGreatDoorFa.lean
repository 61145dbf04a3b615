/-
  The abstract machine: data, values, own boxes, the operations as they are used here, and what each of them computes.
-/
import Derived.Orders
import Derived.KernelRfl
import Derived.Below
import Derived.Laws.AppendOwn
import Derived.Laws.CopyRow
import Derived.Laws.Entries
import Derived.Laws.Append
import Derived.Lib.Strings

namespace Fw
open Go
inductive D where
  | bool (b : Bool)
  | int (k : IntKind) (n : Int)
  | str (s : List UInt8)
  | list (es : List (List D))
 deriving Inhabited
inductive V where
  | any
  | d (x : D)
  | nils
  | ptr (b h off : Nat)
  | nilp
  | cptr (cs : List D)
  | sl (b h off len sz : Nat)
  | map (b : Nat)
  | nilm
  | func (f : FuncId) (first cap : List V)
  | nilf
  | iface (t : TypeId) (v : V)
  | someIface
  | nili
  | agg (cs : List V)
  | tuple (vs : List V)
  | iter (b m : Nat)
 deriving Inhabited
def okC : V → Bool
  | .any => false
  | .agg _ => false
  | .tuple _ => false
  | _ => true
inductive Box where
  | cells (cs : List V)
  | nil
  | map (es : List (D × V))
  | siter (s : List UInt8) (pos : Nat)
  | miter (m n : Nat) (seen : List Nat)
 deriving Inhabited
abbrev Heap := List (Option Box)
inductive Opd where
  | t (n : Nat)
  | c (v : V)
  | g (n : Nat)
  | f (n : FuncId)
 deriving Inhabited
inductive LenKind where
  | str | slice | map | arr (n : Nat)
 deriving Inhabited
inductive KeyKind where
  | int | str | bool
 deriving Inhabited
inductive EqKind where
  | bool | ptr | iface | slice | func
 deriving Inhabited
inductive IOp where
  | mv (x : Opd)
  | pick (c a b : Opd)
  | alloc (z : List V)
  | box (n : Nat) (x : Opd)
  | build (z : List V) (ps : List (Nat × Nat × Opd))
  | mkSlice (sz : Nat) (len : Nat) (z : List V) (ps : List (Nat × Nat × Opd))
  | load (n : Nat) (agg : Bool) (a : Opd)
  | store (n : Nat) (a x : Opd)
  | nilchk (x : Opd)
  | bin (op : BinOp) (x y : Opd)
  | eq (neg : Bool) (k : EqKind) (x y : Opd)
  | eqS (neg : Bool) (ks : List KeyKind) (x y : Opd)
  | un (op : UnOp) (x : Opd)
  | conv (k : IntKind) (x : Opd)
  | same (x : Opd)
  | strToBytes (x : Opd)
  | mkfunc (f : FuncId) (first cap : List Opd)
  | mkmap
  | sslice (x : Opd) (lo hi : Option Opd)
  | lslice (sz : Nat) (x : Opd) (lo hi : Option Opd)
  | aslice (n sz : Nat) (x : Opd) (lo hi : Option Opd)
  | fld (off n : Nat) (agg : Bool) (x : Opd)
  | faddr (off n : Nat) (x : Opd)
  | iaddr (sz : Nat) (x i : Opd)
  | iaddrA (len sz : Nat) (x i : Opd)
  | idxS (x i : Opd)
  | idxA (len sz : Nat) (agg : Bool) (x i : Opd)
  | ext (x : Opd) (i : Nat)
  | len (k : LenKind) (x : Opd)
  | append (sz bytes : Nat) (x y : Opd)
  | mkRow (sz bytes : Nat) (z : List V) (l c : Opd)
  | cap (x : Opd)
  | appendN (sz bytes : Nat) (z : List V) (x n : Opd)
  | lookup (kk : KeyKind) (z : V) (ok : Bool) (m k : Opd)
  | mapUpd (kk : KeyKind) (m k x : Opd)
  | range (isMap : Bool) (x : Opd)
  | nextS (x : Opd)
  | nextM (x : Opd)
  | entry (x : Opd)
  | mkiface (t : TypeId) (x : Opd)
  | minmax (isMax : Bool) (xs : List Opd)
  | call (f : FuncId) (args : List Opd)
  | callv (x : Opd) (args : List Opd)
  | bad
 deriving Inhabited
structure IOper where
  dst : Option Nat
  op : IOp
  guard : Option (Nat × Bool)
  after : List Nat := []
 deriving Inhabited
inductive IR where
  | skip
  | region (ops : List IOper)
  | draw (ops : List IOper)
  | seq (a b : IR)
  | cond (c : Opd) (a b : IR)
  | block (id : Nat) (b : IR)
  | loop (b : IR)
  | exit (id : Nat)
  | ret
 deriving Inhabited
inductive IRes where
  | t (n : Nat)
  | cell (n : Nat) (size : Nat) (agg : Bool)
 deriving Inhabited
structure IFn where
  nparams : Nat
  ntmps : Nat
  res : List IRes
  body : IR
 deriving Inhabited
def get : List (Nat × V) → Nat → V
  | [], _ => .any
  | (s, u) :: l, t => bif Nat.beq s t then u else get l t
def put : List (Nat × V) → Nat → V → List (Nat × V)
  | [], t, v => [(t, v)]
  | (s, u) :: l, t, v => bif Nat.beq s t then (t, v) :: l else bif Nat.ble t s then (t, v) :: (s, u) :: l else (s, u) :: put l t v
structure St where
  n : Nat
  tm : List (Nat × V)
  hp : Heap
 deriving Inhabited
def hget : Heap → Nat → Option Box
  | [], _ => none
  | b :: _, 0 => b
  | _ :: l, n + 1 => hget l n
def hput : Heap → Nat → Box → Heap
  | [], 0, x => [some x]
  | [], n + 1, x => none :: hput [] n x
  | _ :: l, 0, x => some x :: l
  | b :: l, n + 1, x => b :: hput l n x
abbrev Wr := Option (Nat × Box)
def happ (H : Heap) : Wr → Heap
  | none => H
  | some (b, x) => hput H b x
structure GLT where
  rd : Nat → Option (List D)
  w0 : World
def evo (GL : GLT) (tm : List (Nat × V)) : Opd → V
  | .t n => get tm n
  | .c v => v
  | .g n => match GL.rd n with | some cs => .cptr cs | none => .any
  | .f f => .func f [] []
def mkV (agg : Bool) (cs : List V) : Option V :=
  bif agg then some (V.agg cs) else match cs with | [v] => some v | _ => none
def cellsV : V → List V
  | .agg cs => cs
  | v => [v]
def chunk (sz : Nat) : Nat → List D → List (List D)
  | 0, _ => []
  | n + 1, l => l.take sz :: chunk sz n (l.drop sz)
def dcells : List V → Option (List D)
  | [] => some []
  | .d x :: l => (dcells l).map (x :: ·)
  | .nils :: l => (dcells l).map (.list [] :: ·)
  | _ => none
def mapO {α β : Type} (f : α → Option β) : List α → Option (List β)
  | [] => some []
  | x :: xs => match f x with
    | none => none
    | some y => match mapO f xs with
      | none => none
      | some ys => some (y :: ys)
def deepC (H : Heap) : Nat → V → Option D
  | _, .d x => some x
  | _, .nils => some (.list [])
  | f + 1, .sl b h off len sz =>
    match hget H b with
    | some (.cells cs) =>
      bif Nat.beq cs.length h && Nat.ble (off + len * sz) h then
        match mapO (deepC H f) ((cs.drop off).take (len * sz)) with
        | some l => some (.list (chunk sz len l))
        | none => none
      else none
    | some .nil => bif Nat.beq len 0 then some (.list []) else none
    | _ => none
  | _, _ => none
def deepFuel : Nat := 6
def deepA (H : Heap) : V → Option V
  | .agg cs => match mapO (deepC H deepFuel) cs with
    | some l => some (.agg (l.map V.d))
    | none => none
  | .nili => some .nili
  | .someIface => some .someIface
  | .nilp => some .nilp
  | v => match deepC H deepFuel v with
    | some x => some (.d x)
    | none => none
def deepV (H : Heap) : V → Option V
  | .tuple vs => match mapO (deepA H) vs with
    | some l => some (.tuple l)
    | none => none
  | v => deepA H v
def bytesLess : List UInt8 → List UInt8 → Bool
  | _, [] => false
  | [], _ :: _ => true
  | a :: x, b :: y => bif Nat.blt a.toNat b.toNat then true else bif Nat.beq a.toNat b.toNat then bytesLess x y else false
def bytesEq : List UInt8 → List UInt8 → Bool
  | [], [] => true
  | a :: x, b :: y => bif Nat.beq a.toNat b.toNat then bytesEq x y else false
  | _, _ => false
def binI (op : BinOp) (k : IntKind) (a b : Int) : Option D :=
  match op with
  | .add => some (.int k (k.wrap (a + b)))
  | .sub => some (.int k (k.wrap (a - b)))
  | .mul => some (.int k (k.wrap (a * b)))
  | .quo => if b = 0 then none else some (.int k (k.wrap (a.tdiv b)))
  | .rem => if b = 0 then none else some (.int k (a.tmod b))
  | .eql => some (.bool (a == b))
  | .neq => some (.bool (a != b))
  | .lss => some (.bool (decide (a < b)))
  | .leq => some (.bool (decide (a ≤ b)))
  | .gtr => some (.bool (decide (b < a)))
  | .geq => some (.bool (decide (b ≤ a)))
  | _ => none
def maxStr : Nat := 2 ^ 62
def binS (op : BinOp) (a b : List UInt8) : Option D :=
  match op with
  | .add => if a.length + b.length ≤ maxStr then some (.str (a ++ b)) else none
  | .eql => some (.bool (bytesEq a b))
  | .neq => some (.bool (!bytesEq a b))
  | .lss => some (.bool (bytesLess a b))
  | .leq => some (.bool (bytesLess a b || bytesEq a b))
  | .gtr => some (.bool !(bytesLess a b || bytesEq a b))
  | .geq => some (.bool !bytesLess a b)
  | _ => none
def binD (op : BinOp) : V → V → Option V
  | .d (.int k a), .d (.int k' b) => if k = k' then (binI op k a b).map .d else none
  | .d (.str a), .d (.str b) => (binS op a b).map .d
  | _, _ => none
def dEq : D → D → Option Bool
  | .int k a, .int k' b => if k = k' then some (a == b) else none
  | .str a, .str b => some (bytesEq a b)
  | .bool a, .bool b => some (a == b)
  | _, _ => none
def keyIs : KeyKind → D → Bool
  | .int, .int _ _ => true
  | .str, .str _ => true
  | .bool, .bool _ => true
  | _, _ => false
def eqRow : List KeyKind → List V → List V → Option Bool
  | [], [], [] => some true
  | k :: ks, .d x :: xs, .d y :: ys => bif keyIs k x then match dEq x y with
      | some true => eqRow ks xs ys
      | some false => some false
      | none => none
    else none
  | _, _, _ => none
def nilB (H : Heap) (b h : Nat) : Option Bool :=
  match hget H b with
  | some (.cells cs) => bif Nat.beq cs.length h then some false else none
  | some .nil => bif Nat.beq h 0 then some true else none
  | _ => none
def eqV (H : Heap) (k : EqKind) (x y : V) : Option Bool :=
  match k, x, y with
  | .slice, .sl b h _ _ _, .nils => nilB H b h
  | .slice, .nils, .sl b h _ _ _ => nilB H b h
  | .ptr, .nilp, .ptr _ _ _ => some false
  | .ptr, .ptr _ _ _, .nilp => some false
  | .func, .func _ _ _, .nilf => some false
  | .func, .nilf, .nilf => some true
  | .bool, .d (.bool a), .d (.bool b) => some (a == b)
  | .ptr, .nilp, .nilp => some true
  | .ptr, .nilp, .cptr _ => some false
  | .ptr, .cptr _, .nilp => some false
  | .iface, .nili, .nili => some true
  | .iface, .someIface, .nili => some false
  | .iface, .nili, .someIface => some false
  | .iface, .iface _ _, .nili => some false
  | .iface, .nili, .iface _ _ => some false
  | .slice, .nils, .nils => some true
  | .slice, .d (.list (_ :: _)), .nils => some false
  | .slice, .nils, .d (.list (_ :: _)) => some false
  | _, _, _ => none
def unV (op : UnOp) : V → Option V
  | .d (.int k a) => match op with
    | .neg => some (.d (.int k (k.wrap (0 - a))))
    | _ => none
  | .d (.bool b) => match op with
    | .not => some (.d (.bool !b))
    | _ => none
  | _ => none
def putCells {α : Type} : List α → Nat → List α → List α
  | l, _, [] => l
  | l, i, v :: vs => putCells (l.set i v) (i + 1) vs
def fillC (ρ : Opd → V) : List V → List (Nat × Nat × Opd) → Option (List V)
  | cs, [] => some cs
  | cs, (off, size, x) :: ps =>
    let vs := cellsV (ρ x)
    bif Nat.beq vs.length size && Nat.ble (off + size) cs.length && vs.all okC then fillC ρ (putCells cs off vs) ps else none
def loadC (H : Heap) (n : Nat) : V → Option (List V)
  | .ptr b h off =>
    match hget H b with
    | some (.cells cs) => bif Nat.beq cs.length h && Nat.ble (off + n) h then some ((cs.drop off).take n) else none
    | _ => none
  | .cptr cs => bif Nat.ble n cs.length then some ((cs.take n).map .d) else none
  | _ => none
def storeC (H : Heap) (n : Nat) (a x : V) : Option (Nat × Box) :=
  match a with
  | .ptr b h off =>
    match hget H b with
    | some (.cells cs) =>
      bif Nat.beq cs.length h && Nat.ble (off + n) h && Nat.beq (cellsV x).length n && (cellsV x).all okC then some (b, .cells (putCells cs off (cellsV x))) else none
    | _ => none
  | _ => none
def sliceC (H : Heap) (sz : Nat) : V → Option (List V)
  | .nils => some []
  | .d (.list es) => bif es.all (fun e => Nat.beq e.length sz) then some (es.flatten.map .d) else none
  | .d (.str s) => bif Nat.beq sz 1 then some (s.map fun b => .d (.int .u8 b.toNat)) else none
  | .sl b h off len sz' =>
    bif Nat.beq sz sz' then
      match hget H b with
      | some (.cells cs) => bif Nat.beq cs.length h && Nat.ble (off + len * sz) h then some ((cs.drop off).take (len * sz)) else none
      | some .nil => bif Nat.beq len 0 then some [] else none
      | _ => none
    else none
  | _ => none
def natOf : V → Option Nat
  | .d (.int _ n) => if 0 ≤ n then some n.toNat else none
  | _ => none
def liveB (H : Heap) (b h : Nat) : Bool :=
  match hget H b with
  | some (.cells cs) => Nat.beq cs.length h
  | some .nil => Nat.beq h 0
  | _ => false
def lenV (H : Heap) (k : LenKind) : V → Option Nat
  | .d (.str s) => match k with | .str => some s.length | _ => none
  | .d (.list es) => match k with | .slice => some es.length | _ => none
  | .nils => match k with | .slice => some 0 | _ => none
  | .sl b h _ len _ => match k with | .slice => bif liveB H b h then some len else none | _ => none
  | .nilm => match k with | .map => some 0 | _ => none
  | .map b => match k, hget H b with | .map, some (.map es) => some es.length | _, _ => none
  | _ => none
def roomB : Nat := 2 ^ 40
def appendV (H : Heap) (ns sz bytes : Nat) (x : V) (xs : List V) : Option (V × Wr) :=
  bif Nat.beq sz 0 then none else
  bif !(Nat.beq (xs.length % sz) 0) then none else
  bif !(xs.all okC) then none else
  match x with
  | .nils =>
    match xs with
    | [] => some (.nils, none)
    | _ => bif Nat.ble (xs.length * (bytes + 1)) roomB then some (.sl ns xs.length 0 (xs.length / sz) sz, some (ns, .cells xs)) else none
  | .sl b h off len sz' =>
    bif Nat.beq sz sz' then
      match hget H b with
      | some (.cells cs) =>
        bif Nat.beq cs.length h && Nat.beq off 0 && Nat.beq (len * sz) h && Nat.ble ((h + xs.length) * (bytes + 1)) roomB then
          some (.sl b (h + xs.length) 0 (len + xs.length / sz) sz, some (b, .cells (cs ++ xs)))
        else none
      | some .nil =>
        bif Nat.beq h 0 && Nat.beq off 0 && Nat.beq len 0 then
          match xs with
          | [] => some (x, none)
          | _ => bif Nat.ble (xs.length * (bytes + 1)) roomB then some (.sl b xs.length 0 (xs.length / sz) sz, some (b, .cells xs)) else none
        else none
      | _ => none
    else none
  | _ => none
def bounds (ρ : Opd → V) (len : Nat) (lo hi : Option Opd) : Option (Nat × Nat) :=
  match (match hi with | some x => natOf (ρ x) | none => some len) with
  | none => none
  | some h => match (match lo with | some x => natOf (ρ x) | none => some 0) with
    | none => none
    | some l => bif Nat.ble l h && Nat.ble h len then some (l, h) else none
def mfind (k : D) : List (D × V) → Nat → Option (Option (Nat × V))
  | [], _ => some none
  | (x, v) :: es, i => match dEq k x with
    | some true => some (some (i, v))
    | some false => mfind k es (i + 1)
    | none => none
def mapEs (H : Heap) : V → Option (List (D × V))
  | .nilm => some []
  | .map b => match hget H b with | some (.map es) => some es | _ => none
  | _ => none
def mlist (ρ : Opd → V) : List Opd → List V
  | [] => []
  | x :: xs => ρ x :: mlist ρ xs
def foldMM (isMax : Bool) : Int → List V → IntKind → Option Int
  | a, [], _ => some a
  | a, .d (.int k b) :: l, k' => if k = k' then foldMM isMax (if isMax then (if a < b then b else a) else (if b < a then b else a)) l k' else none
  | _, _, _ => none
def cutS (b hh off sz l h : Nat) : V := bif Nat.beq l h && !(Nat.beq l 0) then .d (.list []) else .sl b hh (off + l * sz) (h - l) sz
def eff (ρ : Opd → V) (H : Heap) (ns : Nat) : IOp → Option (V × Wr)
  | .mv x => some (ρ x, none)
  | .pick c a b => match ρ c with
    | .d (.bool t) => some (bif t then ρ a else ρ b, none)
    | _ => none
  | .alloc z => some (.ptr ns z.length 0, some (ns, .cells z))
  | .box n x =>
    let cs := cellsV (ρ x)
    bif Nat.beq cs.length n && cs.all okC then some (.ptr ns n 0, some (ns, .cells cs)) else none
  | .build z ps => (fillC ρ z ps).map fun cs => (.agg cs, none)
  | .mkSlice sz len z ps =>
    bif Nat.beq z.length (len * sz) && z.all okC then (fillC ρ z ps).map fun cs => (.sl ns (len * sz) 0 len sz, some (ns, .cells cs)) else none
  | .load n agg a => match loadC H n (ρ a) with
    | some cs => (mkV agg cs).map fun v => (v, none)
    | none => none
  | .store n a x => (storeC H n (ρ a) (ρ x)).map fun p => (.any, some p)
  | .nilchk x => match ρ x with
    | .ptr b h off => some (.ptr b h off, none)
    | .cptr cs => some (.cptr cs, none)
    | .func f a b => some (.func f a b, none)
    | _ => none
  | .bin op x y => (binD op (ρ x) (ρ y)).map fun v => (v, none)
  | .eq neg k x y => (eqV H k (ρ x) (ρ y)).map fun b => (.d (.bool (bif neg then !b else b)), none)
  | .eqS neg ks x y => match ρ x with
    | .agg a => match ρ y with
      | .agg b => match eqRow ks a b with
        | some r => some (.d (.bool (bif neg then !r else r)), none)
        | none => none
      | _ => none
    | _ => none
  | .un op x => (unV op (ρ x)).map fun v => (v, none)
  | .conv k x => match ρ x with
    | .d (.int _ n) => some (.d (.int k (k.wrap n)), none)
    | _ => none
  | .same x => match ρ x with
    | .d (.str s) => some (.d (.str s), none)
    | _ => none
  | .strToBytes x => match ρ x with
    | .d (.str s) => some (.d (.list (s.map fun b => [.int .u8 b.toNat])), none)
    | _ => none
  | .mkRow sz bytes z l c => match natOf (ρ l), natOf (ρ c) with
    | some l, some c => bif Nat.ble l c && Nat.ble (c * (bytes + 1)) roomB && Nat.ble c roomB && z.all okC && Nat.beq z.length sz && Nat.blt 0 sz then
        some (.sl ns (l * sz) 0 l sz, some (ns, .cells ((List.range (l * sz)).map fun i => z.getD (i % sz) .any))) else none
    | _, _ => none
  | .cap x => match ρ x with
    | .nils => some (.d (.int .i64 0), none)
    | _ => none
  | .appendN sz bytes z x n => match ρ x, natOf (ρ n) with
    | .nils, some n => bif Nat.blt 0 n && Nat.ble (n * (bytes + 1)) roomB && Nat.ble n roomB && z.all okC && Nat.beq z.length sz && Nat.blt 0 sz then
        some (.sl ns (n * sz) 0 n sz, some (ns, .cells ((List.range (n * sz)).map fun i => z.getD (i % sz) .any))) else none
    | _, _ => none
  | .mkfunc f a b => some (.func f (mlist ρ a) (mlist ρ b), none)
  | .mkmap => some (.map ns, some (ns, .map []))
  | .range m x => bif m then match ρ x with
      | .map b => match hget H b with
        | some (.map es) => some (.iter ns b, some (ns, .miter b es.length []))
        | _ => none
      | _ => none
    else none
  | .entry x => match ρ x with
    | .iter b m => match hget H b with
      | some (.miter m' n seen) => match hget H m with
        | some (.map es) => bif Nat.beq m' m && Nat.beq es.length n then match seen.getLast? with
            | some i => match es[i]? with
              | some (k, v) => some (.tuple [.d k, v], none)
              | none => none
            | none => none
          else none
        | _ => none
      | _ => none
    | _ => none
  | .sslice x lo hi => match ρ x with
    | .d (.str s) => (bounds ρ s.length lo hi).map fun (l, h) => (.d (.str ((s.take h).drop l)), none)
    | _ => none
  | .lslice sz x lo hi => match ρ x with
    | .d (.list es) => bif es.all (fun e => Nat.beq e.length sz) then (bounds ρ es.length lo hi).map fun (l, h) => (.d (.list ((es.take h).drop l)), none) else none
    | .sl b hh off len sz' => bif Nat.beq sz sz' && liveB H b hh then (bounds ρ len lo hi).map fun (l, h) => (cutS b hh off sz l h, none) else none
    | .nils => (bounds ρ 0 lo hi).map fun _ => (.nils, none)
    | _ => none
  | .aslice n sz x lo hi => match ρ x with
    | .ptr b hh off => bif liveB H b hh && Nat.ble (off + n * sz) hh && Nat.blt 0 hh then (bounds ρ n lo hi).map fun (l, h) => (cutS b hh off sz l h, none) else none
    | _ => none
  | .fld off n agg x => match ρ x with
    | .agg cs => bif Nat.ble (off + n) cs.length then (mkV agg ((cs.drop off).take n)).map fun v => (v, none) else none
    | _ => none
  | .faddr off n x => match ρ x with
    | .ptr b h o => some (.ptr b h (o + off), none)
    | .cptr cs => some (.cptr ((cs.drop off).take n), none)
    | _ => none
  | .iaddr sz x i => match natOf (ρ i) with
    | none => none
    | some j => match ρ x with
      | .d (.list es) => match es[j]? with
        | some e => bif Nat.beq e.length sz then some (.cptr e, none) else none
        | none => none
      | .sl b h off len sz' => bif Nat.beq sz sz' && Nat.blt j len && liveB H b h then some (.ptr b h (off + j * sz), none) else none
      | _ => none
  | .iaddrA len sz x i => match natOf (ρ i) with
    | none => none
    | some j => bif Nat.blt j len then match ρ x with
      | .ptr b h off => some (.ptr b h (off + j * sz), none)
      | .cptr cs => some (.cptr (cs.drop (j * sz)), none)
      | _ => none
      else none
  | .idxS x i => match natOf (ρ i) with
    | none => none
    | some j => match ρ x with
      | .d (.str s) => match s[j]? with
        | some b => some (.d (.int .u8 b.toNat), none)
        | none => none
      | _ => none
  | .idxA len sz agg x i => match natOf (ρ i) with
    | none => none
    | some j => match ρ x with
      | .agg cs => bif Nat.blt j len && Nat.ble (len * sz) cs.length then (mkV agg ((cs.drop (j * sz)).take sz)).map fun v => (v, none) else none
      | _ => none
  | .ext x i => match ρ x with
    | .tuple vs => vs[i]?.map fun v => (v, none)
    | _ => none
  | .len k x => match k with
    | .arr n => some (.d (.int .i64 n), none)
    | k => match lenV H k (ρ x) with
      | some n => some (.d (.int .i64 (n : Nat)), none)
      | none => none
  | .append sz bytes x y => match sliceC H sz (ρ y) with
    | some xs => appendV H ns sz bytes (ρ x) xs
    | none => none
  | .mkiface t x => some (.iface t (ρ x), none)
  | .minmax isMax xs => match mlist ρ xs with
    | .d (.int k a) :: l => (foldMM isMax a l k).map fun n => (.d (.int k n), none)
    | _ => none
  | .lookup kk z ok m k => match ρ k with
    | .d kd => bif keyIs kk kd then match mapEs H (ρ m) with
      | some es => match mfind kd es 0 with
        | some (some (_, v)) => some (bif ok then .tuple [v, .d (.bool true)] else v, none)
        | some none => some (bif ok then .tuple [z, .d (.bool false)] else z, none)
        | none => none
      | none => none
      else none
    | _ => none
  | .mapUpd kk m k x => match ρ m, ρ k with
    | .map b, .d kd => bif keyIs kk kd then match hget H b with
      | some (.map es) => match mfind kd es 0 with
        | some (some (i, _)) => some (.any, some (b, .map (es.set i (kd, ρ x))))
        | some none => some (.any, some (b, .map (es ++ [(kd, ρ x)])))
        | none => none
      | _ => none
      else none
    | _, _ => none
  | _ => none
end Fw

/-
  What a value of the abstract machine says of a value of the model: the relation, and what keeps it.
-/
namespace Fw
open Go
mutual
def Rd (w : World) (im : Nat → Prop) : D → Value → Prop
  | .bool b, v => v = .bool b
  | .int k n, v => v = .int k n
  | .str l, v => ∃ s : ByteArray, v = .string s ∧ s.data.toList = l
  | .list es, v => (es = [] ∧ v = .slice none 0 0) ∨
      ∃ blk off cap sz, v = .slice (some ⟨blk, off, none⟩) es.length cap ∧ es.length ≤ cap ∧ (es ≠ [] → im blk) ∧ RdE w im blk off sz es
def RdE (w : World) (im : Nat → Prop) (blk off sz : Nat) : List (List D) → Prop
  | [] => True
  | e :: es => e.length = sz ∧ RdC w im blk off e ∧ RdE w im blk (off + sz) sz es
def RdC (w : World) (im : Nat → Prop) (blk off : Nat) : List D → Prop
  | [] => True
  | d :: ds => (∃ v, w.cell? ⟨blk, off, none⟩ = some v ∧ Rd w im d v) ∧ RdC w im blk (off + 1) ds
end
def Keeps (w w' : World) (im im' : Nat → Prop) : Prop := ∀ k, im k → im' k ∧ w'.heap[k]? = w.heap[k]?
theorem Keeps.cell {w w' : World} {im im' : Nat → Prop} (h : Keeps w w' im im') {k o : Nat} (hk : im k) : w'.cell? ⟨k, o, none⟩ = w.cell? ⟨k, o, none⟩ := by
  have := (h k hk).2
  simp [World.cell?, this]
mutual
theorem Rd.keeps {w w' : World} {im im' : Nat → Prop} (h : Keeps w w' im im') : ∀ (d : D) (v : Value), Rd w im d v → Rd w' im' d v
  | .bool _, _, hd => by simpa only [Rd] using hd
  | .int _ _, _, hd => by simpa only [Rd] using hd
  | .str _, _, hd => by simpa only [Rd] using hd
  | .list es, v, hd => by
    simp only [Rd] at hd ⊢
    rcases hd with hd | ⟨blk, off, cap, sz, h1, h2, h3, h4⟩
    · exact .inl hd
    · refine .inr ⟨blk, off, cap, sz, h1, h2, fun hn => (h _ (h3 hn)).1, ?_⟩
      cases es with
      | nil => simp only [RdE]
      | cons e es => exact RdE.keeps h (h3 (by simp)) _ _ _ h4
theorem RdE.keeps {w w' : World} {im im' : Nat → Prop} (h : Keeps w w' im im') {blk : Nat} (hb : im blk) : ∀ (off sz : Nat) (es : List (List D)), RdE w im blk off sz es → RdE w' im' blk off sz es
  | _, _, [], _ => by simp only [RdE]
  | off, sz, e :: es, hd => by
    simp only [RdE] at hd ⊢
    exact ⟨hd.1, RdC.keeps h hb _ _ hd.2.1, RdE.keeps h hb _ _ _ hd.2.2⟩
theorem RdC.keeps {w w' : World} {im im' : Nat → Prop} (h : Keeps w w' im im') {blk : Nat} (hb : im blk) : ∀ (off : Nat) (ds : List D), RdC w im blk off ds → RdC w' im' blk off ds
  | _, [], _ => by simp only [RdC]
  | off, d :: ds, hd => by
    simp only [RdC] at hd ⊢
    obtain ⟨⟨v, h1, h2⟩, h3⟩ := hd
    exact ⟨⟨v, by rw [h.cell hb]; exact h1, Rd.keeps h _ _ h2⟩, RdC.keeps h hb _ _ h3⟩
end
inductive GB where
  | cells (blk cp cur : Nat)
  | nil
  | obj (blk : Nat)
def GB.own : GB → Option Nat
  | .cells b _ _ => some b
  | .nil => none
  | .obj b => some b
structure G where
  dom : Nat → Prop
  γ : Nat → Option GB
  fo : Nat → Prop
def imm (g : G) (w : World) (k : Nat) : Prop := k < w.heap.size ∧ ¬ g.fo k ∧ ∀ b x, g.γ b = some x → x.own ≠ some k
mutual
def RV (g : G) (w : World) : V → Value → Prop
  | .any, _ => True
  | .d x, v => Rd w (imm g w) x v
  | .nils, v => v = .slice none 0 0
  | .ptr b h off, v => ((∃ blk o, v = .pointer (some ⟨blk, o, none⟩)) ∧ g.dom b) ∧ ∀ x, g.γ b = some x → ∃ blk cp cur, x = .cells blk cp cur ∧ (cur = h → v = .pointer (some ⟨blk, off, none⟩)) ∧ h ≤ cur
  | .nilp, v => v = .pointer none
  | .cptr cs, v => ∃ blk off, v = .pointer (some ⟨blk, off, none⟩) ∧ (cs ≠ [] → imm g w blk) ∧ RdC w (imm g w) blk off cs
  | .sl b h off len sz, v => (v.oneCell' = true ∧ g.dom b) ∧ ∀ x, g.γ b = some x → match x with
      | .nil => h = 0 ∧ len = 0 ∧ off = 0 ∧ v = .slice none 0 0
      | .cells blk cp cur => h ≤ cur ∧ (cur = h → ∃ cap, v = .slice (some ⟨blk, off, none⟩) len cap ∧ len ≤ cap ∧ off + cap * sz ≤ cp)
      | .obj _ => False
  | .map b, v => (v.oneCell' = true ∧ g.dom b) ∧ ∀ x, g.γ b = some x → ∃ blk, x = .obj blk ∧ v = .map (some blk)
  | .nilm, v => v = .map none
  | .func f a c, v => ∃ x y, v = .func (.func f) x y ∧ RVs g w a x.toList ∧ RVs g w c y.toList
  | .nilf, v => v = .nilFunc
  | .iface t u, v => ∃ x, v = .iface t x ∧ RV g w u x
  | .someIface, v => ∃ t x, v = .iface t x
  | .nili, v => v = .nilIface
  | .agg cs, v => ∃ x, v = .agg x ∧ RVs g w cs x.toList
  | .tuple vs, v => ∃ x, v = .tuple x ∧ RVs g w vs x.toList
  | .iter b _, v => (v.oneCell' = true ∧ g.dom b) ∧ ∀ x, g.γ b = some x → ∃ blk, x = .obj blk ∧ v = .pointer (some ⟨blk, 0, none⟩)
def RVs (g : G) (w : World) : List V → List Value → Prop
  | [], [] => True
  | a :: as, b :: bs => RV g w a b ∧ RVs g w as bs
  | _, _ => False
end
def GB.step : Option GB → Option GB → Prop
  | _, none => True
  | none, some _ => False
  | some (.cells b c u), some x => x = .cells b c u ∨ ∃ b' c' u', x = .cells b' c' u' ∧ u < u'
  | some .nil, some x => x = .nil ∨ ∃ b' c' u', x = .cells b' c' u' ∧ 0 < u'
  | some (.obj b), some x => x = .obj b
theorem GB.step.refl : ∀ x, GB.step x x
  | none => trivial
  | some (.cells _ _ _) => .inl rfl
  | some .nil => .inl rfl
  | some (.obj _) => rfl
structure Ext (g : G) (w : World) (g' : G) (w' : World) : Prop where
  os : w'.os = w.os
  tape : w'.tape = w.tape
  output : w'.output = w.output
  size : w.heap.size ≤ w'.heap.size
  keeps : Keeps w w' (imm g w) (imm g' w')
  dom : ∀ b, g.dom b → g'.dom b
  step : ∀ b, g.dom b → GB.step (g.γ b) (g'.γ b)
  fo : g'.fo = g.fo
  foreign : ∀ k, g.fo k → w'.heap[k]? = w.heap[k]?
theorem Ext.refl (g : G) (w : World) : Ext g w g w := ⟨rfl, rfl, rfl, Nat.le_refl _, fun _ h => ⟨h, rfl⟩, fun _ h => h, fun _ _ => GB.step.refl _, rfl, fun _ _ => rfl⟩
theorem GB.step.trans : ∀ {x y z : Option GB}, GB.step x y → GB.step y z → GB.step x z
  | _, _, none, _, _ => by simp only [GB.step]
  | x, none, some z, _, h => by simp only [GB.step] at h
  | none, some y, _, h, _ => by simp only [GB.step] at h
  | some (.cells b c u), some y, some z, h1, h2 => by
    rcases h1 with rfl | ⟨b', c', u', rfl, hu⟩
    · exact h2
    · rcases h2 with rfl | ⟨b2, c2, u2, rfl, hu2⟩
      · exact .inr ⟨_, _, _, rfl, hu⟩
      · exact .inr ⟨_, _, _, rfl, by omega⟩
  | some .nil, some y, some z, h1, h2 => by
    rcases h1 with rfl | ⟨b', c', u', rfl, hu⟩
    · exact h2
    · rcases h2 with rfl | ⟨b2, c2, u2, rfl, hu2⟩
      · exact .inr ⟨_, _, _, rfl, hu⟩
      · exact .inr ⟨_, _, _, rfl, by omega⟩
  | some (.obj b), some y, some z, h1, h2 => by
    simp only [GB.step] at h1; subst h1; exact h2
theorem Ext.trans {g g' g'' : G} {w w' w'' : World} (h : Ext g w g' w') (k : Ext g' w' g'' w'') : Ext g w g'' w'' :=
  ⟨k.os.trans h.os, k.tape.trans h.tape, k.output.trans h.output, Nat.le_trans h.size k.size,
   fun b hb => ⟨(k.keeps b (h.keeps b hb).1).1, ((k.keeps b (h.keeps b hb).1).2).trans (h.keeps b hb).2⟩,
   fun b hb => k.dom b (h.dom b hb), fun b hb => (h.step b hb).trans (k.step b (h.dom b hb)), k.fo.trans h.fo,
   fun b hb => (k.foreign b (by rw [h.fo]; exact hb)).trans (h.foreign b hb)⟩
mutual
theorem RV.ext {g g' : G} {w w' : World} (h : Ext g w g' w') : ∀ (u : V) (v : Value), RV g w u v → RV g' w' u v
  | .any, _, _ => by simp only [RV]
  | .d x, v, hv => by
    simp only [RV] at hv ⊢
    exact Rd.keeps h.keeps _ _ hv
  | .nils, _, hv => by simpa only [RV] using hv
  | .ptr b hh off, v, hv => by
    simp only [RV] at hv ⊢
    refine ⟨⟨hv.1.1, h.dom b hv.1.2⟩, fun x hx => ?_⟩
    have hs := h.step b hv.1.2
    rw [hx] at hs
    cases hb : g.γ b with
    | none => rw [hb] at hs; exact hs.elim
    | some y =>
      obtain ⟨blk, cp, cur, rfl, h1, h2⟩ := hv.2 y hb
      rw [hb] at hs
      rcases hs with rfl | ⟨b', c', u', rfl, hu⟩
      · exact ⟨_, _, _, rfl, h1, h2⟩
      · exact ⟨_, _, _, rfl, fun e => by omega, by omega⟩
  | .nilp, _, hv => by simpa only [RV] using hv
  | .cptr cs, v, hv => by
    simp only [RV] at hv ⊢
    obtain ⟨blk, off, h1, h2, h3⟩ := hv
    refine ⟨blk, off, h1, fun hn => (h.keeps _ (h2 hn)).1, ?_⟩
    cases cs with
    | nil => simp only [RdC]
    | cons c cs => exact RdC.keeps h.keeps (h2 (by simp)) _ _ h3
  | .sl b hh off len sz, v, hv => by
    simp only [RV] at hv ⊢
    refine ⟨⟨hv.1.1, h.dom b hv.1.2⟩, fun x hx => ?_⟩
    have hs := h.step b hv.1.2
    rw [hx] at hs
    cases hb : g.γ b with
    | none => rw [hb] at hs; exact hs.elim
    | some y =>
      have hy := hv.2 y hb
      rw [hb] at hs
      cases y with
      | nil =>
        rcases hs with rfl | ⟨b', c', u', rfl, hu⟩
        · exact hy
        · exact ⟨by omega, fun e => by omega⟩
      | cells bb cc uu =>
        rcases hs with rfl | ⟨b', c', u', rfl, hu⟩
        · exact hy
        · exact ⟨by have := hy.1; omega, fun e => by have := hy.1; omega⟩
      | obj bb => exact hy.elim
  | .map b, v, hv => by
    simp only [RV] at hv ⊢
    refine ⟨⟨hv.1.1, h.dom b hv.1.2⟩, fun x hx => ?_⟩
    have hs := h.step b hv.1.2
    rw [hx] at hs
    cases hb : g.γ b with
    | none => rw [hb] at hs; exact hs.elim
    | some y =>
      obtain ⟨blk, rfl, h1⟩ := hv.2 y hb
      rw [hb] at hs
      simp only [GB.step] at hs
      exact ⟨blk, hs, h1⟩
  | .nilm, _, hv => by simpa only [RV] using hv
  | .func f a c, v, hv => by
    simp only [RV] at hv ⊢
    obtain ⟨x, y, h1, h2, h3⟩ := hv
    exact ⟨x, y, h1, RVs.ext h _ _ h2, RVs.ext h _ _ h3⟩
  | .nilf, _, hv => by simpa only [RV] using hv
  | .iface t u, v, hv => by
    simp only [RV] at hv ⊢
    obtain ⟨x, h1, h2⟩ := hv
    exact ⟨x, h1, RV.ext h _ _ h2⟩
  | .someIface, _, hv => by simpa only [RV] using hv
  | .nili, _, hv => by simpa only [RV] using hv
  | .agg cs, v, hv => by
    simp only [RV] at hv ⊢
    obtain ⟨x, h1, h2⟩ := hv
    exact ⟨x, h1, RVs.ext h _ _ h2⟩
  | .tuple vs, v, hv => by
    simp only [RV] at hv ⊢
    obtain ⟨x, h1, h2⟩ := hv
    exact ⟨x, h1, RVs.ext h _ _ h2⟩
  | .iter b _, v, hv => by
    simp only [RV] at hv ⊢
    refine ⟨⟨hv.1.1, h.dom b hv.1.2⟩, fun x hx => ?_⟩
    have hs := h.step b hv.1.2
    rw [hx] at hs
    cases hb : g.γ b with
    | none => rw [hb] at hs; exact hs.elim
    | some y =>
      obtain ⟨blk, rfl, h1⟩ := hv.2 y hb
      rw [hb] at hs
      simp only [GB.step] at hs
      exact ⟨blk, hs, h1⟩
theorem RVs.ext {g g' : G} {w w' : World} (h : Ext g w g' w') : ∀ (us : List V) (vs : List Value), RVs g w us vs → RVs g' w' us vs
  | [], [], _ => by simp only [RVs]
  | u :: us, v :: vs, hv => by
    simp only [RVs] at hv ⊢
    exact ⟨RV.ext h _ _ hv.1, RVs.ext h _ _ hv.2⟩
  | [], _ :: _, hv => by simp only [RVs] at hv
  | _ :: _, [], hv => by simp only [RVs] at hv
end
theorem RV.one {g : G} {w : World} : ∀ {u : V} {v : Value}, okC u = true → RV g w u v → v.oneCell' = true := by
  intro u v hu hv
  cases u with
  | any => simp [okC] at hu
  | agg => simp [okC] at hu
  | tuple => simp [okC] at hu
  | d x =>
    cases x with
    | bool => simp only [RV, Rd] at hv; subst hv; rfl
    | int => simp only [RV, Rd] at hv; subst hv; rfl
    | str => simp only [RV, Rd] at hv; obtain ⟨s, rfl, _⟩ := hv; rfl
    | list es =>
      simp only [RV, Rd] at hv
      rcases hv with ⟨_, rfl⟩ | ⟨_, _, _, _, rfl, _⟩ <;> rfl
  | nils => simp only [RV] at hv; subst hv; rfl
  | nilp => simp only [RV] at hv; subst hv; rfl
  | nilm => simp only [RV] at hv; subst hv; rfl
  | nilf => simp only [RV] at hv; subst hv; rfl
  | nili => simp only [RV] at hv; subst hv; rfl
  | cptr => simp only [RV] at hv; obtain ⟨_, _, rfl, _⟩ := hv; rfl
  | func => simp only [RV] at hv; obtain ⟨_, _, rfl, _⟩ := hv; rfl
  | iface => simp only [RV] at hv; obtain ⟨_, rfl, _⟩ := hv; rfl
  | someIface => simp only [RV] at hv; obtain ⟨_, _, rfl⟩ := hv; rfl
  | ptr => simp only [RV] at hv; obtain ⟨⟨⟨_, _, rfl⟩, _⟩, _⟩ := hv; rfl
  | sl => simp only [RV] at hv; exact hv.1.1
  | map => simp only [RV] at hv; exact hv.1.1
  | iter => simp only [RV] at hv; exact hv.1.1
theorem RVs.length {g : G} {w : World} : ∀ {us : List V} {vs : List Value}, RVs g w us vs → us.length = vs.length
  | [], [], _ => rfl
  | u :: us, v :: vs, h => by simp only [RVs] at h; simp [RVs.length h.2]
  | [], _ :: _, h => by simp only [RVs] at h
  | _ :: _, [], h => by simp only [RVs] at h
theorem RVs.get {g : G} {w : World} : ∀ {us : List V} {vs : List Value} (i : Nat) {u : V}, RVs g w us vs → us[i]? = some u → ∃ v, vs[i]? = some v ∧ RV g w u v
  | [], [], i, u, _, hu => by simp at hu
  | x :: us, v :: vs, 0, u, h, hu => by simp only [RVs] at h; simp at hu; subst hu; exact ⟨v, rfl, h.1⟩
  | x :: us, v :: vs, i + 1, u, h, hu => by simp only [RVs] at h; simp at hu ⊢; exact RVs.get i h.2 hu
  | [], _ :: _, _, _, h, _ => by simp only [RVs] at h
  | _ :: _, [], _, _, h, _ => by simp only [RVs] at h
theorem RVs.append {g : G} {w : World} : ∀ {us : List V} {vs : List Value} {us' : List V} {vs' : List Value}, RVs g w us vs → RVs g w us' vs' → RVs g w (us ++ us') (vs ++ vs')
  | [], [], _, _, _, h => by simpa using h
  | u :: us, v :: vs, _, _, h, h' => by simp only [RVs] at h; simp only [List.cons_append, RVs]; exact ⟨h.1, RVs.append h.2 h'⟩
  | [], _ :: _, _, _, h, _ => by simp only [RVs] at h
  | _ :: _, [], _, _, h, _ => by simp only [RVs] at h
theorem RVs.take {g : G} {w : World} : ∀ {us : List V} {vs : List Value} (n : Nat), RVs g w us vs → RVs g w (us.take n) (vs.take n)
  | [], [], n, _ => by simp [RVs]
  | u :: us, v :: vs, 0, h => by simp [RVs]
  | u :: us, v :: vs, n + 1, h => by simp only [RVs] at h; simp only [List.take_succ_cons, RVs]; exact ⟨h.1, RVs.take n h.2⟩
  | [], _ :: _, _, h => by simp only [RVs] at h
  | _ :: _, [], _, h => by simp only [RVs] at h
theorem RVs.drop {g : G} {w : World} : ∀ {us : List V} {vs : List Value} (n : Nat), RVs g w us vs → RVs g w (us.drop n) (vs.drop n)
  | [], [], n, _ => by simp [RVs]
  | u :: us, v :: vs, 0, h => by simpa using h
  | u :: us, v :: vs, n + 1, h => by simp only [RVs] at h; simp only [List.drop_succ_cons]; exact RVs.drop n h.2
  | [], _ :: _, _, h => by simp only [RVs] at h
  | _ :: _, [], _, h => by simp only [RVs] at h
theorem RVs.set {g : G} {w : World} : ∀ {us : List V} {vs : List Value} (n : Nat) {u : V} {v : Value}, RVs g w us vs → RV g w u v → RVs g w (us.set n u) (vs.set n v)
  | [], [], n, _, _, _, _ => by simp [RVs]
  | u :: us, v :: vs, 0, _, _, h, hv => by simp only [RVs] at h; simp only [List.set_cons_zero, RVs]; exact ⟨hv, h.2⟩
  | u :: us, v :: vs, n + 1, _, _, h, hv => by simp only [RVs] at h; simp only [List.set_cons_succ, RVs]; exact ⟨h.1, RVs.set n h.2 hv⟩
  | [], _ :: _, _, _, _, h, _ => by simp only [RVs] at h
  | _ :: _, [], _, _, _, h, _ => by simp only [RVs] at h
theorem RVs.one {g : G} {w : World} : ∀ {us : List V} {vs : List Value}, us.all okC = true → RVs g w us vs → ∀ v ∈ vs, v.oneCell' = true
  | [], [], _, _ => by simp
  | u :: us, v :: vs, hu, h => by
    simp only [RVs] at h
    simp only [List.all_cons, Bool.and_eq_true] at hu
    intro x hx
    rcases List.mem_cons.1 hx with rfl | hx
    · exact RV.one hu.1 h.1
    · exact RVs.one hu.2 h.2 x hx
  | [], _ :: _, _, h => by simp only [RVs] at h
  | _ :: _, [], _, h => by simp only [RVs] at h
theorem RdC.vals {g : G} {w : World} {blk : Nat} : ∀ {off : Nat} {ds : List D}, RdC w (imm g w) blk off ds →
    ∃ vs, RVs g w (ds.map V.d) vs ∧ ∀ j v, vs[j]? = some v → w.cell? ⟨blk, off + j, none⟩ = some v
  | _, [], _ => ⟨[], by simp [RVs], by simp⟩
  | off, d :: ds, h => by
    simp only [RdC] at h
    obtain ⟨⟨v, h1, h2⟩, h3⟩ := h
    obtain ⟨vs, h4, h5⟩ := RdC.vals h3
    refine ⟨v :: vs, by simp only [List.map_cons, RVs, RV]; exact ⟨h2, h4⟩, fun j u hu => ?_⟩
    cases j with
    | zero => simp at hu; subst hu; exact h1
    | succ j => simp at hu; rw [show off + (j + 1) = off + 1 + j by omega]; exact h5 j u hu
def RB (g : G) (w : World) : GB → Box → Prop
  | .cells blk cp cur, .cells cs => cur = cs.length ∧ cs.all okC = true ∧ cs.length ≤ cp ∧ ∃ c e, w.heap[blk]? = some (.cells c e (0, 0)) ∧ cp ≤ c.size ∧ RVs g w cs (c.toList.take cs.length)
  | .nil, .nil => True
  | .obj blk, .map es => ∃ ents clock, w.heap[blk]? = some (.map ents clock) ∧ ents.size = es.length ∧
      (∀ (i : Nat) (k : D) (v : V), es[i]? = some (k, v) → ∃ x, ents[i]? = some x ∧ x.born < clock ∧ Rd w (imm g w) k x.key ∧ RV g w v x.val) ∧
      (∀ (i : Nat) (x : MapEntry), ents[i]? = some x → x.born = i) ∧ clock = ents.size
  | .obj blk, .miter m n seen => ∃ mb sa, w.heap[blk]? = some (.mapIter (some mb) n sa n) ∧ sa.toList = seen ∧ g.dom m ∧ ∀ x, g.γ m = some x → x = .obj mb
  | .obj blk, .siter s pos => ∃ b : ByteArray, w.heap[blk]? = some (.stringIter b pos) ∧ b.data.toList = s
  | _, _ => False
structure HeapOK (g : G) (w : World) (H : Heap) : Prop where
  dom : ∀ b, g.dom b → b < H.length
  live : ∀ b x, g.γ b = some x → g.dom b ∧ ∃ y, hget H b = some y ∧ RB g w x y
  back : ∀ b y, hget H b = some y → ∃ x, g.γ b = some x
  inj : ∀ b b' x x' k, g.γ b = some x → g.γ b' = some x' → x.own = some k → x'.own = some k → b = b'
  fo : ∀ k, g.fo k → k < w.heap.size ∧ ∀ b x, g.γ b = some x → x.own ≠ some k
structure Globs (GL : GLT) (g : G) (w : World) : Prop where
  rd : ∀ n cs, GL.rd n = some cs → imm g w n ∧ RdC w (imm g w) n 0 cs
  w0 : ∀ k, k < GL.w0.heap.size → imm g w k ∧ w.heap[k]? = GL.w0.heap[k]?
structure R (GL : GLT) (g : G) (w : World) (a : Act) (σ : St) : Prop where
  defers : a.defers = []
  size : a.tmps.size = σ.n
  tmps : ∀ t, RV g w (get σ.tm t) (a.tmps.getD t undef)
  heap : HeapOK g w σ.hp
  globs : Globs GL g w
theorem Globs.ext {GL : GLT} {g g' : G} {w w' : World} (h : Ext g w g' w') (hg : Globs GL g w) : Globs GL g' w' :=
  ⟨fun n cs hn => ⟨(h.keeps _ (hg.rd n cs hn).1).1, RdC.keeps h.keeps (hg.rd n cs hn).1 _ _ (hg.rd n cs hn).2⟩,
   fun k hk => ⟨(h.keeps _ (hg.w0 k hk).1).1, (h.keeps _ (hg.w0 k hk).1).2.trans (hg.w0 k hk).2⟩⟩
theorem beq_ff {a b : Nat} (h : a ≠ b) : Nat.beq a b = false := by
  cases hh : Nat.beq a b
  · rfl
  · exact absurd (Nat.eq_of_beq_eq_true hh) h
theorem get_put (l : List (Nat × V)) (t s : Nat) (v : V) : get (put l t v) s = if s = t then v else get l s := by
  induction l with
  | nil =>
    simp only [put, get]
    by_cases h : s = t
    · subst h; simp
    · have : Nat.beq t s = false := beq_ff (by omega)
      simp [this, h]
  | cons p l ih =>
    obtain ⟨q, u⟩ := p
    simp only [put]
    by_cases hq : q = t
    · subst hq
      simp only [Nat.beq_refl, cond_true, get]
      by_cases h : s = q
      · subst h; simp
      · have : Nat.beq q s = false := beq_ff (by omega)
        simp [this, h]
    · have hb : Nat.beq q t = false := beq_ff hq
      simp only [hb, cond_false]
      cases hle : Nat.ble t q with
      | true =>
        simp only [cond_true, get]
        by_cases h : s = t
        · subst h; simp
        · have : Nat.beq t s = false := beq_ff (by omega)
          simp [this, h]
      | false =>
        simp only [cond_false, get, ih]
        by_cases h : s = t
        · subst h; simp [hb]
        · simp [h]
theorem R.put {GL : GLT} {g g' : G} {w w' : World} {a : Act} {σ : St} {H' : Heap} (h : R GL g w a σ) (e : Ext g w g' w') (hh : HeapOK g' w' H') (t : Nat) (v : V) (x : Value) (ht : t < σ.n) (hv : RV g' w' v x) :
    R GL g' w' (a.put (some t) x) ⟨σ.n, Fw.put σ.tm t v, H'⟩ := by
  refine ⟨h.defers, by simp [Act.put, h.size], fun s => ?_, hh, h.globs.ext e⟩
  simp only [get_put, Act.put]
  by_cases hs : s = t
  · subst hs
    have hs : s < a.tmps.size := by rw [h.size]; exact ht
    simp only [if_true]
    rw [Array.getD_eq_getD_getElem?, Array.getElem?_setIfInBounds_self_of_lt hs]
    exact hv
  · simp only [hs, if_false]
    rw [Array.getD_eq_getD_getElem?, Array.getElem?_setIfInBounds_ne (by omega), ← Array.getD_eq_getD_getElem?]
    exact RV.ext e _ _ (h.tmps s)
theorem R.put_none {GL : GLT} {g g' : G} {w w' : World} {a : Act} {σ : St} {H' : Heap} (h : R GL g w a σ) (e : Ext g w g' w') (hh : HeapOK g' w' H') (x : Value) :
    R GL g' w' (a.put none x) ⟨σ.n, σ.tm, H'⟩ :=
  ⟨h.defers, h.size, fun s => RV.ext e _ _ (h.tmps s), hh, h.globs.ext e⟩
theorem R.any {GL : GLT} {g : G} {w : World} {a : Act} {σ : St} (h : R GL g w a σ) (t : Nat) (x : Value) (ht : t < σ.n) : R GL g w (a.put (some t) x) ⟨σ.n, Fw.put σ.tm t .any, σ.hp⟩ :=
  h.put (Ext.refl _ _) h.heap t .any x ht (by simp only [RV])
end Fw

/-
  Steps of world and boxes: a new box, a box written, a box that has grown.
-/
namespace Fw
open Go
theorem RB.ext {g g' : G} {w w' : World} (h : Ext g w g' w') {x : GB} {y : Box} (ho : ∀ k, x.own = some k → w'.heap[k]? = w.heap[k]?) (hr : RB g w x y) : RB g' w' x y := by
  cases x with
  | cells blk cp cur =>
    cases y with
    | cells cs =>
      simp only [RB] at hr ⊢
      obtain ⟨h1, h2, h3, c, e, h4, h5, h6⟩ := hr
      exact ⟨h1, h2, h3, c, e, by rw [ho blk rfl]; exact h4, h5, RVs.ext h _ _ h6⟩
    | _ => simp only [RB] at hr
  | nil => cases y <;> simp only [RB] at hr ⊢
  | obj blk =>
    cases y with
    | map es =>
      simp only [RB] at hr ⊢
      obtain ⟨ents, clock, h1, h2, h3, h4⟩ := hr
      refine ⟨ents, clock, by rw [ho blk rfl]; exact h1, h2, fun i k v hi => ?_, h4⟩
      obtain ⟨z, hz1, hz2, hz3, hz4⟩ := h3 i k v hi
      exact ⟨z, hz1, hz2, Rd.keeps h.keeps _ _ hz3, RV.ext h _ _ hz4⟩
    | siter s pos =>
      simp only [RB] at hr ⊢
      obtain ⟨b, h1, h2⟩ := hr
      exact ⟨b, by rw [ho blk rfl]; exact h1, h2⟩
    | miter m n seen =>
      simp only [RB] at hr ⊢
      obtain ⟨mb, sa, h1, h2, h3, h4⟩ := hr
      refine ⟨mb, sa, by rw [ho blk rfl]; exact h1, h2, h.dom m h3, fun x hx => ?_⟩
      have hs := h.step m h3
      rw [hx] at hs
      cases hb : g.γ m with
      | none => rw [hb] at hs; exact hs.elim
      | some y =>
        have := h4 y hb; subst this
        rw [hb] at hs
        exact hs
    | _ => simp only [RB] at hr
theorem RB.lt {g : G} {w : World} {x : GB} {y : Box} (h : RB g w x y) : ∀ k, x.own = some k → k < w.heap.size := by
  intro k hk
  have key : ∀ o, w.heap[k]? = some o → k < w.heap.size := fun o ho => (Array.getElem?_eq_some_iff.1 ho).1
  cases x with
  | cells blk cp cur =>
    simp only [GB.own, Option.some.injEq] at hk; subst hk
    cases y with
    | cells cs => simp only [RB] at h; obtain ⟨_, _, _, c, e, h4, _⟩ := h; exact key _ h4
    | _ => simp only [RB] at h
  | nil => simp [GB.own] at hk
  | obj blk =>
    simp only [GB.own, Option.some.injEq] at hk; subst hk
    cases y with
    | map es => simp only [RB] at h; obtain ⟨_, _, h4, _⟩ := h; exact key _ h4
    | siter s pos => simp only [RB] at h; obtain ⟨_, h4, _⟩ := h; exact key _ h4
    | miter m n seen => simp only [RB] at h; obtain ⟨_, _, h4, _⟩ := h; exact key _ h4
    | _ => simp only [RB] at h
theorem hget_lt {H : Heap} {b : Nat} {y : Box} (h : hget H b = some y) : b < H.length := by
  induction H generalizing b with
  | nil => simp [hget] at h
  | cons z H ih =>
    cases b with
    | zero => simp
    | succ b => simp only [hget] at h; simpa using ih h
theorem hget_hput (H : Heap) (b : Nat) (y : Box) (c : Nat) : hget (hput H b y) c = if c = b then some y else hget H c := by
  induction H generalizing b c with
  | nil =>
    induction b generalizing c with
    | zero => cases c <;> simp [hput, hget]
    | succ b ih =>
      cases c with
      | zero => simp [hput, hget]
      | succ c =>
        simp only [hput, hget, ih]
        simp
  | cons z H ih =>
    cases b with
    | zero => cases c <;> simp [hput, hget]
    | succ b => cases c <;> simp [hput, hget, ih]
theorem hget_hput_self (H : Heap) (b : Nat) (y : Box) : hget (hput H b y) b = some y := by rw [hget_hput, if_pos rfl]
theorem hget_hput_ne {H : Heap} {b b' : Nat} (y : Box) (h : b' ≠ b) : hget (hput H b y) b' = hget H b' := by rw [hget_hput, if_neg h]
theorem hget_ge {H : Heap} {b : Nat} (h : H.length ≤ b) : hget H b = none := by
  cases hg : hget H b with
  | none => rfl
  | some y => have := hget_lt hg; omega
theorem Ext.drawn (g : G) (w : World) (n : Nat) : Ext g w g { w with drawn := n } :=
  ⟨rfl, rfl, rfl, Nat.le_refl _, fun _ h => ⟨h, rfl⟩, fun _ h => h, fun _ _ => GB.step.refl _, rfl, fun _ _ => rfl⟩
theorem HeapOK.ext {g : G} {w w' : World} {H : Heap} (hh : HeapOK g w H) (h : Ext g w g w') (ho : ∀ b x k, g.γ b = some x → x.own = some k → w'.heap[k]? = w.heap[k]?) : HeapOK g w' H :=
  ⟨hh.dom, fun b x hx => by
    obtain ⟨h1, y, h2, h3⟩ := hh.live b x hx
    exact ⟨h1, y, h2, RB.ext h (fun k hk => ho b x k hx hk) h3⟩, hh.back, hh.inj, fun k hk => ⟨Nat.lt_of_lt_of_le (hh.fo k hk).1 h.size, (hh.fo k hk).2⟩⟩
def G.add (g : G) (b : Nat) (x : GB) : G := ⟨fun c => g.dom c ∨ c = b, fun c => if c = b then some x else g.γ c, g.fo⟩
def Fresh (g : G) (ns : Nat) : Prop := ¬ g.dom ns
theorem HeapOK.fresh {g : G} {w : World} {H : Heap} (hh : HeapOK g w H) : Fresh g H.length := fun h => by have := hh.dom _ h; omega
theorem heap_push_lt (w : World) (o : Obj) {k : Nat} (h : k < w.heap.size) : (w.alloc o).heap[k]? = w.heap[k]? := by
  show (w.heap.push o)[k]? = _
  rw [Array.getElem?_push, if_neg (by omega)]
theorem heap_push_self (w : World) (o : Obj) : (w.alloc o).heap[w.heap.size]? = some o := by
  show (w.heap.push o)[w.heap.size]? = _
  rw [Array.getElem?_push, if_pos rfl]
theorem Ext.new {g : G} {w : World} {H : Heap} {ns : Nat} (hh : HeapOK g w H) (hns : Fresh g ns) (o : Obj) (x : GB) (hx : x.own = some w.heap.size) : Ext g w (g.add ns x) (w.alloc o) := by
  refine ⟨rfl, rfl, rfl, by simp, ?_, fun b h => .inl h, ?_, rfl, fun k hk => heap_push_lt _ _ (hh.fo k hk).1⟩
  · intro k hk
    refine ⟨⟨by have := hk.1; simp; omega, hk.2.1, fun b y hy => ?_⟩, heap_push_lt _ _ hk.1⟩
    simp only [G.add] at hy
    split at hy
    · simp only [Option.some.injEq] at hy; subst hy; rw [hx]; intro e; have := hk.1; simp only [Option.some.injEq] at e; omega
    · exact hk.2.2 b y hy
  · intro b hb
    have : b ≠ ns := by rintro rfl; exact hns hb
    simp only [G.add, this, if_false]
    exact GB.step.refl _
theorem length_hput (H : Heap) (b : Nat) (y : Box) : H.length ≤ (hput H b y).length ∧ b < (hput H b y).length := by
  induction H generalizing b with
  | nil =>
    induction b with
    | zero => simp [hput]
    | succ b ih => simp only [hput, List.length_cons]; have := ih.2; simp; omega
  | cons z H ih =>
    cases b with
    | zero => simp [hput]
    | succ b => simp only [hput, List.length_cons]; have := ih b; omega
theorem HeapOK.new {g : G} {w : World} {H : Heap} {ns : Nat} (hh : HeapOK g w H) (hns : Fresh g ns) (o : Obj) (x : GB) (y : Box) (hx : x.own = some w.heap.size) (hr : RB (g.add ns x) (w.alloc o) x y) :
    HeapOK (g.add ns x) (w.alloc o) (hput H ns y) := by
  have he := Ext.new hh hns o x hx
  refine ⟨?_, ?_, ?_, ?_, ?_⟩
  · intro b hb
    have hl := length_hput H ns y
    rcases hb with hb | rfl
    · have := hh.dom b hb; omega
    · exact hl.2
  · intro b z hz
    simp only [G.add] at hz
    split at hz
    · rename_i hb
      simp only [Option.some.injEq] at hz; subst hz; subst hb
      exact ⟨.inr rfl, y, hget_hput_self _ _ _, hr⟩
    · rename_i hb
      obtain ⟨h1, y', h2, h3⟩ := hh.live b z hz
      refine ⟨.inl h1, y', by rw [hget_hput_ne y hb]; exact h2, RB.ext he (fun k hk => heap_push_lt _ _ (h3.lt k hk)) h3⟩
  · intro b z hz
    by_cases hb : b = ns
    · exact ⟨x, by simp [G.add, hb]⟩
    · rw [hget_hput_ne y hb] at hz
      obtain ⟨q, hq⟩ := hh.back b z hz
      exact ⟨q, by simp [G.add, hb, hq]⟩
  · intro b b' z z' k hz hz' hk hk'
    simp only [G.add] at hz hz'
    split at hz
    · rename_i hb
      split at hz'
      · rename_i hb'; rw [hb, hb']
      · simp only [Option.some.injEq] at hz; subst hz
        rw [hx] at hk; simp only [Option.some.injEq] at hk; subst hk
        obtain ⟨_, _, _, h3⟩ := hh.live b' z' hz'
        have := h3.lt _ hk'; omega
    · split at hz'
      · simp only [Option.some.injEq] at hz'; subst hz'
        rw [hx] at hk'; simp only [Option.some.injEq] at hk'; subst hk'
        obtain ⟨_, _, _, h3⟩ := hh.live b z hz
        have := h3.lt _ hk; omega
      · exact hh.inj b b' z z' k hz hz' hk hk'
  · intro k hk
    have hl := (hh.fo k hk).1
    refine ⟨by simp; omega, fun c z hz => ?_⟩
    simp only [G.add] at hz
    split at hz
    · simp only [Option.some.injEq] at hz; subst hz; rw [hx]; intro e; simp only [Option.some.injEq] at e; omega
    · exact (hh.fo k hk).2 c z hz
theorem Ext.write {g : G} {w w' : World} {b k : Nat} {x : GB} (hx : g.γ b = some x) (hk : x.own = some k) (hfk : ¬ g.fo k) (hos : w'.os = w.os) (ht : w'.tape = w.tape) (hout : w'.output = w.output) (hsz : w'.heap.size = w.heap.size)
    (hw : ∀ j, j ≠ k → w'.heap[j]? = w.heap[j]?) : Ext g w g w' := by
  refine ⟨hos, ht, hout, by omega, fun j hj => ⟨⟨by have := hj.1; omega, hj.2⟩, hw j ?_⟩, fun _ h => h, fun _ _ => GB.step.refl _, rfl, fun j hj => hw j ?_⟩
  · rintro rfl
    exact hj.2.2 b x hx hk
  · rintro rfl
    exact hfk hj
theorem HeapOK.write {g : G} {w w' : World} {H : Heap} (hh : HeapOK g w H) {b k : Nat} {x : GB} (y : Box) (hx : g.γ b = some x) (hk : x.own = some k) (he : Ext g w g w')
    (hw : ∀ j, j ≠ k → w'.heap[j]? = w.heap[j]?) (hr : RB g w' x y) : HeapOK g w' (hput H b y) := by
  refine ⟨fun c hc => Nat.lt_of_lt_of_le (hh.dom c hc) (length_hput H b y).1, ?_, ?_, hh.inj, fun j hj => ⟨Nat.lt_of_lt_of_le (hh.fo j hj).1 he.size, (hh.fo j hj).2⟩⟩
  · intro c z hz
    obtain ⟨h1, y', h2, h3⟩ := hh.live c z hz
    by_cases hc : c = b
    · subst hc
      rw [hx] at hz; simp only [Option.some.injEq] at hz; subst hz
      exact ⟨h1, y, hget_hput_self _ _ _, hr⟩
    · refine ⟨h1, y', by rw [hget_hput_ne y hc]; exact h2, RB.ext he (fun j hj => hw j ?_) h3⟩
      rintro rfl
      exact hc (hh.inj c b z x j hz hx hj hk)
  · intro c z hz
    by_cases hc : c = b
    · exact ⟨x, by rw [hc]; exact hx⟩
    · rw [hget_hput_ne y hc] at hz; exact hh.back c z hz
def G.set (g : G) (b : Nat) (x : GB) : G := ⟨g.dom, fun c => if c = b then some x else g.γ c, g.fo⟩
theorem Ext.grow {g : G} {w w' : World} {b : Nat} {x x' : GB} {ko : Option Nat} (hfo : ∀ k, g.fo k → k < w.heap.size ∧ some k ≠ ko) (hx : g.γ b = some x) (hko : x.own = ko) (hst : GB.step (some x) (some x'))
    (hn : x'.own = ko ∨ ∃ k, x'.own = some k ∧ w.heap.size ≤ k)
    (hos : w'.os = w.os) (ht : w'.tape = w.tape) (hout : w'.output = w.output) (hsz : w.heap.size ≤ w'.heap.size)
    (hw : ∀ j, j < w.heap.size → some j ≠ ko → w'.heap[j]? = w.heap[j]?) : Ext g w (g.set b x') w' := by
  refine ⟨hos, ht, hout, hsz, fun j hj => ?_, fun _ h => h, ?_, rfl, fun j hj => hw j (hfo j hj).1 (hfo j hj).2⟩
  · have hne : some j ≠ ko := by rw [← hko]; intro e; exact hj.2.2 b x hx e.symm
    refine ⟨⟨by have := hj.1; omega, hj.2.1, fun c z hz => ?_⟩, hw j hj.1 hne⟩
    simp only [G.set] at hz
    split at hz
    · simp only [Option.some.injEq] at hz; subst hz
      rcases hn with h | ⟨k, h, hl⟩
      · rw [h]; exact fun e => hne e.symm
      · rw [h]; intro e; simp only [Option.some.injEq] at e; have := hj.1; omega
    · exact hj.2.2 c z hz
  · intro c hc
    simp only [G.set]
    split
    · rename_i h; subst h; rw [hx]; exact hst
    · exact GB.step.refl _
theorem HeapOK.grow {g : G} {w w' : World} {H : Heap} (hh : HeapOK g w H) {b : Nat} {x x' : GB} {ko : Option Nat} (y : Box) (hx : g.γ b = some x) (hko : x.own = ko)
    (hn : x'.own = ko ∨ ∃ k, x'.own = some k ∧ w.heap.size ≤ k) (he : Ext g w (g.set b x') w')
    (hw : ∀ j, j < w.heap.size → some j ≠ ko → w'.heap[j]? = w.heap[j]?) (hr : RB (g.set b x') w' x' y) : HeapOK (g.set b x') w' (hput H b y) := by
  have hother : ∀ c z k, c ≠ b → g.γ c = some z → z.own = some k → k < w.heap.size ∧ some k ≠ ko := by
    intro c z k hc hz hk
    obtain ⟨_, _, _, h3⟩ := hh.live c z hz
    refine ⟨h3.lt k hk, fun e => hc (hh.inj c b z x k hz hx hk (by rw [hko, ← e]))⟩
  refine ⟨fun c hc => Nat.lt_of_lt_of_le (hh.dom c hc) (length_hput H b y).1, ?_, ?_, ?_, ?_⟩
  · intro c z hz
    simp only [G.set] at hz
    split at hz
    · rename_i hc; subst hc
      simp only [Option.some.injEq] at hz; subst hz
      obtain ⟨h1, y', h2, h3⟩ := hh.live c x hx
      exact ⟨h1, y, hget_hput_self _ _ _, hr⟩
    · rename_i hc
      obtain ⟨h1, y', h2, h3⟩ := hh.live c z hz
      exact ⟨h1, y', by rw [hget_hput_ne y hc]; exact h2, RB.ext he (fun j hj => by obtain ⟨p, q⟩ := hother c z j hc hz hj; exact hw j p q) h3⟩
  · intro c z hz
    by_cases hc : c = b
    · exact ⟨x', by simp [G.set, hc]⟩
    · rw [hget_hput_ne y hc] at hz
      obtain ⟨q, hq⟩ := hh.back c z hz
      exact ⟨q, by simp [G.set, hc, hq]⟩
  · intro c c' z z' k hz hz' hk hk'
    simp only [G.set] at hz hz'
    split at hz <;> split at hz'
    · rename_i h1 h2; rw [h1, h2]
    · rename_i h1 h2
      simp only [Option.some.injEq] at hz; subst hz
      obtain ⟨p, q⟩ := hother c' z' k h2 hz' hk'
      rcases hn with h | ⟨j, h, hl⟩
      · rw [h] at hk; exact absurd hk.symm q
      · rw [h] at hk; simp only [Option.some.injEq] at hk; omega
    · rename_i h1 h2
      simp only [Option.some.injEq] at hz'; subst hz'
      obtain ⟨p, q⟩ := hother c z k h1 hz hk
      rcases hn with h | ⟨j, h, hl⟩
      · rw [h] at hk'; exact absurd hk'.symm q
      · rw [h] at hk'; simp only [Option.some.injEq] at hk'; omega
    · exact hh.inj c c' z z' k hz hz' hk hk'
  · intro k hk
    refine ⟨Nat.lt_of_lt_of_le (hh.fo k hk).1 he.size, fun c z hz => ?_⟩
    simp only [G.set] at hz
    split at hz
    · simp only [Option.some.injEq] at hz; subst hz
      rcases hn with h | ⟨j, h, hl⟩
      · rw [h, ← hko]; exact (hh.fo k hk).2 b x hx
      · rw [h]; intro e; simp only [Option.some.injEq] at e; have := (hh.fo k hk).1; omega
    · exact (hh.fo k hk).2 c z hz
theorem HeapOK.foOf {g : G} {w : World} {H : Heap} (hh : HeapOK g w H) {b : Nat} {x : GB} {ko : Option Nat} (hx : g.γ b = some x) (hko : x.own = ko) : ∀ k, g.fo k → k < w.heap.size ∧ some k ≠ ko := by
  intro k hk
  refine ⟨(hh.fo k hk).1, ?_⟩
  rw [← hko]
  exact fun e => (hh.fo k hk).2 b x hx e.symm
theorem HeapOK.notFo {g : G} {w : World} {H : Heap} (hh : HeapOK g w H) {b k : Nat} {x : GB} (hx : g.γ b = some x) (hk : x.own = some k) : ¬ g.fo k := fun h => (hh.fo k h).2 b x hx hk
end Fw

/-
  From the model's code to the operations of the abstract machine.
-/
namespace Fw
open Go
def toC : Value → Option V
  | .bool b => some (.d (.bool b))
  | .int k n => some (.d (.int k n))
  | .string s => some (.d (.str s.data.toList))
  | .slice none 0 0 => some .nils
  | .pointer none => some .nilp
  | .map none => some .nilm
  | .nilFunc => some .nilf
  | .nilIface => some .nili
  | _ => none
def toV : Value → Option V
  | .agg cs => (mapO toC cs.toList).map .agg
  | v => toC v
def compOpd : Operand → Option Opd
  | .tmp t => some (.t t)
  | .const v => (toV v).map .c
  | .global g => some (.g g)
  | .func f => some (.f f)
def szOf (P : Program) (t : TypeId) : Option Nat := (P.info? t).map (·.size)
def bytesOf (P : Program) (t : TypeId) : Option Nat := (P.info? t).map (·.bytes)
def aggOf (P : Program) (t : TypeId) : Option Bool := (P.underlying t).map fun | .struct _ | .array _ _ => true | _ => false
def zeroOf (P : Program) (t : TypeId) : Option (List V) := ((P.info? t).bind (·.zero)).bind fun z => mapO toC z.cells.toList
def zeroV (P : Program) (t : TypeId) : Option V := ((P.info? t).bind (·.zero)).bind toV
def compOpdO : Option Operand → Option (Option Opd)
  | none => some none
  | some x => (compOpd x).map some
def compParts (place : Nat → Option (Nat × Nat)) : List (Nat × Operand) → Option (List (Nat × Nat × Opd))
  | [] => some []
  | (i, x) :: ps => match place i with
    | none => none
    | some (off, size) => match compOpd x with
      | none => none
      | some y => match compParts place ps with
        | none => none
        | some qs => some ((off, size, y) :: qs)
def fieldPlaceOf (P : Program) (fs : Array Field) (i : Nat) : Option (Nat × Nat) :=
  (fs[i]?).bind fun f => (szOf P f.type).map fun s => (f.offset, s)
def isSS : TypeDesc → Bool
  | .slice _ => true
  | .string => true
  | _ => false
def keyKind (P : Program) (t : TypeId) : Option KeyKind :=
  match P.underlying t with
  | some (.int _) => some .int
  | some .string => some .str
  | some .bool => some .bool
  | _ => none
def plainFields (P : Program) : Nat → List Field → Option (List KeyKind)
  | _, [] => some []
  | n, f :: fs => if f.offset = n ∧ f.name ≠ "_" then match keyKind P f.type, plainFields P (n + 1) fs with
      | some k, some ks => some (k :: ks)
      | _, _ => none
    else none
def plainStruct (P : Program) (t : TypeId) : Option (List KeyKind) :=
  match P.underlying t with
  | some (.struct fs) => if P.stoodInHeld t = false ∧ P.eqGuardType P.depth t = false then plainFields P 0 fs.toList else none
  | _ => none
def compCall (P : Program) (c : Call) : Option IOp :=
  match c.callee with
  | .builtin .len => match c.args.toList, c.argTypes.toList with
    | [x], [t] => match P.underlying t with
      | some .string => (compOpd x).map (.len .str)
      | some (.slice _) => (compOpd x).map (.len .slice)
      | some (.map _ _) => (compOpd x).map (.len .map)
      | some (.array n _) => (compOpd x).map (.len (.arr n))
      | _ => none
    | _, _ => none
  | .builtin .append => match c.args.toList, c.argTypes.toList with
    | [x, y], [t, u] => match P.underlying t, P.underlying u with
      | some (.slice e), some (.int _) => match P.info? e, zeroOf P e, compOpd x, compOpd y with
        | some i, some z, some x', some y' => some (.appendN i.size i.bytes z x' y')
        | _, _, _, _ => none
      | some (.slice e), some d => match isSS d, P.info? e, zeroOf P e, compOpd x, compOpd y with
        | true, some i, some z, some x', some y' => if 0 < i.size ∧ z.length = i.size then some (.append i.size i.bytes x' y') else none
        | _, _, _, _, _ => none
      | _, _ => none
    | _, _ => none
  | .builtin .cap => match c.args.toList, c.argTypes.toList with
    | [x], [t] => match P.underlying t with
      | some (.slice _) => (compOpd x).map .cap
      | _ => none
    | _, _ => none
  | .builtin .min => (mapO compOpd c.args.toList).map (.minmax false)
  | .builtin .max => (mapO compOpd c.args.toList).map (.minmax true)
  | .value (.func f) => match (P.funcs[f]?).map (fun fn => (fn.body.isSome, fn.name == "runtime.NumGoroutine")) with
    | some (true, false) => (mapO compOpd c.args.toList).map (.call f)
    | _ => none
  | .value (.tmp t) => (mapO compOpd c.args.toList).map (.callv (.t t))
  | _ => none
def compOp (P : Program) (op : Op) : Option IOp :=
  match op with
  | .move x => (compOpd x).map .mv
  | .assign x => (compOpd x).map .mv
  | .pick c a b => match compOpd c, compOpd a, compOpd b with
    | some c', some a', some b' => some (.pick c' a' b')
    | _, _, _ => none
  | .alloc t => (zeroOf P t).map .alloc
  | .box t x => match szOf P t, compOpd x with
    | some n, some x' => some (.box n x')
    | _, _ => none
  | .build t ps => match P.underlying t, zeroOf P t with
    | some (.struct fs), some z => match fs.toList.mapM (fun f => (P.info? f.type).map fun i => (f.offset, i.size)) with
      | some places => (compParts (fun i => places.toArray[i]?) ps.toList).map (.build z)
      | none => none
    | some (.array _ e), some z => match P.info? e with
      | some ie => (compParts (fun i => some (i * ie.size, ie.size)) ps.toList).map (.build z)
      | none => none
    | _, _ => none
  | .buildSlice t len ps => match P.underlying t with
    | some (.slice e) => match szOf P e, zeroOf P e with
      | some s, some z => if len * s ≤ 2 ^ 24 ∧ z.length = s ∧ 0 < s then (compParts (fun i => some (i * s, s)) ps.toList).map (.mkSlice s len ((List.range (len * s)).map fun i => z.getD (i % s) .any)) else none
      | _, _ => none
    | _ => none
  | .load t a => match szOf P t, aggOf P t, compOpd a with
    | some n, some g, some a' => if g = true ∨ n = 1 then some (.load n g a') else none
    | _, _, _ => none
  | .store t a x => match szOf P t, compOpd a, compOpd x with
    | some n, some a', some x' => some (.store n a' x')
    | _, _, _ => none
  | .nilCheck x => (compOpd x).map .nilchk
  | .binOp op t x y _ => match compOpd x, compOpd y with
    | some x', some y' => match op with
      | .eql => match P.underlying t with
        | some (.int _) => some (.bin op x' y')
        | some .string => some (.bin op x' y')
        | some .bool => some (.eq false .bool x' y')
        | some (.pointer _) => some (.eq false .ptr x' y')
        | some (.slice _) => some (.eq false .slice x' y')
        | some (.func _ _ _) => some (.eq false .func x' y')
        | some (.struct _) => (plainStruct P t).map fun ks => .eqS false ks x' y'
        | some (.interface _) => match x, y with
          | .const _, _ => some (.eq false .iface x' y')
          | _, .const _ => some (.eq false .iface x' y')
          | _, _ => none
        | _ => none
      | .neq => match P.underlying t with
        | some (.int _) => some (.bin op x' y')
        | some .string => some (.bin op x' y')
        | some .bool => some (.eq true .bool x' y')
        | some (.pointer _) => some (.eq true .ptr x' y')
        | some (.slice _) => some (.eq true .slice x' y')
        | some (.func _ _ _) => some (.eq true .func x' y')
        | some (.struct _) => (plainStruct P t).map fun ks => .eqS true ks x' y'
        | some (.interface _) => match x, y with
          | .const _, _ => some (.eq true .iface x' y')
          | _, .const _ => some (.eq true .iface x' y')
          | _, _ => none
        | _ => none
      | _ => some (.bin op x' y')
    | _, _ => none
  | .unOp op _ x => (compOpd x).map (.un op)
  | .convert s d x => match P.underlying s, P.underlying d, compOpd x with
    | some (.int _), some (.int k), some x' => some (.conv k x')
    | some .string, some .string, some x' => some (.same x')
    | some .string, some (.slice e), some x' => match P.underlying e with
      | some (.int .u8) => some (.strToBytes x')
      | _ => none
    | _, _, _ => none
  | .makeFunc (.func f) a b => match mapO compOpd a.toList, mapO compOpd b.toList with
    | some a', some b' => some (.mkfunc f a' b')
    | _, _ => none
  | .makeMap _ none => some .mkmap
  | .makeSlice t l c => match P.underlying t, compOpd l, compOpd c with
    | some (.slice e), some l', some c' => match P.info? e, zeroOf P e with
      | some i, some z => some (.mkRow i.size i.bytes z l' c')
      | _, _ => none
    | _, _, _ => none
  | .slice t x lo hi none => match compOpd x, compOpdO lo, compOpdO hi with
    | some x', some lo', some hi' => match P.underlying t with
      | some .string => some (.sslice x' lo' hi')
      | some (.slice e) => (szOf P e).map fun s => .lslice s x' lo' hi'
      | some (.array n e) => (szOf P e).map fun s => .aslice n s x' lo' hi'
      | _ => none
    | _, _, _ => none
  | .fieldAddr s x f => match P.underlying s, compOpd x with
    | some (.struct fs), some x' => match fieldPlaceOf P fs f with
      | some (off, n) => if 0 < n then some (.faddr off n x') else none
      | none => none
    | _, _ => none
  | .field s x f => match P.underlying s, compOpd x with
    | some (.struct fs), some x' => match fs[f]? with
      | some fd => match szOf P fd.type, aggOf P fd.type with
        | some n, some g => if g = true ∨ n = 1 then some (.fld fd.offset n g x') else none
        | _, _ => none
      | none => none
    | _, _ => none
  | .indexAddr t x i => match compOpd x, compOpd i with
    | some x', some i' => match P.underlying t with
      | some (.slice e) => (szOf P e).map fun s => .iaddr s x' i'
      | some (.array n e) => (szOf P e).map fun s => .iaddrA n s x' i'
      | _ => none
    | _, _ => none
  | .index t x i => match compOpd x, compOpd i with
    | some x', some i' => match P.underlying t with
      | some .string => some (.idxS x' i')
      | some (.array n e) => match szOf P e, aggOf P e with
        | some s, some g => if g = true ∨ s = 1 then some (.idxA n s g x' i') else none
        | _, _ => none
      | _ => none
    | _, _ => none
  | .extract x i => (compOpd x).map fun x' => .ext x' i
  | .makeInterface t x => match P.underlying t, compOpd x with
    | some (.interface _), _ => none
    | some _, some x' => some (.mkiface t x')
    | _, _ => none
  | .lookup t m k ok => match P.underlying t, compOpd m, compOpd k with
    | some (.map kt e), some m', some k' => match zeroV P e, P.underlying kt with
      | some z, some (.int _) => some (.lookup .int z ok m' k')
      | some z, some .string => some (.lookup .str z ok m' k')
      | some z, some .bool => some (.lookup .bool z ok m' k')
      | _, _ => none
    | _, _, _ => none
  | .mapUpdate t m k x => match P.underlying t, compOpd m, compOpd k, compOpd x with
    | some (.map kt _), some m', some k', some x' => match P.underlying kt with
      | some (.int _) => some (.mapUpd .int m' k' x')
      | some .string => some (.mapUpd .str m' k' x')
      | some .bool => some (.mapUpd .bool m' k' x')
      | _ => none
    | _, _, _, _ => none
  | .range t x => match P.underlying t with
    | some (.map _ _) => (compOpd x).map (.range true)
    | _ => none
  | .next it s => if s then none else (compOpd it).map .nextM
  | .entry it => (compOpd it).map .entry
  | .call c => compCall P c
  | _ => none
def compAfter (o : Oper) : List Nat := (o.after.toList.filter (Region.binds .any)).map (·.on)
def compGuard (ops : List Oper) (o : Oper) : Option (Option (Nat × Bool)) :=
  match o.guard with
  | none => some none
  | some (j, want) => match (ops[j]?).bind (·.dst) with
    | some d => some (some (d, want))
    | none => none
def compOper (P : Program) (ops : List Oper) (draw : Bool) (o : Oper) : Option IOper :=
  match compGuard ops o with
  | some g => some { dst := o.dst, op := (compOp P o.op).getD .bad, guard := g, after := if draw then compAfter o else [] }
  | none => none
theorem comp_of {P : Program} {op : Op} {io : IOp} (h : (compOp P op).getD .bad = io) (hne : io ≠ .bad) : compOp P op = some io := by
  cases hc : compOp P op with
  | none => rw [hc] at h; exact absurd h.symm hne
  | some x => rw [hc] at h; exact congrArg some h
def compOps (P : Program) (ops : List Oper) (draw : Bool) (l : List Oper) : Option (List IOper) := mapO (compOper P ops draw) l
def compCode (P : Program) : Code → Option IR
  | .skip => some .skip
  | .region _ ops draw => match compOps P ops.toList draw ops.toList with
    | some l => some (if draw then .draw l else .region l)
    | none => none
  | .seq a b => match compCode P a, compCode P b with
    | some a', some b' => some (.seq a' b')
    | _, _ => none
  | .cond c a b => match compOpd c, compCode P a, compCode P b with
    | some c', some a', some b' => some (.cond c' a' b')
    | _, _, _ => none
  | .block id b => (compCode P b).map (.block id)
  | .loop b => (compCode P b).map .loop
  | .exit id => some (.exit id)
  | .ret => some .ret
  | _ => none
def compRes (P : Program) : ResultVar → Option IRes
  | .tmp t => some (.t t)
  | .cell a t => match szOf P t, aggOf P t with
    | some n, some g => if g = true ∨ n = 1 then some (.cell a n g) else none
    | _, _ => none
def compFn (P : Program) (f : FuncId) : Option IFn :=
  match P.funcs[f]? with
  | none => none
  | some fn => match fn.body with
    | none => none
    | some c => match compCode P c, mapO (compRes P) fn.results.toList with
      | some b, some r => some { nparams := fn.params.size + fn.nfree, ntmps := fn.ntmps, res := r, body := b }
      | _, _ => none
end Fw

/-
  Each operation that calls nothing, carried out in the model: what the abstract machine says of it.
-/
namespace Fw
open Go
def DomLe (g g' : G) (ns : Nat) : Prop := ∀ b, g'.dom b → g.dom b ∨ b = ns
def Good (P : Program) (a : Act) (o : Oper) (g : G) (w : World) (ns : Nat) (v : V) (H' : Heap) : Prop :=
  ∃ g' w' nx, (execOp a.eval o).run P w = .ok nx w' ∧ ((∃ x, nx = .value x ∧ RV g' w' v x) ∨ (nx = .skip ∧ v = .any)) ∧ HeapOK g' w' H' ∧ Ext g w g' w' ∧ DomLe g g' ns
def Ev (ρ : Opd → V) (a : Act) (g : G) (w : World) : Prop := ∀ x y, compOpd x = some y → RV g w (ρ y) (a.eval x)
theorem mapO_length {α β : Type} {f : α → Option β} : ∀ {l : List α} {l' : List β}, mapO f l = some l' → l.length = l'.length
  | [], l', h => by simp [mapO] at h; subst h; rfl
  | x :: xs, l', h => by
    simp only [mapO] at h
    split at h
    · cases h
    · split at h
      · cases h
      · rename_i ys hys
        simp only [Option.some.injEq] at h; subst h
        simp [mapO_length hys]
theorem mapO_get {α β : Type} {f : α → Option β} : ∀ {l : List α} {l' : List β} (i : Nat) (x : α), mapO f l = some l' → l[i]? = some x → ∃ y, l'[i]? = some y ∧ f x = some y
  | [], l', i, x, h, hx => by simp at hx
  | z :: xs, l', i, x, h, hx => by
    simp only [mapO] at h
    split at h
    · cases h
    · rename_i y hy
      split at h
      · cases h
      · rename_i ys hys
        simp only [Option.some.injEq] at h; subst h
        cases i with
        | zero => simp at hx; subst hx; exact ⟨y, rfl, hy⟩
        | succ i => simp at hx ⊢; exact mapO_get i x hys hx
theorem toC_RV {g : G} {w : World} {v : Value} {u : V} (h : toC v = some u) : RV g w u v := by
  unfold toC at h
  split at h <;> simp only [Option.some.injEq, reduceCtorEq] at h <;> subst h <;> simp [RV, Rd]
theorem toC_ok {v : Value} {u : V} (h : toC v = some u) : okC u = true := by
  unfold toC at h
  split at h <;> simp only [Option.some.injEq, reduceCtorEq] at h <;> subst h <;> rfl
theorem mapO_toC {g : G} {w : World} : ∀ {l : List Value} {us : List V}, mapO toC l = some us → RVs g w us l ∧ us.all okC = true
  | [], us, h => by simp [mapO] at h; subst h; simp [RVs]
  | x :: xs, us, h => by
    simp only [mapO] at h
    split at h
    · cases h
    · rename_i y hy
      split at h
      · cases h
      · rename_i ys hys
        simp only [Option.some.injEq] at h; subst h
        have ih := mapO_toC (g := g) (w := w) hys
        refine ⟨by simp only [RVs]; exact ⟨toC_RV hy, ih.1⟩, by simp [toC_ok hy]; simpa using ih.2⟩
theorem toV_RV {g : G} {w : World} {v : Value} {u : V} (h : toV v = some u) : RV g w u v := by
  unfold toV at h
  split at h
  · rename_i cs
    cases hm : mapO toC cs.toList with
    | none => simp [hm] at h
    | some us =>
      simp [hm] at h; subst h
      simp only [RV]
      exact ⟨cs, rfl, (mapO_toC hm).1⟩
  · exact toC_RV h
theorem R.ev {GL : GLT} {g : G} {w : World} {a : Act} {σ : St} (h : R GL g w a σ) : Ev (evo GL σ.tm) a g w := by
  intro x y hxy
  cases x with
  | tmp t => simp [compOpd] at hxy; subst hxy; exact h.tmps t
  | const v =>
    simp only [compOpd, Option.map_eq_some_iff] at hxy
    obtain ⟨u, hu, rfl⟩ := hxy
    exact toV_RV hu
  | global n =>
    simp [compOpd] at hxy; subst hxy
    simp only [evo, Act.eval]
    cases hn : GL.rd n with
    | none => simp only [RV]
    | some cs => simp only [RV]; exact ⟨n, 0, rfl, fun _ => (h.globs.rd n cs hn).1, (h.globs.rd n cs hn).2⟩
  | func f =>
    simp [compOpd] at hxy; subst hxy
    simp only [evo, Act.eval, RV]
    exact ⟨#[], #[], rfl, by simp [RVs], by simp [RVs]⟩
theorem Good.val {P : Program} {a : Act} {o : Oper} {g : G} {w : World} {ns : Nat} {v : V} {H : Heap} {x : Value} (hh : HeapOK g w H) (hr : (execOp a.eval o).run P w = .ok (.value x) w) (hv : RV g w v x) : Good P a o g w ns v H :=
  ⟨g, w, _, hr, .inl ⟨x, rfl, hv⟩, hh, Ext.refl _ _, fun _ h => .inl h⟩
section
variable {P : Program} {a : Act} {o : Oper} {g : G} {w : World} {ρ : Opd → V} {H : Heap} {ns : Nat}
theorem RV.bool {v : Value} {b : Bool} (h : RV g w (.d (.bool b)) v) : v = .bool b := by simpa only [RV, Rd] using h
theorem RV.int {v : Value} {k : IntKind} {n : Int} (h : RV g w (.d (.int k n)) v) : v = .int k n := by simpa only [RV, Rd] using h
theorem RV.mkB (b : Bool) : RV g w (.d (.bool b)) (.bool b) := by simp only [RV, Rd]
theorem RV.mkI (k : IntKind) (n : Int) : RV g w (.d (.int k n)) (.int k n) := by simp only [RV, Rd]
theorem RV.str {v : Value} {l : List UInt8} (h : RV g w (.d (.str l)) v) : ∃ s : ByteArray, v = .string s ∧ s.data.toList = l := by simpa only [RV, Rd] using h
theorem RV.mkS (s : ByteArray) : RV g w (.d (.str s.data.toList)) (.string s) := by simp only [RV, Rd]; exact ⟨s, rfl, rfl⟩
theorem g_mv {x : Operand} {y : Opd} (ho : o.op = .move x ∨ o.op = .assign x) (hx : compOpd x = some y) (ev : Ev ρ a g w) (hh : HeapOK g w H) : Good P a o g w ns (ρ y) H := by
  refine Good.val (x := a.eval x) hh ?_ (ev _ _ hx)
  rcases ho with ho | ho <;> simp [execOp, ho]
theorem g_pick {c x y : Operand} {c' x' y' : Opd} {b : Bool} (ho : o.op = .pick c x y) (hc : compOpd c = some c') (hx : compOpd x = some x') (hy : compOpd y = some y') (hb : ρ c' = .d (.bool b)) (ev : Ev ρ a g w) (hh : HeapOK g w H) :
    Good P a o g w ns (bif b then ρ x' else ρ y') H := by
  have h1 := ev _ _ hc
  rw [hb] at h1
  have h2 := RV.bool h1
  cases b with
  | true => exact Good.val (x := a.eval x) hh (by simp [execOp, ho, h2, asBool]) (ev _ _ hx)
  | false => exact Good.val (x := a.eval y) hh (by simp [execOp, ho, h2, asBool]) (ev _ _ hy)
theorem g_newRow {cs : List V} {c : Array Value} (e : TypeId) (hok : cs.all okC = true) (hv : RVs g w cs c.toList) (hh : HeapOK g w H) (hns : Fresh g ns) (n : Nat) (hn : n = cs.length) :
    let g' := g.add ns (.cells w.heap.size n n)
    let w' := w.alloc (.cells c e)
    HeapOK g' w' (hput H ns (.cells cs)) ∧ Ext g w g' w' ∧ g'.dom ns ∧ g'.γ ns = some (.cells w.heap.size n n) := by
  subst hn
  have he := Ext.new hh hns (.cells c e) (.cells w.heap.size cs.length cs.length) rfl
  refine ⟨HeapOK.new hh hns _ _ _ rfl ?_, he, .inr rfl, by simp [G.add]⟩
  have hl := hv.length
  simp only [RB]
  refine ⟨trivial, hok, Nat.le_refl _, c, e, heap_push_self _ _, by simp at hl; omega, ?_⟩
  rw [List.take_of_length_le (by simp at hl; simp; omega)]
  exact RVs.ext he _ _ hv
theorem RV.newPtr {g' : G} {w' : World} {b blk n : Nat} (h1 : g'.dom b) (h2 : g'.γ b = some (.cells blk n n)) : RV g' w' (.ptr b n 0) (.pointer (some ⟨blk, 0, none⟩)) := by
  simp only [RV]
  refine ⟨⟨⟨_, _, rfl⟩, h1⟩, fun x hx => ?_⟩
  rw [h2] at hx
  simp only [Option.some.injEq] at hx; subst hx
  exact ⟨_, _, _, rfl, fun _ => rfl, Nat.le_refl _⟩
theorem run_typeInfo {t : TypeId} {i : TypeInfo} (h : P.info? t = some i) (w : World) : (typeInfo t).run P w = .ok i w := by simp [typeInfo, h]
theorem run_zero {t : TypeId} {i : TypeInfo} {z : Value} (h : P.info? t = some i) (hz : i.zero = some z) (w : World) : (zeroValue t).run P w = .ok z w := by simp [zeroValue, run_typeInfo h, hz]
theorem run_size {t : TypeId} {n : Nat} (h : szOf P t = some n) (w : World) : (Go.sizeOf t).run P w = .ok n w := by
  simp only [szOf, Option.map_eq_some_iff] at h
  obtain ⟨i, hi, rfl⟩ := h
  simp [Go.sizeOf, run_typeInfo hi]
theorem run_agg {t : TypeId} {b : Bool} (h : aggOf P t = some b) (w : World) : (isAgg t).run P w = .ok b w := by
  simp only [aggOf, Option.map_eq_some_iff] at h
  obtain ⟨d, hd, rfl⟩ := h
  cases d <;> simp [isAgg, run_underlying hd]
theorem g_alloc {t : TypeId} {z : List V} (ho : o.op = .alloc t) (hz : zeroOf P t = some z) (hh : HeapOK g w H) (hns : Fresh g ns) : Good P a o g w ns (.ptr ns z.length 0) (hput H ns (.cells z)) := by
  simp only [zeroOf, Option.bind_eq_some_iff] at hz
  obtain ⟨zv, ⟨i, hi, hzv⟩, hm⟩ := hz
  obtain ⟨hv, hok⟩ := mapO_toC (g := g) (w := w) hm
  obtain ⟨h1, h2, h3, h4⟩ := g_newRow t hok hv hh hns _ rfl
  refine ⟨_, _, .value (.pointer (some ⟨w.heap.size, 0, none⟩)), ?_, .inl ⟨_, rfl, RV.newPtr h3 h4⟩, h1, h2, fun _ h => h⟩
  simp [execOp, ho, Instr.alloc, run_zero hi hzv, newVar, newRow]
theorem cellsV_RV {u : V} {v : Value} (hu : (cellsV u).all okC = true) (h : RV g w u v) : RVs g w (cellsV u) v.cells.toList := by
  cases u with
  | agg cs =>
    simp only [RV] at h
    obtain ⟨x, rfl, h⟩ := h
    simpa [cellsV, Value.cells] using h
  | any => simp [cellsV, okC] at hu
  | tuple => simp [cellsV, okC] at hu
  | _ =>
    simp only [cellsV] at hu ⊢
    have h1 := RV.one (by simpa using hu) h
    have h2 : v.cells = #[v] := by cases v <;> first | rfl | simp [Value.oneCell'] at h1
    rw [h2]
    simp only [RVs, and_true]
    exact h
theorem g_box {t : TypeId} {x : Operand} {y : Opd} (ho : o.op = .box t x) (hx : compOpd x = some y) (hok : (cellsV (ρ y)).all okC = true) (ev : Ev ρ a g w) (hh : HeapOK g w H) (hns : Fresh g ns) :
    Good P a o g w ns (.ptr ns (cellsV (ρ y)).length 0) (hput H ns (.cells (cellsV (ρ y)))) := by
  obtain ⟨h1, h2, h3, h4⟩ := g_newRow t hok (cellsV_RV hok (ev _ _ hx)) hh hns _ rfl
  refine ⟨_, _, .value (.pointer (some ⟨w.heap.size, 0, none⟩)), ?_, .inl ⟨_, rfl, RV.newPtr h3 h4⟩, h1, h2, fun _ h => h⟩
  simp [execOp, ho, Instr.box, newVar, newRow]
theorem putCells_RVs : ∀ {cs : List V} {vs : List Value} (off : Nat) {us : List V} {xs : List Value}, RVs g w cs vs → RVs g w us xs →
    ∀ (c : Array Value), c.toList = vs → RVs g w (putCells cs off us) ((xs.zipIdx).foldl (fun (ds : Array Value) (p : Value × Nat) => ds.setIfInBounds (off + p.2) p.1) c).toList := by
  suffices h : ∀ (us : List V) (xs : List Value) (k off : Nat) (cs : List V) (c : Array Value), RVs g w cs c.toList → RVs g w us xs →
      RVs g w (putCells cs (off + k) us) ((xs.zipIdx k).foldl (fun (ds : Array Value) (p : Value × Nat) => ds.setIfInBounds (off + p.2) p.1) c).toList by
    intro cs vs off us xs h1 h2 c hc
    subst hc
    exact h us xs 0 off cs c h1 h2
  intro us
  induction us with
  | nil =>
    intro xs k off cs c h1 h2
    cases xs with
    | nil => simpa [putCells] using h1
    | cons => simp only [RVs] at h2
  | cons u us ih =>
    intro xs k off cs c h1 h2
    cases xs with
    | nil => simp only [RVs] at h2
    | cons x xs =>
      simp only [RVs] at h2
      simp only [putCells, List.zipIdx_cons, List.foldl_cons]
      have := ih xs (k + 1) off (cs.set (off + k) u) (c.setIfInBounds (off + k) x) (by simpa using RVs.set _ h1 h2.1) h2.2
      simpa [Nat.add_assoc] using this
theorem putCells_length (l : List V) (i : Nat) (vs : List V) : (putCells l i vs).length = l.length := by
  induction vs generalizing l i with
  | nil => rfl
  | cons v vs ih => simp [putCells, ih]
theorem putCells_ok {l : List V} {i : Nat} {vs : List V} (h : l.all okC = true) (hv : vs.all okC = true) : (putCells l i vs).all okC = true := by
  induction vs generalizing l i with
  | nil => exact h
  | cons v vs ih =>
    simp only [List.all_cons, Bool.and_eq_true] at hv
    refine ih ?_ hv.2
    simp only [List.all_eq_true] at h ⊢
    intro x hx
    rcases List.mem_or_eq_of_mem_set hx with hx | rfl
    · exact h x hx
    · exact hv.1
theorem fill_ok {place : Nat → Option (Nat × Nat)} (ev : Ev ρ a g w) : ∀ {ps : List (Nat × Operand)} {qs : List (Nat × Nat × Opd)} {cs cs' : List V} {c : Array Value},
    compParts place ps = some qs → fillC ρ cs qs = some cs' → cs.all okC = true → RVs g w cs c.toList →
    ∃ c', Instr.fill place c (ps.map fun p => (p.1, a.eval p.2)) = some c' ∧ RVs g w cs' c'.toList ∧ cs'.all okC = true
  | [], qs, cs, cs', c, h1, h2, h3, h4 => by
    simp only [compParts, Option.some.injEq] at h1; subst h1
    simp only [fillC, Option.some.injEq] at h2; subst h2
    exact ⟨c, rfl, h4, h3⟩
  | (i, x) :: ps, qs, cs, cs', c, h1, h2, h3, h4 => by
    simp only [compParts] at h1
    split at h1
    · cases h1
    · rename_i off size hp
      split at h1
      · cases h1
      · rename_i y hy
        split at h1
        · cases h1
        · rename_i qs' hqs
          simp only [Option.some.injEq] at h1; subst h1
          simp only [fillC] at h2
          cases hc : (Nat.beq (cellsV (ρ y)).length size && Nat.ble (off + size) cs.length && (cellsV (ρ y)).all okC) with
          | false => rw [hc] at h2; cases h2
          | true =>
            rw [hc] at h2
            simp only [cond_true] at h2
            simp only [Bool.and_eq_true] at hc
            have hv := cellsV_RV hc.2 (ev _ _ hy)
            have hl := hv.length
            have hl4 := h4.length
            have e1 : (cellsV (ρ y)).length = size := Nat.eq_of_beq_eq_true hc.1.1
            have e2 : off + size ≤ cs.length := Nat.le_of_ble_eq_true hc.1.2
            have key := putCells_RVs off h4 hv c rfl
            obtain ⟨c', q1, q2, q3⟩ := fill_ok ev hqs h2 (putCells_ok h3 hc.2) key
            refine ⟨c', ?_, q2, q3⟩
            simp only [List.map_cons, Instr.fill, hp]
            have e3 : (a.eval x).cells.size = size := by simp at hl; omega
            have e4 : ¬ ((decide ((a.eval x).cells.size ≠ size) || decide (off + (a.eval x).cells.size > c.size)) = true) := by
              simp only [Bool.or_eq_true, decide_eq_true_eq, not_or, ne_eq, Decidable.not_not]
              simp at hl4
              exact ⟨e3, by omega⟩
            rw [if_neg (by simpa using e4)]
            have e5 : (a.eval x).cells.zipIdx.foldl (fun cs (q : Value × Nat) => cs.setIfInBounds (off + q.2) q.1) c = (((a.eval x).cells.toList).zipIdx).foldl (fun (ds : Array Value) (p : Value × Nat) => ds.setIfInBounds (off + p.2) p.1) c := by
              rw [← Array.foldl_toList, Array.toList_zipIdx]
            rw [e5]
            exact q1
theorem g_build {t : TypeId} {ps : Array (Nat × Operand)} {z cs : List V} {qs : List (Nat × Nat × Opd)} {place : Nat → Option (Nat × Nat)} (ho : o.op = .build t ps) (hz : zeroOf P t = some z)
    (hb : ∀ (i : TypeInfo) (zv : Value) (parts : List (Nat × Value)), P.info? t = some i → i.zero = some zv → P.built t parts = Instr.fill place zv.cells parts)
    (hq : compParts place ps.toList = some qs) (hf : fillC ρ z qs = some cs) (ev : Ev ρ a g w) (hh : HeapOK g w H) : Good P a o g w ns (.agg cs) H := by
  simp only [zeroOf, Option.bind_eq_some_iff] at hz
  obtain ⟨zv, ⟨i, hi, hzv⟩, hm⟩ := hz
  obtain ⟨hv, hok⟩ := mapO_toC (g := g) (w := w) hm
  obtain ⟨c', h1, h2, h3⟩ := fill_ok ev hq hf hok hv
  have hbt := hb i zv (ps.map fun p => (p.1, a.eval p.2)).toList hi hzv
  rw [Array.toList_map, h1] at hbt
  refine Good.val (x := .agg c') hh ?_ (by simp only [RV]; exact ⟨c', rfl, h2⟩)
  have hr := run_build (P := P) w t (ps.map fun p => (p.1, a.eval p.2)) c' (by rw [Array.toList_map]; exact hbt)
  simp [execOp, ho, hr]
theorem zeros_eq (z : Array Value) (hz : 0 < z.size) (n : Nat) : ∀ i, ((Array.range n).map (z[· % z.size]!)).toList[i]? = if i < n then z[i % z.size]? else none := by
  intro i
  have hm := Nat.mod_lt i hz
  by_cases h : i < n
  · simp [h]
    rw [getElem!_pos z (i % z.size) hm]
    exact (Array.getElem?_eq_getElem hm).symm
  · simp [h]
theorem RVs.of_get : ∀ {us : List V} {vs : List Value}, us.length = vs.length → (∀ (i : Nat) (u : V) (v : Value), us[i]? = some u → vs[i]? = some v → RV g w u v) → RVs g w us vs
  | [], [], _, _ => by simp only [RVs]
  | u :: us, v :: vs, hl, h => by
    simp only [RVs]
    exact ⟨h 0 u v rfl rfl, RVs.of_get (by simpa using hl) (fun i x y hx hy => h (i + 1) x y (by simpa using hx) (by simpa using hy))⟩
  | [], _ :: _, hl, _ => by simp at hl
  | _ :: _, [], hl, _ => by simp at hl
theorem run_mkSlice {t e : TypeId} {len s : Nat} {ps : Array (Nat × Operand)} {z cs : List V} {qs : List (Nat × Nat × Opd)} (ho : o.op = .buildSlice t len ps) (hu : P.underlying t = some (.slice e)) (hs : szOf P e = some s) (hz : zeroOf P e = some z)
    (h1 : len * s ≤ 2 ^ 24) (h2 : z.length = s) (h3 : 0 < s) (hq : compParts (fun i => some (i * s, s)) ps.toList = some qs)
    (hf : fillC ρ ((List.range (len * s)).map fun i => z.getD (i % s) .any) qs = some cs) (ev : Ev ρ a g w) :
    ∃ c' : Array Value, RVs g w cs c'.toList ∧ cs.all okC = true ∧ cs.length = len * s ∧ (execOp a.eval o).run P w = .ok (.value (.slice (some ⟨w.heap.size, 0, none⟩) len len)) (w.alloc (.cells c' e)) := by
  simp only [zeroOf, Option.bind_eq_some_iff] at hz
  obtain ⟨zv, ⟨i, hi, hzv⟩, hm⟩ := hz
  obtain ⟨hv, hok⟩ := mapO_toC (g := g) (w := w) hm
  have hzl := hv.length
  have hsz : 0 < zv.cells.size := by simp at hzl; omega
  have hze : zv.cells.size = s := by simp at hzl; omega
  have hok' : ((List.range (len * s)).map fun i => z.getD (i % s) .any).all okC = true := by
    simp only [List.all_eq_true, List.mem_map, List.mem_range]
    rintro x ⟨j, _, rfl⟩
    have := Nat.mod_lt j h3
    rw [List.getD_eq_getElem?_getD, List.getElem?_eq_getElem (by omega)]
    exact (List.all_eq_true.1 hok) _ (List.getElem_mem _)
  have hv' : RVs g w ((List.range (len * s)).map fun i => z.getD (i % s) .any) ((Array.range (len * s)).map (zv.cells[· % zv.cells.size]!)).toList := by
    refine RVs.of_get (by simp) fun j u v hu hv2 => ?_
    rw [zeros_eq _ hsz] at hv2
    by_cases hj : j < len * s
    · simp only [hj, if_true] at hv2
      simp [hj] at hu
      subst hu
      have hjm := Nat.mod_lt j h3
      rw [hze] at hv2
      have hg : z[j % s]? = some (z[j % s]'(by omega)) := List.getElem?_eq_getElem _
      rw [hg, Option.getD_some]
      obtain ⟨v', h5, h6⟩ := RVs.get (j % s) hv hg
      simp at h5 hv2
      rw [hv2] at h5
      simp only [Option.some.injEq] at h5; subst h5
      exact h6
    · simp [hj] at hv2
  obtain ⟨c', h5, h6, h7⟩ := fill_ok ev hq hf hok' hv'
  have hcl : cs.length = len * s := by
    have hfl : ∀ (cs : List V) (qs : List (Nat × Nat × Opd)) (cs' : List V), fillC ρ cs qs = some cs' → cs'.length = cs.length := by
      intro cs qs
      induction qs generalizing cs with
      | nil => intro cs' h; simp [fillC] at h; rw [h]
      | cons q qs ih =>
        intro cs' h
        obtain ⟨off, size, x⟩ := q
        simp only [fillC] at h
        cases hc : (Nat.beq (cellsV (ρ x)).length size && Nat.ble (off + size) cs.length && (cellsV (ρ x)).all okC) with
        | false => rw [hc] at h; cases h
        | true => rw [hc] at h; rw [ih _ _ h, putCells_length]
    rw [hfl _ _ _ hf]; simp
  refine ⟨c', h6, h7, hcl, ?_⟩
  · by_cases h0 : len * s = 0
    · have h5' : Instr.fill (fun i => some (i * s, s)) ((Array.range (len * s)).map ((#[] : Array Value)[· % (#[] : Array Value).size]!)) (ps.toList.map fun p => (p.1, a.eval p.2)) = some c' := by
        rw [← h5]; simp [h0, show Array.range 0 = #[] from rfl]
      simp [execOp, ho, Instr.buildSlice, run_underlying hu, run_size hs, h0]
      simp [h0] at h5'
      simp [h5', newRow]
    · simp [execOp, ho, Instr.buildSlice, run_underlying hu, run_size hs, h0, Nat.not_lt.2 h1, run_zero hi hzv, h5, newRow]
theorem g_mkSlice {t e : TypeId} {len s : Nat} {ps : Array (Nat × Operand)} {z cs : List V} {qs : List (Nat × Nat × Opd)} (ho : o.op = .buildSlice t len ps) (hu : P.underlying t = some (.slice e)) (hs : szOf P e = some s) (hz : zeroOf P e = some z)
    (h1 : len * s ≤ 2 ^ 24) (h2 : z.length = s) (h3 : 0 < s) (hq : compParts (fun i => some (i * s, s)) ps.toList = some qs)
    (hf : fillC ρ ((List.range (len * s)).map fun i => z.getD (i % s) .any) qs = some cs) (ev : Ev ρ a g w) (hh : HeapOK g w H) (hns : Fresh g ns) :
    Good P a o g w ns (.sl ns cs.length 0 len s) (hput H ns (.cells cs)) ∧ cs.length = len * s := by
  obtain ⟨c', h6, h7, hcl, hrun⟩ := run_mkSlice ho hu hs hz h1 h2 h3 hq hf ev
  refine ⟨?_, hcl⟩
  obtain ⟨k1, k2, k3, k4⟩ := g_newRow e h7 h6 hh hns _ rfl
  refine ⟨_, _, .value (.slice (some ⟨w.heap.size, 0, none⟩) len len), hrun, .inl ⟨_, rfl, ?_⟩, k1, k2, fun _ h => h⟩
  simp only [RV]
  refine ⟨⟨rfl, k3⟩, fun x hx => ?_⟩
  rw [k4] at hx; simp only [Option.some.injEq] at hx; subst hx
  exact ⟨Nat.le_refl _, fun _ => ⟨len, rfl, Nat.le_refl _, by omega⟩⟩
theorem loadC_ok {n : Nat} {u : V} {v : Value} {cs : List V} (h : loadC H n u = some cs) (hv : RV g w u v) (hh : HeapOK g w H) :
    ∃ blk off vs, v = .pointer (some ⟨blk, off, none⟩) ∧ vs.length = n ∧ RVs g w cs vs ∧ ∀ j x, vs[j]? = some x → w.cell? ⟨blk, off + j, none⟩ = some x := by
  cases u with
  | ptr b hb off =>
    simp only [loadC] at h
    cases hg : hget H b with
    | none => simp [hg] at h
    | some y =>
      cases y with
      | cells cs' =>
        simp only [hg] at h
        cases hc : (Nat.beq cs'.length hb && Nat.ble (off + n) hb) with
        | false => rw [hc] at h; cases h
        | true =>
          rw [hc] at h
          simp only [cond_true, Option.some.injEq] at h
          simp only [Bool.and_eq_true] at hc
          have e1 := Nat.eq_of_beq_eq_true hc.1
          have e2 := Nat.le_of_ble_eq_true hc.2
          obtain ⟨x, hx⟩ := hh.back b _ hg
          obtain ⟨_, y', hy', hr⟩ := hh.live b x hx
          rw [hg] at hy'; simp only [Option.some.injEq] at hy'; subst hy'
          simp only [RV] at hv
          obtain ⟨blk, cp, cur, rfl, h1, h2⟩ := hv.2 x hx
          simp only [RB] at hr
          obtain ⟨r1, r2, r3, c, e, r4, r5, r6⟩ := hr
          subst h
          refine ⟨blk, off, ((c.toList.take cs'.length).drop off).take n, h1 (by omega), ?_, (r6.drop off).take n, fun j x hj => ?_⟩
          · simp; omega
          · have hjn : j < n := by
              have := (List.getElem?_eq_some_iff.1 hj).1
              simp at this; omega
            rw [List.getElem?_take, if_pos hjn, List.getElem?_drop, List.getElem?_take] at hj
            split at hj
            · simp only [World.cell?, r4]
              simpa using hj
            · cases hj
      | _ => simp [hg] at h
  | cptr ds =>
    simp only [loadC] at h
    cases hc : Nat.ble n ds.length with
    | false => rw [hc] at h; cases h
    | true =>
      rw [hc] at h
      simp only [cond_true, Option.some.injEq] at h
      have e1 := Nat.le_of_ble_eq_true hc
      simp only [RV] at hv
      obtain ⟨blk, off, rfl, _, h3⟩ := hv
      obtain ⟨vs, h4, h5⟩ := RdC.vals h3
      subst h
      have hl := h4.length
      simp at hl
      refine ⟨blk, off, vs.take n, rfl, by simp; omega, by rw [List.map_take]; exact h4.take n, fun j x hj => ?_⟩
      rw [List.getElem?_take] at hj
      split at hj
      · exact h5 j x hj
      · cases hj
  | _ => simp [loadC] at h
theorem Addr.add_mk (blk off j : Nat) : (⟨blk, off, none⟩ : Addr).add j = ⟨blk, off + j, none⟩ := by
  unfold Addr.add; split <;> simp_all
theorem mkV_RV {b : Bool} {cs : List V} {v : V} {vs : List Value} (h : mkV b cs = some v) (hv : RVs g w cs vs) :
    RV g w v (if b then .agg vs.toArray else vs.headD undef) ∧ (b = false → vs.length = 1) := by
  cases b with
  | true => simp [mkV] at h; subst h; simp only [RV, if_true]; exact ⟨⟨vs.toArray, rfl, by simpa using hv⟩, by simp⟩
  | false =>
    simp only [mkV, cond_false] at h
    split at h
    · simp only [Option.some.injEq] at h; subst h
      cases vs with
      | nil => simp only [RVs] at hv
      | cons x xs =>
        simp only [RVs] at hv
        cases xs with
        | nil => exact ⟨by simpa using hv.1, by simp⟩
        | cons => simp only [RVs] at hv; exact hv.2.elim
    · cases h
theorem run_loadVar_ok {t : TypeId} {n blk off : Nat} {b : Bool} {vs : List Value} (hn : szOf P t = some n) (hb : aggOf P t = some b) (hl : vs.length = n) (h1 : b = false → vs.length = 1)
    (hc : ∀ j x, vs[j]? = some x → w.cell? ⟨blk, off + j, none⟩ = some x) : (loadVar t ⟨blk, off, none⟩).run P w = .ok (if b then .agg vs.toArray else vs.headD undef) w := by
  cases b with
  | true =>
    have := run_loadCells_list (P := P) w ⟨blk, off, none⟩ vs (fun j x hj => by rw [Addr.add_mk]; exact hc j x hj)
    subst hl
    simp [loadVar, run_agg hb, run_size hn, this]
  | false =>
    have hl1 := h1 rfl
    obtain ⟨x, rfl⟩ : ∃ x, vs = [x] := by
      match vs, hl1 with
      | [x], _ => exact ⟨x, rfl⟩
    have := hc 0 x rfl
    simp at this
    simp [loadVar, run_agg hb, this]
theorem g_load {t : TypeId} {x : Operand} {y : Opd} {n : Nat} {b : Bool} {cs : List V} {v : V} (ho : o.op = .load t x) (hn : szOf P t = some n) (hb : aggOf P t = some b) (hx : compOpd x = some y)
    (h1 : loadC H n (ρ y) = some cs) (h2 : mkV b cs = some v) (ev : Ev ρ a g w) (hh : HeapOK g w H) : Good P a o g w ns v H := by
  obtain ⟨blk, off, vs, e1, e2, e3, e4⟩ := loadC_ok h1 (ev _ _ hx) hh
  obtain ⟨h3, h4⟩ := mkV_RV h2 e3
  refine Good.val hh ?_ h3
  simp [execOp, ho, e1, Instr.loadAt, Instr.sureAddr, run_loadVar_ok hn hb e2 h4 e4]
theorem putCells_eq : ∀ (us cs : List Value) (off : Nat), off + us.length ≤ cs.length → putCells cs off us = cs.take off ++ us ++ cs.drop (off + us.length)
  | [], cs, off, _ => by simp [putCells]
  | u :: us, cs, off, h => by
    simp only [List.length_cons] at h
    simp only [putCells]
    rw [putCells_eq us (cs.set off u) (off + 1) (by simp; omega)]
    apply List.ext_getElem?
    intro i
    simp only [List.getElem?_append, List.length_append, List.length_take, List.length_set, List.getElem?_take, List.getElem?_set, List.getElem?_drop, List.length_cons,
      show min (off + 1) cs.length = off + 1 by omega, show min off cs.length = off by omega]
    by_cases h1 : i < off
    · simp [h1, show i < off + 1 by omega, show i < off + 1 + us.length by omega, show i < off + (us.length + 1) by omega, show off ≠ i by omega]
    · by_cases h2 : i = off
      · subst h2
        simp [show i < cs.length by omega]
        intros; omega
      · by_cases h3 : i < off + 1 + us.length
        · simp [h1, h3, show ¬ i < off + 1 by omega, show i < off + (us.length + 1) by omega, show i - off = (i - (off + 1)) + 1 by omega]
        · have e : off + 1 + us.length + (i - (off + 1 + us.length)) = i := by omega
          have e2 : off + (us.length + 1) + (i - (off + (us.length + 1))) = i := by omega
          simp only [h3, if_false, e, e2, show ¬ i < off + (us.length + 1) by omega]
          simp [show off ≠ i by omega]
theorem putCells_take (cs us : List Value) (off k : Nat) (h : off + us.length ≤ k) : (putCells cs off us).take k = putCells (cs.take k) off us := by
  induction us generalizing cs off with
  | nil => rfl
  | cons u us ih =>
    simp only [List.length_cons] at h
    simp only [putCells]
    rw [ih _ _ (by omega), List.take_set]
theorem putCells_RVs2 : ∀ {us : List V} {xs : List Value} {cs : List V} {vs : List Value} (off : Nat), RVs g w cs vs → RVs g w us xs → RVs g w (putCells cs off us) (putCells vs off xs)
  | [], [], _, _, _, h, _ => h
  | u :: us, x :: xs, cs, vs, off, h, h2 => by
    simp only [RVs] at h2
    simp only [putCells]
    exact putCells_RVs2 (off + 1) (h.set off h2.1) h2.2
  | [], _ :: _, _, _, _, _, h => by simp only [RVs] at h
  | _ :: _, [], _, _, _, _, h => by simp only [RVs] at h
theorem storeC_ok {n : Nat} {u x : V} {v y : Value} {p : Nat × Box} (h : storeC H n u x = some p) (hv : RV g w u v) (hx : RV g w x y) (hh : HeapOK g w H) :
    ∃ blk off w', v = .pointer (some ⟨blk, off, none⟩) ∧ y.cells.size = n ∧ (storeCells ⟨blk, off, none⟩ y.cells.toList).run P w = .ok () w' ∧ HeapOK g w' (happ H (some p)) ∧ Ext g w g w' := by
  cases u with
  | ptr b hb off =>
    simp only [storeC] at h
    cases hg : hget H b with
    | none => simp [hg] at h
    | some yb =>
      cases yb with
      | cells cs =>
        simp only [hg] at h
        cases hc : (Nat.beq cs.length hb && Nat.ble (off + n) hb && Nat.beq (cellsV x).length n && (cellsV x).all okC) with
        | false => rw [hc] at h; cases h
        | true =>
          rw [hc] at h
          simp only [cond_true, Option.some.injEq] at h
          simp only [Bool.and_eq_true] at hc
          have e1 := Nat.eq_of_beq_eq_true hc.1.1.1
          have e2 := Nat.le_of_ble_eq_true hc.1.1.2
          have e3 := Nat.eq_of_beq_eq_true hc.1.2
          obtain ⟨z, hz⟩ := hh.back b _ hg
          obtain ⟨_, y', hy', hr⟩ := hh.live b z hz
          rw [hg] at hy'; simp only [Option.some.injEq] at hy'; subst hy'
          simp only [RV] at hv
          obtain ⟨blk, cp, cur, rfl, h1, h2⟩ := hv.2 z hz
          simp only [RB] at hr
          obtain ⟨r1, r2, r3, c, e, r4, r5, r6⟩ := hr
          have hxs := cellsV_RV hc.2 hx
          have hxl := hxs.length
          have hys : y.cells.size = n := by simp at hxl; omega
          have hst := run_storeCells_at P blk off e y.cells.toList 0 c w r4 (by simp; omega) (RVs.one hc.2 hxs)
          simp only [Nat.add_zero] at hst
          rw [← putCells_eq _ _ _ (by simp; omega)] at hst
          have hw : ∀ j, j ≠ blk → (w.setRow blk (putCells c.toList off y.cells.toList).toArray).heap[j]? = w.heap[j]? := fun j hj => setRow_other w blk j _ hj
          have he : Ext g w g (w.setRow blk (putCells c.toList off y.cells.toList).toArray) := Ext.write hz rfl (hh.notFo hz rfl) rfl rfl rfl (by simp) hw
          refine ⟨blk, off, _, h1 (by omega), hys, hst, ?_, he⟩
          subst h
          refine HeapOK.write hh _ hz rfl he hw ?_
          simp only [RB]
          have hpl : ∀ (l : List Value) (i : Nat) (vs : List Value), (putCells l i vs).length = l.length := by
            intro l i vs
            induction vs generalizing l i with
            | nil => rfl
            | cons v vs ih => simp [putCells, ih]
          refine ⟨by rw [putCells_length]; exact r1, putCells_ok r2 hc.2, by rw [putCells_length]; exact r3, _, e, setRow_heap w blk c _ e _ r4, by simp [hpl]; exact r5, ?_⟩
          rw [putCells_length, List.toList_toArray, putCells_take _ _ _ _ (by simp; omega)]
          exact putCells_RVs2 off (RVs.ext he _ _ r6) (RVs.ext he _ _ hxs)
      | _ => simp [hg] at h
  | _ => simp [storeC] at h
theorem g_store {t : TypeId} {x y : Operand} {x' y' : Opd} {n : Nat} {p : Nat × Box} (ho : o.op = .store t x y) (hn : szOf P t = some n) (hx : compOpd x = some x') (hy : compOpd y = some y')
    (h1 : storeC H n (ρ x') (ρ y') = some p) (ev : Ev ρ a g w) (hh : HeapOK g w H) : Good P a o g w ns .any (happ H (some p)) := by
  obtain ⟨blk, off, w', e1, e2, e3, e4, e5⟩ := storeC_ok (P := P) h1 (ev _ _ hx) (ev _ _ hy) hh
  refine ⟨g, w', .skip, ?_, .inr ⟨rfl, rfl⟩, e4, e5, fun _ h => .inl h⟩
  simp [execOp, ho, e1, Instr.storeAt, Instr.sureAddr, storeVar, run_size hn, e2, e3]
end
end Fw

/-
  Operations, further: arithmetic, tests, strings, slices, fields, indexes.
-/
set_option linter.unusedSimpArgs false
namespace Fw
open Go
section
variable {P : Program} {a : Act} {o : Oper} {g : G} {w : World} {ρ : Opd → V} {H : Heap} {ns : Nat}
theorem g_nilchk {x : Operand} {y : Opd} {v : V} (ho : o.op = .nilCheck x) (hx : compOpd x = some y) (h : eff ρ H ns (.nilchk y) = some (v, none)) (ev : Ev ρ a g w) (hh : HeapOK g w H) : Good P a o g w ns v H := by
  have hv := ev _ _ hx
  simp only [eff] at h
  split at h <;> simp only [Option.some.injEq, Prod.mk.injEq, reduceCtorEq] at h
  · rename_i b hb off e
    obtain ⟨rfl, _⟩ := h
    rw [e] at hv
    have hv' := hv
    simp only [RV] at hv'
    obtain ⟨⟨⟨blk, q, e2⟩, _⟩, _⟩ := hv'
    exact Good.val (x := a.eval x) hh (by simp [execOp, ho, e2]) hv
  · rename_i cs e
    obtain ⟨rfl, _⟩ := h
    rw [e] at hv
    have hv' := hv
    simp only [RV] at hv'
    obtain ⟨blk, q, e2, _⟩ := hv'
    exact Good.val (x := a.eval x) hh (by simp [execOp, ho, e2]) hv
  · rename_i f p q e
    obtain ⟨rfl, _⟩ := h
    rw [e] at hv
    have hv' := hv
    simp only [RV] at hv'
    obtain ⟨p', q', e2, _⟩ := hv'
    exact Good.val (x := a.eval x) hh (by simp [execOp, ho, e2]) hv
theorem bytesLess_eq : ∀ (x y : List UInt8), Fw.bytesLess x y = Op.bytesLess x y
  | x, [] => by cases x <;> rfl
  | [], _ :: _ => rfl
  | p :: x, q :: y => by
    simp only [Fw.bytesLess, Op.bytesLess, bytesLess_eq x y]
    by_cases h1 : p.toNat < q.toNat
    · have e1 : Nat.blt p.toNat q.toNat = true := by simpa [Nat.blt_eq] using h1
      have : decide (p < q) = true := by simpa [UInt8.lt_iff_toNat_lt] using h1
      simp [e1, this]
    · have e1 : Nat.blt p.toNat q.toNat = false := by
        cases hb : Nat.blt p.toNat q.toNat
        · rfl
        · rw [Nat.blt_eq] at hb; exact absurd hb h1
      have : decide (p < q) = false := by simp [UInt8.lt_iff_toNat_lt]; omega
      rw [e1, this]
      simp only [cond_false, Bool.false_or]
      by_cases h2 : p = q
      · subst h2; simp
      · have : Nat.beq p.toNat q.toNat = false := beq_ff (fun e => h2 (UInt8.toNat_inj.1 e))
        simp [this, h2]
theorem bytesEq_eq : ∀ (x y : List UInt8), Fw.bytesEq x y = (x == y)
  | [], [] => rfl
  | [], _ :: _ => rfl
  | _ :: _, [] => rfl
  | p :: x, q :: y => by
    simp only [Fw.bytesEq, bytesEq_eq x y]
    by_cases h2 : p = q
    · subst h2; simp
    · have : Nat.beq p.toNat q.toNat = false := beq_ff (fun e => h2 (UInt8.toNat_inj.1 e))
      simp [this, h2]
theorem bytesEq_iff (x y : List UInt8) : Fw.bytesEq x y = decide (x = y) := by
  rw [bytesEq_eq]
  by_cases h : x = y <;> simp [h]
theorem eq_run {t : TypeId} {x y : Value} {r : Result Bool} (h : ∀ d, (Op.equalIn (d + 1) t x y).run P w = r) : (Op.equal t x y).run P w = r := h 9999
theorem binS_ok {op : BinOp} {s t : ByteArray} {d : D} (h : binS op s.data.toList t.data.toList = some d) : ∃ v, (Op.stringOp op s t).run P w = .ok v w ∧ RV g w (.d d) v := by
  unfold binS at h
  split at h
  · split at h
    · rename_i hl
      simp only [Option.some.injEq] at h; subst h
      have hl' : s.size + t.size ≤ 2 ^ 62 := by simpa [maxStr] using hl
      refine ⟨.string (s ++ t), ?_, ?_⟩
      · have : ¬ (((s.size + t.size : Nat) : Int) > IntKind.i64.max) := by
          have e : IntKind.i64.max = 9223372036854775807 := by decide
          rw [e]; omega
        simp only [Op.stringOp]
        rw [if_neg this]
        rfl
      · have : s.data.toList ++ t.data.toList = (s ++ t).data.toList := by rw [ByteArray.data_append, Array.toList_append]
        rw [this]
        exact RV.mkS _
    · cases h
  all_goals (simp only [Option.some.injEq, reduceCtorEq] at h <;> subst h)
  all_goals (refine ⟨_, by simp only [Op.stringOp]; rfl, ?_⟩; simp only [Lib.toList_data, bytesEq_eq, bytesLess_eq, RV, Rd])
theorem g_bin {op : BinOp} {t yt : TypeId} {x y : Operand} {x' y' : Opd} {v : V} (ho : o.op = .binOp op t x y yt) (hx : compOpd x = some x') (hy : compOpd y = some y') (h : binD op (ρ x') (ρ y') = some v) (ev : Ev ρ a g w) (hh : HeapOK g w H) :
    Good P a o g w ns v H := by
  have hvx := ev _ _ hx
  have hvy := ev _ _ hy
  unfold binD at h
  split at h
  · rename_i k n k' m e1 e2
    split at h
    · rename_i hk; subst hk
      simp only [Option.map_eq_some_iff] at h
      obtain ⟨d, hd, rfl⟩ := h
      rw [e1] at hvx; rw [e2] at hvy
      have f1 := RV.int hvx
      have f2 := RV.int hvy
      have hg : (eqGuard op t x y (a.eval x) (a.eval y)).run P w = .ok () w := by
        rw [f1, f2]; unfold eqGuard; cases op <;> simp
      unfold binI at hd
      split at hd
      case h_4 =>
        split at hd
        · cases hd
        · rename_i hz
          simp only [Option.some.injEq] at hd; subst hd
          exact Good.val hh (by simp only [execOp, ho, Sem.run_bind, hg, Result.andThen_ok]; simp only [f1, f2, binOp]; simp [Op.intDiv, hz]) (RV.mkI _ _)
      case h_5 =>
        split at hd
        · cases hd
        · rename_i hz
          simp only [Option.some.injEq] at hd; subst hd
          exact Good.val hh (by simp only [execOp, ho, Sem.run_bind, hg, Result.andThen_ok]; simp only [f1, f2, binOp]; simp [Op.intDiv, hz]) (RV.mkI _ _)
      all_goals (simp only [Option.some.injEq, reduceCtorEq] at hd <;> subst hd)
      all_goals first
        | exact Good.val hh (by simp only [execOp, ho, Sem.run_bind, hg, Result.andThen_ok]; simp only [f1, f2, binOp]; simp [Op.intArith]) (RV.mkI _ _)
        | exact Good.val hh (by simp only [execOp, ho, Sem.run_bind, hg, Result.andThen_ok]; simp only [f1, f2, binOp]; simp [Op.intCmp]) (RV.mkB _)
    · cases h
  · rename_i s t' e1 e2
    simp only [Option.map_eq_some_iff] at h
    obtain ⟨d, hd, rfl⟩ := h
    rw [e1] at hvx; rw [e2] at hvy
    obtain ⟨s1, f1, rfl⟩ := RV.str hvx
    obtain ⟨s2, f2, rfl⟩ := RV.str hvy
    obtain ⟨r, hr, hrv⟩ := binS_ok (P := P) (g := g) (w := w) hd
    have hg : (eqGuard op t x y (a.eval x) (a.eval y)).run P w = .ok () w := by
      rw [f1, f2]; unfold eqGuard; cases op <;> simp
    refine Good.val hh ?_ hrv
    have hb : (binOp op t (.string s1) (.string s2)).run P w = .ok r w := by
      rw [← hr]; cases op <;> rfl
    simp only [execOp, ho, Sem.run_bind, hg, Result.andThen_ok]
    simp only [f1, f2, hb, Result.andThen_ok, Sem.run_pure]
  · cases h
set_option maxHeartbeats 1000000 in
theorem g_eq {op : BinOp} {t yt : TypeId} {x y : Operand} {x' y' : Opd} {k : EqKind} {b neg : Bool} (ho : o.op = .binOp op t x y yt) (hop : (op = .eql ∧ neg = false) ∨ (op = .neq ∧ neg = true))
    (hk : match k with | .bool => P.underlying t = some .bool | .ptr => ∃ e, P.underlying t = some (.pointer e) | .iface => (∃ e, P.underlying t = some (.interface e)) ∧ ((∃ c, x = .const c) ∨ ∃ c, y = .const c) | .slice => ∃ e, P.underlying t = some (.slice e) | .func => ∃ s : Array TypeId × Array TypeId × Bool, P.underlying t = some (.func s.1 s.2.1 s.2.2))
    (hx : compOpd x = some x') (hy : compOpd y = some y') (h : eqV H k (ρ x') (ρ y') = some b) (ev : Ev ρ a g w) (hh : HeapOK g w H) :
    Good P a o g w ns (.d (.bool (bif neg then !b else b))) H := by
  have hvx := ev _ _ hx
  have hvy := ev _ _ hy
  have key : ∀ (vx vy : Value), a.eval x = vx → a.eval y = vy → (eqGuard op t x y vx vy).run P w = .ok () w → (Op.equal t vx vy).run P w = .ok b w →
      (∀ k n, vx ≠ .int k n) → (∀ k n, vx ≠ .float k n) → (∀ k n m, vx ≠ .complex k n m) → (∀ s, vx ≠ .string s) → Good P a o g w ns (.d (.bool (bif neg then !b else b))) H := by
    intro vx vy h1 h2 h3 h4 n1 n2 n3 n4
    refine Good.val (x := .bool (bif neg then !b else b)) hh ?_ (RV.mkB _)
    have hb : (binOp op t vx vy).run P w = .ok (.bool (bif neg then !b else b)) w := by
      rcases hop with ⟨rfl, rfl⟩ | ⟨rfl, rfl⟩
      · cases vx <;> simp_all [binOp] <;> (cases vy <;> simp_all)
      · cases vx <;> simp_all [binOp] <;> (cases vy <;> simp_all)
    simp [execOp, ho, h1, h2, h3, hb]
  unfold eqV at h
  have hop' : (match op with | .eql | .neq => true | _ => false) = true := by rcases hop with ⟨rfl, _⟩ | ⟨rfl, _⟩ <;> rfl
  have fin : ∀ (vx vy : Value) (e : TypeId), P.underlying t = some (.slice e) → ((∃ a l c, vx = .slice a l c) ∧ vy = .slice none 0 0 ∨ (∃ a l c, vy = .slice a l c) ∧ vx = .slice none 0 0) → a.eval x = vx → a.eval y = vy →
      (∀ a l c a' l' c', vx = .slice a l c → vy = .slice a' l' c' → b = (a.isNone && a'.isNone)) → Good P a o g w ns (.d (.bool (bif neg then !b else b))) H := by
    intro vx vy e he hs h1 h2 hb
    rcases hs with ⟨⟨p, l, c, rfl⟩, rfl⟩ | ⟨⟨p, l, c, rfl⟩, rfl⟩
    · have := hb _ _ _ _ _ _ rfl rfl
      subst this
      refine key _ _ h1 h2 (by unfold eqGuard; rcases hop with ⟨rfl, _⟩ | ⟨rfl, _⟩ <;> simp) (eq_run fun d => ?_) (by simp) (by simp) (by simp) (by simp)
      cases p <;> simp [Op.equalIn, run_underlying he]
    · have := hb _ _ _ _ _ _ rfl rfl
      subst this
      refine key _ _ h1 h2 (by unfold eqGuard; rcases hop with ⟨rfl, _⟩ | ⟨rfl, _⟩ <;> simp) (eq_run fun d => ?_) (by simp) (by simp) (by simp) (by simp)
      cases p <;> simp [Op.equalIn, run_underlying he]
  have own : ∀ {bb h0 off len sz : Nat} {u : Value}, nilB H bb h0 = some b → RV g w (.sl bb h0 off len sz) u → ∃ a l c, u = .slice a l c ∧ b = a.isNone := by
    intro bb h0 off len sz u hn hu
    unfold nilB at hn
    split at hn
    · rename_i cs hg
      cases hc : Nat.beq cs.length h0 with
      | false => rw [hc] at hn; cases hn
      | true =>
        rw [hc] at hn
        simp only [cond_true, Option.some.injEq] at hn
        have hl := Nat.eq_of_beq_eq_true hc
        obtain ⟨xb, hxb⟩ := hh.back bb _ hg
        obtain ⟨_, y0, hy0, hr⟩ := hh.live bb xb hxb
        rw [hg] at hy0; simp only [Option.some.injEq] at hy0; subst hy0
        simp only [RV] at hu
        have hu2 := hu.2 xb hxb
        cases xb with
        | cells blk cp cur =>
          simp only [RB] at hr
          obtain ⟨cap, e1, _⟩ := hu2.2 (by omega)
          exact ⟨_, _, _, e1, by simp [← hn]⟩
        | nil => simp only [RB] at hr
        | obj => exact hu2.elim
    · rename_i hg
      cases hc : Nat.beq h0 0 with
      | false => rw [hc] at hn; cases hn
      | true =>
        rw [hc] at hn
        simp only [cond_true, Option.some.injEq] at hn
        obtain ⟨xb, hxb⟩ := hh.back bb _ hg
        obtain ⟨_, y0, hy0, hr⟩ := hh.live bb xb hxb
        rw [hg] at hy0; simp only [Option.some.injEq] at hy0; subst hy0
        simp only [RV] at hu
        have hu2 := hu.2 xb hxb
        cases xb with
        | cells blk cp cur => simp only [RB] at hr
        | nil => exact ⟨_, _, _, hu2.2.2.2, by simp [← hn]⟩
        | obj => exact hu2.elim
    · cases hn
  split at h <;> try simp only [Option.some.injEq, reduceCtorEq] at h
  · rename_i bb h0 _ _ _ e1 e2
    rw [e1] at hvx; rw [e2] at hvy
    obtain ⟨p, l, c, q1, q2⟩ := own h hvx
    simp only [RV] at hvy
    obtain ⟨e, he⟩ := hk
    exact fin _ _ e he (.inl ⟨⟨p, l, c, rfl⟩, rfl⟩) q1 hvy (by rintro _ _ _ _ _ _ hx1 hy1; cases hx1; cases hy1; simp [q2])
  · rename_i bb h0 _ _ _ e1 e2
    rw [e1] at hvx; rw [e2] at hvy
    obtain ⟨p, l, c, q1, q2⟩ := own h hvy
    simp only [RV] at hvx
    obtain ⟨e, he⟩ := hk
    exact fin _ _ e he (.inr ⟨⟨p, l, c, rfl⟩, rfl⟩) hvx q1 (by rintro _ _ _ _ _ _ hx1 hy1; cases hx1; cases hy1; simp [q2])
  · rename_i _ _ _ e1 e2
    rw [e1] at hvx; rw [e2] at hvy
    simp only [RV] at hvx hvy
    obtain ⟨⟨⟨blk, off, hvy⟩, _⟩, _⟩ := hvy
    subst h
    obtain ⟨e, he⟩ := hk
    exact key _ _ hvx hvy (by unfold eqGuard; rcases hop with ⟨rfl, _⟩ | ⟨rfl, _⟩ <;> simp) (eq_run fun d => by simp [Op.equalIn, run_underlying he]) (by simp) (by simp) (by simp) (by simp)
  · rename_i _ _ _ e1 e2
    rw [e1] at hvx; rw [e2] at hvy
    simp only [RV] at hvx hvy
    obtain ⟨⟨⟨blk, off, hvx⟩, _⟩, _⟩ := hvx
    subst h
    obtain ⟨e, he⟩ := hk
    exact key _ _ hvx hvy (by unfold eqGuard; rcases hop with ⟨rfl, _⟩ | ⟨rfl, _⟩ <;> simp) (eq_run fun d => by simp [Op.equalIn, run_underlying he]) (by simp) (by simp) (by simp) (by simp)
  · rename_i _ _ _ e1 e2
    rw [e1] at hvx; rw [e2] at hvy
    simp only [RV] at hvx hvy
    obtain ⟨p, q, hvx, _⟩ := hvx
    subst h
    obtain ⟨e, he⟩ := hk
    exact key _ _ hvx hvy (by unfold eqGuard; rcases hop with ⟨rfl, _⟩ | ⟨rfl, _⟩ <;> simp) (eq_run fun d => by simp [Op.equalIn, run_underlying he]) (by simp) (by simp) (by simp) (by simp)
  · rename_i e1 e2
    rw [e1] at hvx; rw [e2] at hvy
    simp only [RV] at hvx hvy
    subst h
    obtain ⟨e, he⟩ := hk
    exact key _ _ hvx hvy (by unfold eqGuard; rcases hop with ⟨rfl, _⟩ | ⟨rfl, _⟩ <;> simp) (eq_run fun d => by simp [Op.equalIn, run_underlying he]) (by simp) (by simp) (by simp) (by simp)
  · rename_i p q e1 e2
    rw [e1] at hvx; rw [e2] at hvy
    subst h
    simp only at hk
    exact key _ _ (RV.bool hvx) (RV.bool hvy) (by unfold eqGuard; rcases hop with ⟨rfl, _⟩ | ⟨rfl, _⟩ <;> simp) (eq_run fun d => by simp [Op.equalIn, run_underlying hk]) (by simp) (by simp) (by simp) (by simp)
  · rename_i e1 e2
    rw [e1] at hvx; rw [e2] at hvy
    simp only [RV] at hvx hvy
    subst h
    obtain ⟨e, he⟩ := hk
    exact key _ _ hvx hvy (by unfold eqGuard; rcases hop with ⟨rfl, _⟩ | ⟨rfl, _⟩ <;> simp) (eq_run fun d => by simp [Op.equalIn, run_underlying he]) (by simp) (by simp) (by simp) (by simp)
  · rename_i cs e1 e2
    rw [e1] at hvx; rw [e2] at hvy
    simp only [RV] at hvx hvy
    obtain ⟨blk, off, hvy, _⟩ := hvy
    subst h
    obtain ⟨e, he⟩ := hk
    exact key _ _ hvx hvy (by unfold eqGuard; rcases hop with ⟨rfl, _⟩ | ⟨rfl, _⟩ <;> simp) (eq_run fun d => by simp [Op.equalIn, run_underlying he]) (by simp) (by simp) (by simp) (by simp)
  · rename_i cs e1 e2
    rw [e1] at hvx; rw [e2] at hvy
    simp only [RV] at hvx hvy
    obtain ⟨blk, off, hvx, _⟩ := hvx
    subst h
    obtain ⟨e, he⟩ := hk
    exact key _ _ hvx hvy (by unfold eqGuard; rcases hop with ⟨rfl, _⟩ | ⟨rfl, _⟩ <;> simp) (eq_run fun d => by simp [Op.equalIn, run_underlying he]) (by simp) (by simp) (by simp) (by simp)
  · rename_i e1 e2
    rw [e1] at hvx; rw [e2] at hvy
    simp only [RV] at hvx hvy
    subst h
    obtain ⟨⟨e, he⟩, hc⟩ := hk
    refine key _ _ hvx hvy ?_ (eq_run fun d => by simp [Op.equalIn, run_underlying he]) (by simp) (by simp) (by simp) (by simp)
    unfold eqGuard
    rcases hop with ⟨rfl, _⟩ | ⟨rfl, _⟩ <;> rcases hc with ⟨c, rfl⟩ | ⟨c, rfl⟩ <;> simp
  · rename_i e1 e2
    rw [e1] at hvx; rw [e2] at hvy
    simp only [RV] at hvx hvy
    obtain ⟨tt, z, hvx⟩ := hvx
    subst h
    obtain ⟨⟨e, he⟩, hc⟩ := hk
    exact key _ _ hvx hvy (by unfold eqGuard; rcases hop with ⟨rfl, _⟩ | ⟨rfl, _⟩ <;> simp) (eq_run fun d => by simp [Op.equalIn, run_underlying he]) (by simp) (by simp) (by simp) (by simp)
  · rename_i e1 e2
    rw [e1] at hvx; rw [e2] at hvy
    simp only [RV] at hvx hvy
    obtain ⟨tt, z, hvy⟩ := hvy
    subst h
    obtain ⟨⟨e, he⟩, hc⟩ := hk
    exact key _ _ hvx hvy (by unfold eqGuard; rcases hop with ⟨rfl, _⟩ | ⟨rfl, _⟩ <;> simp) (eq_run fun d => by simp [Op.equalIn, run_underlying he]) (by simp) (by simp) (by simp) (by simp)
  · rename_i tt z e1 e2
    rw [e1] at hvx; rw [e2] at hvy
    simp only [RV] at hvx hvy
    obtain ⟨z', hvx, _⟩ := hvx
    subst h
    obtain ⟨⟨e, he⟩, hc⟩ := hk
    exact key _ _ hvx hvy (by unfold eqGuard; rcases hop with ⟨rfl, _⟩ | ⟨rfl, _⟩ <;> simp) (eq_run fun d => by simp [Op.equalIn, run_underlying he]) (by simp) (by simp) (by simp) (by simp)
  · rename_i tt z e1 e2
    rw [e1] at hvx; rw [e2] at hvy
    simp only [RV] at hvx hvy
    obtain ⟨z', hvy, _⟩ := hvy
    subst h
    obtain ⟨⟨e, he⟩, hc⟩ := hk
    exact key _ _ hvx hvy (by unfold eqGuard; rcases hop with ⟨rfl, _⟩ | ⟨rfl, _⟩ <;> simp) (eq_run fun d => by simp [Op.equalIn, run_underlying he]) (by simp) (by simp) (by simp) (by simp)
  · rename_i e1 e2
    rw [e1] at hvx; rw [e2] at hvy
    simp only [RV] at hvx hvy
    subst h
    obtain ⟨e, he⟩ := hk
    exact key _ _ hvx hvy (by unfold eqGuard; rcases hop with ⟨rfl, _⟩ | ⟨rfl, _⟩ <;> simp) (eq_run fun d => by simp [Op.equalIn, run_underlying he]) (by simp) (by simp) (by simp) (by simp)
  · rename_i e0 es0 e1 e2
    rw [e1] at hvx; rw [e2] at hvy
    simp only [RV, Rd, reduceCtorEq, false_and, false_or] at hvx hvy
    obtain ⟨blk, off, cap, sz, hvx, -⟩ := hvx
    subst h
    obtain ⟨e, he⟩ := hk
    exact key _ _ hvx hvy (by unfold eqGuard; rcases hop with ⟨rfl, _⟩ | ⟨rfl, _⟩ <;> simp) (eq_run fun d => by simp [Op.equalIn, run_underlying he]) (by simp) (by simp) (by simp) (by simp)
  · rename_i e0 es0 e1 e2
    rw [e1] at hvx; rw [e2] at hvy
    simp only [RV, Rd, reduceCtorEq, false_and, false_or] at hvx hvy
    obtain ⟨blk, off, cap, sz, hvy, -⟩ := hvy
    subst h
    obtain ⟨e, he⟩ := hk
    exact key _ _ hvx hvy (by unfold eqGuard; rcases hop with ⟨rfl, _⟩ | ⟨rfl, _⟩ <;> simp) (eq_run fun d => by simp [Op.equalIn, run_underlying he]) (by simp) (by simp) (by simp) (by simp)
theorem g_un {op : UnOp} {t : TypeId} {x : Operand} {x' : Opd} {v : V} (ho : o.op = .unOp op t x) (hx : compOpd x = some x') (h : unV op (ρ x') = some v) (ev : Ev ρ a g w) (hh : HeapOK g w H) : Good P a o g w ns v H := by
  have hvx := ev _ _ hx
  unfold unV at h
  split at h
  · rename_i k n e1
    rw [e1] at hvx
    split at h <;> simp only [Option.some.injEq, reduceCtorEq] at h
    subst h
    exact Good.val hh (by simp only [execOp, ho, RV.int hvx]; simp [Op.unary, Op.intArith]) (RV.mkI _ _)
  · rename_i b e1
    rw [e1] at hvx
    split at h <;> simp only [Option.some.injEq, reduceCtorEq] at h
    subst h
    exact Good.val hh (by simp only [execOp, ho, RV.bool hvx]; simp [Op.unary]) (RV.mkB _)
  · cases h
theorem g_conv {s d : TypeId} {k k0 : IntKind} {x : Operand} {x' : Opd} {k1 : IntKind} {n : Int} (ho : o.op = .convert s d x) (hs : P.underlying s = some (.int k0)) (hd : P.underlying d = some (.int k)) (hx : compOpd x = some x') (e : ρ x' = .d (.int k1 n)) (ev : Ev ρ a g w) (hh : HeapOK g w H) :
    Good P a o g w ns (.d (.int k (k.wrap n))) H := by
  have hvx := ev _ _ hx
  rw [e] at hvx
  exact Good.val hh (by simp only [execOp, ho, RV.int hvx]; simp [convert, run_underlying hs, run_underlying hd, Conv.intToInt]) (RV.mkI _ _)
theorem g_same {s d : TypeId} {x : Operand} {x' : Opd} {l : List UInt8} (ho : o.op = .convert s d x) (hs : P.underlying s = some .string) (hd : P.underlying d = some .string) (hx : compOpd x = some x') (e : ρ x' = .d (.str l)) (ev : Ev ρ a g w) (hh : HeapOK g w H) :
    Good P a o g w ns (.d (.str l)) H := by
  have hvx := ev _ _ hx
  rw [e] at hvx
  obtain ⟨b, hb, rfl⟩ := RV.str hvx
  exact Good.val hh (by simp only [execOp, ho, hb]; simp [convert, run_underlying hs, run_underlying hd]) (RV.mkS _)
end
end Fw

/-
  Operations, further: parts of strings and slices, fields, indexes, lengths.
-/
set_option linter.unusedSimpArgs false
namespace Fw
open Go
section
variable {P : Program} {a : Act} {o : Oper} {g : G} {w : World} {ρ : Opd → V} {H : Heap} {ns : Nat}
theorem natOf_ok {u : V} {v : Value} {n : Nat} (h : natOf u = some n) (hv : RV g w u v) : ∃ k, v = .int k n := by
  unfold natOf at h
  split at h
  · rename_i k z
    split at h
    · rename_i hz
      simp only [Option.some.injEq] at h; subst h
      exact ⟨k, by rw [RV.int hv, Int.toNat_of_nonneg hz]⟩
    · cases h
  · cases h
theorem run_bound {k : IntKind} {n y : Nat} (c : BoundsCode) (h : n ≤ y) : (Instr.sliceBound (.int k n) y c).run P w = .ok n w := by
  simp [Instr.sliceBound, asIntOf, h]
theorem bounds_ok {len cap l h : Nat} {lo hi : Option Operand} {lo' hi' : Option Opd} (isS : Bool) (hlo : compOpdO lo = some lo') (hhi : compOpdO hi = some hi') (hb : bounds ρ len lo' hi' = some (l, h)) (ev : Ev ρ a g w) (hc : len ≤ cap) :
    (Instr.sliceBounds isS len cap (lo.map a.eval) (hi.map a.eval) none).run P w = .ok (l, h, cap) w ∧ l ≤ h ∧ h ≤ len := by
  unfold bounds at hb
  split at hb
  · cases hb
  · rename_i h0 eh
    split at hb
    · cases hb
    · rename_i l0 el
      cases hcond : (Nat.ble l0 h0 && Nat.ble h0 len) with
      | false => rw [hcond] at hb; cases hb
      | true =>
        rw [hcond] at hb
        simp only [cond_true, Option.some.injEq, Prod.mk.injEq] at hb
        obtain ⟨rfl, rfl⟩ := hb
        simp only [Bool.and_eq_true] at hcond
        have e1 := Nat.le_of_ble_eq_true hcond.1
        have e2 := Nat.le_of_ble_eq_true hcond.2
        have f1 : (match hi.map a.eval with | some v => Instr.sliceBound v cap (if isS then .sliceAcap else .sliceAlen) | none => pure len : Sem Nat).run P w = .ok h0 w := by
          cases hi with
          | none =>
            simp [compOpdO] at hhi; subst hhi
            simp at eh; subst eh; simp
          | some x =>
            simp only [compOpdO, Option.map_eq_some_iff] at hhi
            obtain ⟨y, hy, rfl⟩ := hhi
            simp only at eh
            obtain ⟨k, hk⟩ := natOf_ok eh (ev _ _ hy)
            simp only [Option.map_some, hk]
            exact run_bound _ (by omega)
        have f2 : (match lo.map a.eval with | some v => Instr.sliceBound v h0 (if (none : Option Value).isSome then .slice3C else .sliceB) | none => pure 0 : Sem Nat).run P w = .ok l0 w := by
          cases lo with
          | none =>
            simp [compOpdO] at hlo; subst hlo
            simp at el; subst el; simp
          | some x =>
            simp only [compOpdO, Option.map_eq_some_iff] at hlo
            obtain ⟨y, hy, rfl⟩ := hlo
            simp only at el
            obtain ⟨k, hk⟩ := natOf_ok el (ev _ _ hy)
            simp only [Option.map_some, hk]
            exact run_bound _ e1
        refine ⟨?_, e1, e2⟩
        cases hi with
        | none =>
          simp only [Option.map_none, Sem.run_pure, Result.ok.injEq, and_true] at f1
          subst f1
          cases lo with
          | none =>
            simp only [Option.map_none, Sem.run_pure, Result.ok.injEq, and_true] at f2
            subst f2
            simp [Instr.sliceBounds]
          | some x =>
            simp only [Option.map_some] at f2
            simp only [Instr.sliceBounds, Option.map_none, Option.map_some, Sem.run_bind, Sem.run_pure, Result.andThen_ok, f2]
        | some y =>
          simp only [Option.map_some] at f1
          cases lo with
          | none =>
            simp only [Option.map_none, Sem.run_pure, Result.ok.injEq, and_true] at f2
            subst f2
            simp only [Instr.sliceBounds, Option.map_none, Option.map_some, Sem.run_bind, Sem.run_pure, Result.andThen_ok, f1]
          | some x =>
            simp only [Option.map_some] at f2
            simp only [Instr.sliceBounds, Option.map_some, Sem.run_bind, Sem.run_pure, Result.andThen_ok, f1, f2]
theorem extract_toList (b : ByteArray) (l h : Nat) : (b.extract l h).data.toList = (b.data.toList.take h).drop l := by
  rw [ByteArray.data_extract, Array.toList_extract]
  apply List.ext_getElem?
  intro i
  simp only [List.extract_eq_take_drop, List.getElem?_take, List.getElem?_drop]
  by_cases h1 : i < h - l
  · simp [h1, show l + i < h by omega]
  · simp [h1, show ¬ l + i < h by omega]
theorem g_sslice {t : TypeId} {x : Operand} {x' : Opd} {lo hi : Option Operand} {lo' hi' : Option Opd} {s : List UInt8} {l h : Nat} (ho : o.op = .slice t x lo hi none) (ht : P.underlying t = some .string)
    (hx : compOpd x = some x') (hlo : compOpdO lo = some lo') (hhi : compOpdO hi = some hi') (e : ρ x' = .d (.str s)) (hb : bounds ρ s.length lo' hi' = some (l, h)) (ev : Ev ρ a g w) (hh : HeapOK g w H) :
    Good P a o g w ns (.d (.str ((s.take h).drop l))) H := by
  have hv := ev _ _ hx
  rw [e] at hv
  obtain ⟨b, hb1, rfl⟩ := RV.str hv
  have hsz : b.data.toList.length = b.size := by simp
  rw [hsz] at hb
  obtain ⟨f1, f2, f3⟩ := bounds_ok (P := P) false hlo hhi hb ev (Nat.le_refl _)
  refine Good.val (x := .string (b.extract l h)) hh ?_ (by rw [← extract_toList]; exact RV.mkS _)
  simp [execOp, ho, hb1, Instr.sliceAt, run_underlying ht, Instr.slice, f1]
theorem RdE.get {im : Nat → Prop} {blk : Nat} : ∀ {es : List (List D)} {off sz : Nat} (i : Nat) {e : List D}, RdE w im blk off sz es → es[i]? = some e → e.length = sz ∧ RdC w im blk (off + i * sz) e
  | [], _, _, i, e, _, h => by simp at h
  | e0 :: es, off, sz, 0, e, h, he => by
    simp only [RdE] at h
    simp at he; subst he
    simpa using ⟨h.1, h.2.1⟩
  | e0 :: es, off, sz, i + 1, e, h, he => by
    simp only [RdE] at h
    simp at he
    have := RdE.get i h.2.2 he
    refine ⟨this.1, ?_⟩
    rw [show off + (i + 1) * sz = off + sz + i * sz by rw [Nat.add_mul]; omega]
    exact this.2
theorem RdE.of_get {im : Nat → Prop} {blk sz : Nat} : ∀ {es : List (List D)} {off : Nat}, (∀ i e, es[i]? = some e → e.length = sz ∧ RdC w im blk (off + i * sz) e) → RdE w im blk off sz es
  | [], _, _ => by simp only [RdE]
  | e :: es, off, h => by
    simp only [RdE]
    have h0 := h 0 e rfl
    simp at h0
    refine ⟨h0.1, h0.2, RdE.of_get fun i e' he => ?_⟩
    have := h (i + 1) e' (by simpa using he)
    rw [show off + sz + i * sz = off + (i + 1) * sz by rw [Nat.add_mul]; omega]
    exact this
theorem all_len {es : List (List D)} {sz : Nat} (h : es.all (fun e => Nat.beq e.length sz) = true) : ∀ e ∈ es, e.length = sz :=
  fun e he => Nat.eq_of_beq_eq_true ((List.all_eq_true.1 h) e he)
theorem RV.list {es : List (List D)} {v : Value} {sz : Nat} (hv : RV g w (.d (.list es)) v) (hl : ∀ e ∈ es, e.length = sz) :
    (es = [] ∧ v = .slice none 0 0) ∨ ∃ blk off cap, v = .slice (some ⟨blk, off, none⟩) es.length cap ∧ es.length ≤ cap ∧ (es ≠ [] → imm g w blk) ∧ RdE w (imm g w) blk off sz es := by
  simp only [RV, Rd] at hv
  rcases hv with h | ⟨blk, off, cap, sz', h1, h2, h3, h4⟩
  · exact .inl h
  · refine .inr ⟨blk, off, cap, h1, h2, h3, ?_⟩
    cases es with
    | nil => simp only [RdE]
    | cons e es =>
      have e1 := (RdE.get 0 h4 rfl).1
      have e2 := hl e (by simp)
      rw [e1] at e2; subst e2
      exact h4
theorem g_lslice {t el : TypeId} {x : Operand} {x' : Opd} {lo hi : Option Operand} {lo' hi' : Option Opd} {es : List (List D)} {sz l h : Nat} (ho : o.op = .slice t x lo hi none) (ht : P.underlying t = some (.slice el)) (hs : szOf P el = some sz)
    (hx : compOpd x = some x') (hlo : compOpdO lo = some lo') (hhi : compOpdO hi = some hi') (e : ρ x' = .d (.list es)) (hl : es.all (fun e => Nat.beq e.length sz) = true) (hb : bounds ρ es.length lo' hi' = some (l, h)) (ev : Ev ρ a g w) (hh : HeapOK g w H) :
    Good P a o g w ns (.d (.list ((es.take h).drop l))) H := by
  have hv := ev _ _ hx
  rw [e] at hv
  rcases RV.list hv (all_len hl) with ⟨rfl, hn⟩ | ⟨blk, off, cap, h1, h2, h3, h4⟩
  · obtain ⟨f1, f2, f3⟩ := bounds_ok (P := P) (cap := 0) true hlo hhi hb ev (by simp)
    simp at f3; subst f3
    have : l = 0 := by omega
    subst this
    refine Good.val (x := .slice none 0 0) hh ?_ (by simp [RV, Rd])
    simp at f1
    simp [execOp, ho, hn, Instr.sliceAt, run_underlying ht, Instr.slice, f1, run_size hs]
  · obtain ⟨f1, f2, f3⟩ := bounds_ok (P := P) true hlo hhi hb ev h2
    have hlen : ((es.take h).drop l).length = h - l := by simp; omega
    refine Good.val (x := .slice (some (if cap = l then ⟨blk, off, none⟩ else ⟨blk, off + l * sz, none⟩)) (h - l) (cap - l)) hh ?_ ?_
    · simp only [execOp, ho, h1, Instr.sliceAt, Sem.run_bind, run_underlying ht, Result.andThen_ok, Instr.slice, Option.map_none, f1, run_size hs, Sem.run_pure]
      split <;> simp [Addr.add_mk]
    · simp only [RV, Rd]
      refine .inr ⟨blk, if cap = l then off else off + l * sz, cap - l, sz, ?_, by omega, fun hn => h3 ?_, ?_⟩
      · rw [hlen]; congr 2; split <;> rfl
      · rintro rfl; simp at hn
      · by_cases hc : cap = l
        · have : (es.take h).drop l = [] := List.eq_nil_of_length_eq_zero (by omega)
          rw [this]; simp only [RdE]
        · simp only [hc, if_false]
          refine RdE.of_get fun i e' he => ?_
          rw [List.getElem?_drop, List.getElem?_take] at he
          split at he
          · have := RdE.get (l + i) h4 he
            rw [Nat.add_mul, ← Nat.add_assoc] at this
            exact this
          · cases he
theorem live_cells {b h : Nat} {cs : List V} (hg : hget H b = some (.cells cs)) (hl : Nat.beq cs.length h = true) (hh : HeapOK g w H) :
    ∃ blk cp c e, g.γ b = some (.cells blk cp h) ∧ cs.all okC = true ∧ cs.length = h ∧ h ≤ cp ∧ w.heap[blk]? = some (.cells c e (0, 0)) ∧ cp ≤ c.size ∧ RVs g w cs (c.toList.take h) := by
  have e1 := Nat.eq_of_beq_eq_true hl
  obtain ⟨x, hx⟩ := hh.back b _ hg
  obtain ⟨_, y, hy, hr⟩ := hh.live b x hx
  rw [hg] at hy; simp only [Option.some.injEq] at hy; subst hy
  cases x with
  | cells blk cp cur =>
    simp only [RB] at hr
    obtain ⟨r1, r2, r3, c, e, r4, r5, r6⟩ := hr
    subst r1; subst e1
    exact ⟨blk, cp, c, e, hx, r2, rfl, r3, r4, r5, r6⟩
  | nil => simp only [RB] at hr
  | obj => simp only [RB] at hr
theorem RV.slLive {b h off len sz blk cp : Nat} {v : Value} (hv : RV g w (.sl b h off len sz) v) (hg : g.γ b = some (.cells blk cp h)) : ∃ cap, v = .slice (some ⟨blk, off, none⟩) len cap ∧ len ≤ cap ∧ off + cap * sz ≤ cp := by
  simp only [RV] at hv
  exact (hv.2 _ hg).2 rfl
theorem RV.slNil {b h off len sz : Nat} {v : Value} (hv : RV g w (.sl b h off len sz) v) (hg : g.γ b = some .nil) : h = 0 ∧ len = 0 ∧ off = 0 ∧ v = .slice none 0 0 := by
  simp only [RV] at hv
  exact hv.2 _ hg
theorem RV.dom {b h off len sz : Nat} {v : Value} (hv : RV g w (.sl b h off len sz) v) : g.dom b := by
  simp only [RV] at hv; exact hv.1.2
theorem RV.mkSl {b h off len sz blk cp cap : Nat} (hd : g.dom b) (hg : g.γ b = some (.cells blk cp h)) (h1 : len ≤ cap) (h2 : off + cap * sz ≤ cp) : RV g w (.sl b h off len sz) (.slice (some ⟨blk, off, none⟩) len cap) := by
  simp only [RV]
  refine ⟨⟨rfl, hd⟩, fun x hx => ?_⟩
  rw [hg] at hx; simp only [Option.some.injEq] at hx; subst hx
  exact ⟨Nat.le_refl _, fun _ => ⟨cap, rfl, h1, h2⟩⟩
theorem liveB_cases {b h : Nat} (hl : liveB H b h = true) (hh : HeapOK g w H) : (∃ blk cp, g.γ b = some (.cells blk cp h)) ∨ (h = 0 ∧ g.γ b = some .nil) := by
  unfold liveB at hl
  split at hl
  · rename_i cs hg
    obtain ⟨blk, cp, _, _, h1, _⟩ := live_cells hg hl hh
    exact .inl ⟨blk, cp, h1⟩
  · rename_i hg
    obtain ⟨x, hx⟩ := hh.back b _ hg
    obtain ⟨_, y, hy, hr⟩ := hh.live b x hx
    rw [hg] at hy; simp only [Option.some.injEq] at hy; subst hy
    cases x with
    | cells => simp only [RB] at hr
    | nil => exact .inr ⟨Nat.eq_of_beq_eq_true hl, hx⟩
    | obj => simp only [RB] at hr
  · cases hl
theorem cutS_RV {b hh' off sz l h n blk cp cap : Nat} (hd : g.dom b) (hg : g.γ b = some (.cells blk cp hh')) (h1 : l ≤ h) (h2 : h ≤ n) (h3 : n ≤ cap) (h4 : off + cap * sz ≤ cp) :
    RV g w (cutS b hh' off sz l h) (.slice (some (if cap = l then ⟨blk, off, none⟩ else ⟨blk, off + l * sz, none⟩)) (h - l) (cap - l)) := by
  unfold cutS
  cases hc : (Nat.beq l h && !(Nat.beq l 0)) with
  | true =>
    simp only [Bool.and_eq_true] at hc
    have e := Nat.eq_of_beq_eq_true hc.1
    subst e
    simp only [cond_true, RV, Rd]
    refine .inr ⟨blk, if cap = l then off else off + l * sz, cap - l, sz, ?_, by simp, by simp, by simp only [RdE]⟩
    simp only [Nat.sub_self, List.length_nil]
    congr 2
    split <;> rfl
  | false =>
    simp only [cond_false]
    have key : (if cap = l then (⟨blk, off, none⟩ : Addr) else ⟨blk, off + l * sz, none⟩) = ⟨blk, off + l * sz, none⟩ := by
      split
      · rename_i e
        by_cases h0 : l = 0
        · subst h0; simp
        · have : l = h := by omega
          subst this
          have : Nat.beq l 0 = false := beq_ff h0
          simp [this] at hc
      · rfl
    rw [key]
    refine RV.mkSl hd hg (by omega) ?_
    have : l * sz + (cap - l) * sz = cap * sz := by rw [← Nat.add_mul]; congr 1; omega
    omega
theorem g_lsliceO {t el : TypeId} {x : Operand} {x' : Opd} {lo hi : Option Operand} {lo' hi' : Option Opd} {b hb off len sz l h : Nat} (ho : o.op = .slice t x lo hi none) (ht : P.underlying t = some (.slice el)) (hs : szOf P el = some sz)
    (hx : compOpd x = some x') (hlo : compOpdO lo = some lo') (hhi : compOpdO hi = some hi') (e : ρ x' = .sl b hb off len sz) (hl : liveB H b hb = true) (hbd : bounds ρ len lo' hi' = some (l, h)) (ev : Ev ρ a g w) (hh : HeapOK g w H) :
    Good P a o g w ns (cutS b hb off sz l h) H := by
  have hv := ev _ _ hx
  rw [e] at hv
  rcases liveB_cases hl hh with ⟨blk, cp, hg⟩ | ⟨rfl, hg⟩
  · obtain ⟨cap, h1, h2, h3⟩ := RV.slLive hv hg
    obtain ⟨f1, f2, f3⟩ := bounds_ok (P := P) true hlo hhi hbd ev h2
    refine Good.val hh ?_ (cutS_RV (RV.dom hv) hg f2 f3 h2 h3)
    simp only [execOp, ho, h1, Instr.sliceAt, Sem.run_bind, run_underlying ht, Result.andThen_ok, Instr.slice, Option.map_none, f1, run_size hs, Sem.run_pure]
    split <;> simp [Addr.add_mk]
  · obtain ⟨_, rfl, rfl, h1⟩ := RV.slNil hv hg
    obtain ⟨f1, f2, f3⟩ := bounds_ok (P := P) (cap := 0) true hlo hhi hbd ev (Nat.le_refl _)
    have e1 : h = 0 := by omega
    have e2 : l = 0 := by omega
    subst e1; subst e2
    rw [h1] at hv
    refine Good.val (x := .slice none 0 0) hh ?_ (by simpa [cutS] using hv)
    simp [execOp, ho, h1, Instr.sliceAt, run_underlying ht, Instr.slice, f1, run_size hs]
theorem g_lsliceN {t el : TypeId} {x : Operand} {x' : Opd} {lo hi : Option Operand} {lo' hi' : Option Opd} {sz l h : Nat} (ho : o.op = .slice t x lo hi none) (ht : P.underlying t = some (.slice el)) (hs : szOf P el = some sz)
    (hx : compOpd x = some x') (hlo : compOpdO lo = some lo') (hhi : compOpdO hi = some hi') (e : ρ x' = .nils) (hbd : bounds ρ 0 lo' hi' = some (l, h)) (ev : Ev ρ a g w) (hh : HeapOK g w H) :
    Good P a o g w ns .nils H := by
  have hv := ev _ _ hx
  rw [e] at hv
  simp only [RV] at hv
  obtain ⟨f1, f2, f3⟩ := bounds_ok (P := P) (cap := 0) true hlo hhi hbd ev (Nat.le_refl _)
  have e1 : h = 0 := by omega
  have e2 : l = 0 := by omega
  subst e1; subst e2
  refine Good.val (x := .slice none 0 0) hh ?_ (by simp only [RV])
  simp [execOp, ho, hv, Instr.sliceAt, run_underlying ht, Instr.slice, f1, run_size hs]
theorem RV.ptrLive {b h off blk cp : Nat} {v : Value} (hv : RV g w (.ptr b h off) v) (hg : g.γ b = some (.cells blk cp h)) : v = .pointer (some ⟨blk, off, none⟩) := by
  simp only [RV] at hv
  obtain ⟨blk', cp', cur', h1, h2, _⟩ := hv.2 _ hg
  simp only [GB.cells.injEq] at h1
  obtain ⟨rfl, rfl, rfl⟩ := h1
  exact h2 rfl
theorem RV.ptrDom {b h off : Nat} {v : Value} (hv : RV g w (.ptr b h off) v) : g.dom b := by simp only [RV] at hv; exact hv.1.2
theorem g_aslice {t el : TypeId} {x : Operand} {x' : Opd} {lo hi : Option Operand} {lo' hi' : Option Opd} {b hb off n sz l h : Nat} (ho : o.op = .slice t x lo hi none) (ht : P.underlying t = some (.array n el)) (hs : szOf P el = some sz)
    (hx : compOpd x = some x') (hlo : compOpdO lo = some lo') (hhi : compOpdO hi = some hi') (e : ρ x' = .ptr b hb off) (hl : liveB H b hb = true) (hn : off + n * sz ≤ hb) (h0 : 0 < hb) (hbd : bounds ρ n lo' hi' = some (l, h)) (ev : Ev ρ a g w) (hh : HeapOK g w H) :
    Good P a o g w ns (cutS b hb off sz l h) H := by
  have hv := ev _ _ hx
  rw [e] at hv
  rcases liveB_cases hl hh with ⟨blk, cp, hg⟩ | ⟨rfl, hg⟩
  · have h1 := RV.ptrLive hv hg
    obtain ⟨f1, f2, f3⟩ := bounds_ok (P := P) false hlo hhi hbd ev (Nat.le_refl n)
    have hcp : hb ≤ cp := by
      obtain ⟨_, y, hy, hr⟩ := hh.live b _ hg
      cases y with
      | cells cs => simp only [RB] at hr; omega
      | _ => simp only [RB] at hr
    refine Good.val hh ?_ (cutS_RV (n := n) (cap := n) (RV.ptrDom hv) hg f2 f3 (Nat.le_refl _) (by omega))
    simp only [execOp, ho, h1, Instr.sliceAt, Sem.run_bind, run_underlying ht, Result.andThen_ok, Instr.sureAddr, Sem.run_pure, Option.map_none, f1, run_size hs]
    split <;> simp [Addr.add_mk]
  · omega
end
end Fw
