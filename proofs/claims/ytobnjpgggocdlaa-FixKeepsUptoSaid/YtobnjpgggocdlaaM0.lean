/- Part of a proof of a law of this seat: the machine of plain values, its simulation, and the contracts of the functions that the law reaches. Conditions: none beyond the given row. -/
import Derived.OrdersIn
import Derived.RangeFuncIn
import Derived.Laws.Sem
import Derived.Laws.World
import Derived.Laws.IdiomCopy
import Derived.ChangeKeysEq
import Derived.Laws.StructEq
import Derived.Laws.BytesString
import Derived.IntWalk
import Derived.Lib.AppendZerosOnto
import Derived.Lib.Overlaps
open Int renaming reduceLT → q2, reduceLE → q3, reduceBEq → q4, reduceBNe → q5, reduceEq → q6
open Nat renaming reduceAdd → q7, reduceLeDiff → q8, reduceLT → q9, reduceEqDiff → j1
set_option linter.unusedSimpArgs false
set_option linter.unusedVariables false
set_option linter.unnecessarySimpa false
set_option maxHeartbeats 4000000
section
namespace Go.Rmp
inductive SK where
  | nil | arg | full | own (t e : Nat)
  deriving DecidableEq
inductive T where
  | int (k : IntKind) (n : Int)
  | bool (b : Bool)
  | str (s : ByteArray)
  | nilp
  | ptr (b off : Nat)
  | iptr (cs : List T)
  | nilm
  | map (b : Nat)
  | sl (k : SK) (es : List (List T))
  | msl (b off len n : Nat)
  | mslc (b off len n c : Nat)
  | nilf
  | fn (f : Nat) (caps : List T)
  | yld (b : Nat)
  | niface
  | agg (cs : List T)
  | tup (vs : List T)
abbrev Regs := Nat → T
def undefT : T := .tup []
def T.one : T → Bool
  | .agg _ | .tup _ => false
  | _ => true
def T.cells? : T → Option (List T)
  | .agg cs => some cs
  | .tup _ => none
  | v => some [v]
def T.erase : T → T
  | .sl _ es => .sl .arg es
  | v => v
inductive X where
  | r (t : Nat)
  | c (v : T)
def X.ev (R : Regs) : X → T
  | .r t => R t
  | .c v => v
def upd (R : Regs) (d : Nat) (v : T) : Regs := fun t => if t = d then v else R t
def updo (R : Regs) (d : Option Nat) (v : T) : Regs := match d with | some d => upd R d v | none => R
inductive Cls where | ptr | slice | map | func
  deriving DecidableEq
inductive Lc where | str | sl | map
inductive Ty1 where | int | str | bool
  deriving DecidableEq
inductive KT where
  | sc (t : Ty1)
  | st (l : List Ty1)
def T.has1 : Ty1 → T → Bool
  | .int, .int _ _ | .str, .str _ | .bool, .bool _ => true
  | _, _ => false
def hasAll : List Ty1 → List T → Bool
  | [], [] => true
  | t :: ts, v :: vs => v.has1 t && hasAll ts vs
  | _, _ => false
def T.hasK : KT → T → Bool
  | .sc t, v => v.has1 t
  | .st l, .agg cs => hasAll l cs
  | _, _ => false
inductive Bo where
  | mov (x : X)
  | pick (c a b : X)
  | bin (op : BinOp) (x y : X)
  | eqr (neg : Bool) (c : Cls) (x y : X)
  | beq (neg : Bool) (x y : X)
  | eqs (neg : Bool) (ks : List Ty1) (x y : X)
  | un (op : UnOp) (x : X)
  | cvi (k : IntKind) (x : X)
  | cvs (x : X)
  /-- a text's bytes; or (m) a literal's bytes, told to be a text's -/
  | cvb (m : Bool) (x : X)
  | len (k : Lc) (x : X)
  | alloc (z : List T)
  | box (x : X)
  | build (z : List T) (ps : List (Nat × Nat × X))
  | bsl (n : Nat) (z : List T) (ps : List (Nat × X))
  | ld (n : Nat) (ag : Bool) (x : X)
  | st (n : Nat) (a v : X)
  | fad (off : Nat) (x : X)
  | fld (off n : Nat) (ag : Bool) (x : X)
  | iad (st : Nat) (x i : X)
  | iaa (n st : Nat) (x i : X)
  | ixs (x i : X)
  | ixa (n st : Nat) (ag : Bool) (x i : X)
  | sls (x : X) (lo hi : Option X)
  | sll (st : Nat) (x : X) (lo hi mx : Option X)
  | mkm
  | lkp (kt : KT) (z : T) (ok : Bool) (m k : X)
  | upm (kt : KT) (m k v : X)
  | del (kt : KT) (m k : X)
  | app (st bytes : Nat) (mu : Bool) (x y : X)
  | mks (mu : Bool) (bytes : Nat) (z : List T) (l c : X)
  | mkf (f : Nat) (caps : List X)
  | ext (i : Nat) (x : X)
  | mn (x y : X)
  | mx (x y : X)
  | nilc (x : X)
  | cap (x : X)
  | cpy (n : Nat) (x y : X)
  | ovl (n : Nat) (x y : X)
  | rng (x : X)
  | nxt (x : X)
  | ent (x : X)
  | clr (n : Nat) (z : List T) (x : X)
  | apz (n bytes : Nat) (z : List T) (x k : X)
  | bsm (n : Nat) (z : List T) (ps : List (Nat × X))
  | slr (n : Nat) (x hi : X)
abbrev Gd := Option (Nat × Bool)
structure Rd where
  d : Nat
  op : Bo
  g : Gd
inductive Op1 where
  | b (op : Bo)
  | call (f : Nat) (aq : List X)
  | callv (f : X) (aq : List X)
structure O where
  d : Option Nat
  op : Op1
  g : Gd
  stab : List Rd
inductive C where
  | skip
  | ops (l : List O)
  | seq (a b : C)
  | cond (x : X) (a b : C)
  | block (id : Nat) (a : C)
  | loop (a : C)
  | exit (id : Nat)
  | ret
  | rangeF (n : Nat) (x : X) (ps : List Nat) (asg body : C)
inductive Ex where
  | normal | exit (id : Nat) | ret
inductive LSt where
  | ready | busy | done
  deriving DecidableEq
inductive B where
  | cells (cs : List T)
  | map (es : List (T × T))
  | tok (e : Nat)
  | loop (st : LSt) (pend : Option Ex) (n : Nat) (R : Nat → T) (ps : List Nat) (asg body : C)
  | dfr
  | dead
  /-- a map that is ranged over: the places still to come; the range's block; the place last told -/
  | rmap (es : List (T × T)) (ix : List Nat) (bi : Nat) (cur : Option Nat)
  | itr (b : Nat)
  /-- written cells that stand still from here on: they may be read -/
  | fz (cs : List T)
  /-- a row of bytes out of a literal, not yet told to be a text's -/
  | lit (cs : List T)
abbrev Heap := List B
def strEq (a b : ByteArray) : Bool := a.toList == b.toList
def strLt (a b : ByteArray) : Bool := Op.bytesLess a.toList b.toList
def binT (op : BinOp) : T → T → Option T
  | .int k a, .int k' b =>
    match op with
    | .shl => if b < 0 then none else some (.int k (k.wrap (a * 2 ^ (min b.toNat k.bits))))
    | .shr => if b < 0 then none else some (.int k (a.fdiv (2 ^ (min b.toNat k.bits))))
    | op =>
      if k = k' then
        match op with
        | .add => some (.int k (k.wrap (a + b)))
        | .sub => some (.int k (k.wrap (a - b)))
        | .mul => some (.int k (k.wrap (a * b)))
        | .quo => if b = 0 then none else some (.int k (k.wrap (a.tdiv b)))
        | .rem => if b = 0 then none else some (.int k (a.tmod b))
        | .and => some (.int k (k.wrap (BitVec.ofInt k.bits a &&& BitVec.ofInt k.bits b).toNat))
        | .or => some (.int k (k.wrap (BitVec.ofInt k.bits a ||| BitVec.ofInt k.bits b).toNat))
        | .xor => some (.int k (k.wrap (BitVec.ofInt k.bits a ^^^ BitVec.ofInt k.bits b).toNat))
        | .andNot => some (.int k (k.wrap (BitVec.ofInt k.bits a &&& ~~~ BitVec.ofInt k.bits b).toNat))
        | .eql => some (.bool (a == b))
        | .neq => some (.bool (a != b))
        | .lss => some (.bool (a < b))
        | .leq => some (.bool (a ≤ b))
        | .gtr => some (.bool (a > b))
        | .geq => some (.bool (a ≥ b))
        | _ => none
      else none
  | .str a, .str b =>
    match op with
    | .add => if a.size + b.size ≤ 9223372036854775807 then some (.str (a ++ b)) else none
    | .eql => some (.bool (strEq a b))
    | .neq => some (.bool (!strEq a b))
    | .lss => some (.bool (strLt a b))
    | .leq => some (.bool (strLt a b || strEq a b))
    | .gtr => some (.bool (!(strLt a b || strEq a b)))
    | .geq => some (.bool (!strLt a b))
    | _ => none
  | _, _ => none
def unT (op : UnOp) : T → Option T
  | .int k n =>
    match op with
    | .neg => some (.int k (k.wrap (0 - n)))
    | .xor => some (.int k (k.wrap (BitVec.ofInt k.bits (if k.signed then -1 else k.max) ^^^ BitVec.ofInt k.bits n).toNat))
    | _ => none
  | .bool b => match op with | .not => some (.bool !b) | _ => none
  | _ => none
def nilOf : Cls → T → Option Bool
  | .ptr, .nilp => some true
  | .ptr, .ptr _ _ | .ptr, .iptr _ => some false
  | .slice, .sl .nil [] => some true
  | .slice, .sl .full _ | .slice, .sl (.own _ _) _ | .slice, .sl .arg (_ :: _) | .slice, .msl _ _ _ _ => some false
  | .map, .nilm => some true
  | .map, .map _ => some false
  | .func, .nilf => some true
  | .func, .fn _ _ => some false
  | _, _ => none
def eqRef (c : Cls) (x y : T) : Option Bool :=
  match nilOf c x, nilOf c y with
  | some true, some b => some b
  | some b, some true => some b
  | _, _ => none
def eqSc : T → T → Option Bool
  | .int k a, .int k' b => if k = k' then some (a == b) else none
  | .str a, .str b => some (strEq a b)
  | .bool a, .bool b => some (a == b)
  | _, _ => none
def eqCells : List T → List T → Option Bool
  | [], [] => some true
  | a :: aq, b :: bs => match eqSc a b, eqCells aq bs with
    | some x, some y => some (x && y)
    | _, _ => none
  | _, _ => none
def keyEq : T → T → Option Bool
  | .agg aq, .agg bs => eqCells aq bs
  | a, b => eqSc a b
def mfind (k : T) : List (T × T) → Option (Option Nat)
  | [] => some none
  | e :: es => match keyEq k e.1 with
    | some true => some (some 0)
    | some false => (mfind k es).map (Option.map (· + 1))
    | none => none
def mapEs (H : Heap) : T → Option (List (T × T))
  | .nilm => some []
  | .map b => match H[b]? with | some (.map es) => some es | some (.rmap es _ _ _) => some es | _ => none
  | _ => none
def fillT (cells : List T) : List (Nat × List T) → Option (List T)
  | [] => some cells
  | (off, vs) :: rest => if off + vs.length ≤ cells.length then fillT (cells.take off ++ vs ++ cells.drop (off + vs.length)) rest else none
def partsT (R : Regs) : List (Nat × Nat × X) → Option (List (Nat × List T))
  | [] => some []
  | (off, n, x) :: rest => match (x.ev R).cells?, partsT R rest with
    | some cs, some l => if cs.length = n then some ((off, cs) :: l) else none
    | _, _ => none
def fillE (n : Nat) (es : List (List T)) (R : Regs) : List (Nat × X) → Option (List (List T))
  | [] => some es
  | (i, x) :: rest => match (x.ev R).cells? with
    | some cs => if cs.length = n ∧ i < es.length then fillE n (es.set i (cs.map T.erase)) R rest else none
    | none => none
def fillM (n : Nat) (es : List (List T)) (R : Regs) : List (Nat × X) → Option (List (List T))
  | [] => some es
  | (i, x) :: rest => match (x.ev R).cells? with
    | some cs => if cs.length = n ∧ i < es.length then fillM n (es.set i cs) R rest else none
    | none => none
def ldc (H : Heap) (n : Nat) : T → Option (List T)
  | .ptr b off => match H[b]? with
    | some (.cells cs) => if off + n ≤ cs.length then some ((cs.drop off).take n) else none
    | some (.fz cs) => if off + n ≤ cs.length then some ((cs.drop off).take n) else none
    | _ => none
  | .iptr cs => if n ≤ cs.length then some (cs.take n) else none
  | _ => none
def valOf (ag : Bool) (cs : List T) : Option T :=
  if ag then some (.agg cs) else match cs with | [v] => some v | _ => none
def stc (H : Heap) (vs : List T) : T → Option Heap
  | .ptr b off => match H[b]? with
    | some (.cells cs) => if off + vs.length ≤ cs.length then some (H.set b (.cells (cs.take off ++ vs ++ cs.drop (off + vs.length)))) else none
    | _ => none
  | _ => none
def fadT (off : Nat) : T → Option T
  | .ptr b o => some (.ptr b (o + off))
  | .iptr cs => if off < cs.length then some (.iptr (cs.drop off)) else none
  | _ => none
def iadT (n i : Nat) : T → Option T
  | .sl _ es => match es[i]? with
    | some c => if c.length = n ∧ n ≠ 0 then some (.iptr c) else none
    | none => none
  | .msl b off len n' => if n' = n ∧ i < len ∧ n ≠ 0 then some (.ptr b (off + i * n)) else none
  | _ => none
def elemsOf (H : Heap) (n : Nat) : T → Option (List (List T))
  | .sl _ es => if es.all (·.length == n) then some es else none
  | .msl b off len n' => match H[b]? with
    | some (.cells cs) => if n' = n ∧ off + len * n ≤ cs.length then some ((List.range len).map fun i => (cs.drop (off + i * n)).take n) else none
    | some (.fz cs) => if n' = n ∧ off + len * n ≤ cs.length then some ((List.range len).map fun i => (cs.drop (off + i * n)).take n) else none
    | _ => none
  | .str s => if n = 1 then some (s.data.toList.map fun c => [.int .u8 c.toNat]) else none
  | _ => none
def bytesOf : List (List T) → Option (List UInt8)
  | [] => some []
  | [.int .u8 n] :: es => (bytesOf es).map (UInt8.ofNat n.toNat :: ·)
  | _ => none
def lenT (H : Heap) : Lc → T → Option Nat
  | .str, .str s => some s.size
  | .sl, .sl _ es => some es.length
  | .sl, .msl _ _ len _ => some len
  | .sl, .mslc _ _ len _ _ => some len
  | .map, .nilm => some 0
  | .map, .map b => match H[b]? with
    | some (.map es) => some es.length
    | some (.rmap es _ _ _) => some es.length
    | _ => none
  | _, _ => none
def natOf : T → Option Nat
  | .int _ n => if 0 ≤ n then some n.toNat else none
  | _ => none
def bnd (R : Regs) (d : Nat) : Option X → Option Nat
  | none => some d
  | some x => natOf (x.ev R)
def SK.cut (k : SK) (len lo hi : Nat) : SK :=
  match k with
  | .nil => .nil
  | .arg => .arg
  | .full => if hi = len then .full else .arg
  | .own t e => if hi = len ∧ lo < len then .own t e else .arg
def roomOk (need bytes : Nat) : Bool := (need + need / 4 + 512) * bytes ≤ 281474976710656
def appT (H : Heap) (bytes : Nat) (k : SK) (es new : List (List T)) : Option (T × Heap) :=
  match new with
  | [] => some (.sl k es, H)
  | _ =>
    if roomOk (es.length + new.length) bytes then
      match k with
      | .nil | .full => some (.sl (.own H.length (es.length + new.length)) (es ++ new.map (·.map T.erase)), H ++ [.tok (es.length + new.length)])
      | .own t e => match H[t]? with
        | some (.tok e') => if e = e' then some (.sl (.own t (e + new.length)) (es ++ new.map (·.map T.erase)), H.set t (.tok (e + new.length))) else none
        | _ => none
      | .arg => none
    else none
def isSlT : T → Bool
  | .sl _ _ | .msl _ _ _ _ => true
  | _ => false
def appM (H : Heap) (n bytes : Nat) (x : T) (new : List (List T)) : Option (T × Heap) :=
  match new with
  | [] => if isSlT x then some (x, H) else none
  | _ =>
    match x with
    | .sl .nil es | .sl .full es =>
      if roomOk (es.length + new.length) bytes ∧ es = [] then some (.msl H.length 0 new.length n, H ++ [.cells new.flatten]) else none
    | .msl b off len n' => match H[b]? with
      | some (.cells cs) =>
        if n' = n ∧ off = 0 ∧ len * n = cs.length ∧ roomOk (len + new.length) bytes then
          some (.msl H.length 0 (len + new.length) n, H.set b .dead ++ [.cells (cs ++ new.flatten)]) else none
      | _ => none
    | _ => none
def fgt : T → T
  | .mslc b off len n _ => .msl b off len n
  | t => t
def elemsK (H : Heap) (n k : Nat) : T → Option (List (List T))
  | .msl b off _ n' | .mslc b off _ n' _ => match H[b]? with
    | some (.cells cs) => if n' = n ∧ off + k * n ≤ cs.length then some ((List.range k).map fun i => (cs.drop (off + i * n)).take n) else none
    | _ => none
  | _ => none
def lenM : T → Option Nat
  | .msl _ _ len _ | .mslc _ _ len _ _ => some len
  | _ => none
def cpyT (H : Heap) (n : Nat) (x y : T) : Option (T × Heap) :=
  match x, lenM y with
  | .msl b off len n', some ly | .mslc b off len n' _, some ly =>
    match H[b]?, elemsK H n (min ly len) y with
    | some (.cells cs), some new =>
      if n' = n ∧ n ≠ 0 ∧ off ≤ cs.length then some (.int .i64 (min ly len : Nat), H.set b (.cells (cs.take off ++ new.flatten ++ cs.drop (off + (min ly len) * n)))) else none
    | _, _ => none
  | _, _ => none
def roLen (H : Heap) (b : Nat) : Nat := match H[b]? with
  | some (.cells cs) => cs.length
  | some (.fz cs) => cs.length
  | _ => 0
def apzT (H : Heap) (n bytes : Nat) (z : List T) (x : T) (k : Nat) : Option (T × Heap) :=
  match x with
  | .mslc b off len n' c => match elemsK H n len x with
    | some es => if n' = n ∧ n ≠ 0 ∧ 0 < k ∧ c < len + k ∧ z.length = n ∧ roomOk (len + k) bytes then some (.msl H.length 0 (len + k) n, H ++ [.cells (es.flatten ++ (List.replicate k z).flatten)]) else none
    | none => none
  | _ => none
def ovlT (H : Heap) (n : Nat) (x y : T) : Option (T × Heap) :=
  match x, y with
  | .msl bv _ _ n1, .mslc b _ len n2 _ =>
    match H[bv]?, H[b]? with
    | some (.cells _), some (.cells cs) => if bv ≠ b ∧ n1 = n ∧ n2 = n ∧ 0 < cs.length then some (.bool false, H) else none
    | _, _ => none
  | _, _ => none
def capsT (R : Regs) (l : List X) : List T := l.map (X.ev R)
def litz (n : Nat) : List T → Bool
  | [.int .u8 _] => n != 0
  | _ => false
def litB (n : Nat) (z cs : List T) : B := if litz n z then .lit cs else .cells cs
def evop (R : Regs) (H : Heap) : Bo → Option (T × Heap)
  | .mov x => some (x.ev R, H)
  | .pick c a b => match c.ev R with
    | .bool t => some (if t then a.ev R else b.ev R, H)
    | _ => none
  | .bin op x y => (binT op (x.ev R) (y.ev R)).map (·, H)
  | .eqr neg c x y => (eqRef c (x.ev R) (y.ev R)).map fun b => (.bool (if neg then !b else b), H)
  | .beq neg x y => match x.ev R, y.ev R with
    | .bool a, .bool b => some (.bool (if neg then !(a == b) else a == b), H)
    | _, _ => none
  | .eqs neg ks x y => match x.ev R, y.ev R with
    | .agg aq, .agg bs => if hasAll ks aq then (eqCells aq bs).map fun b => (.bool (if neg then !b else b), H) else none
    | _, _ => none
  | .un op x => (unT op (x.ev R)).map (·, H)
  | .cvi k x => match x.ev R with
    | .int _ n => some (.int k (k.wrap n), H)
    | _ => none
  | .cvs x => match elemsOf H 1 (x.ev R) with
    | some es => match x.ev R with
      | .str _ => none
      | _ => (bytesOf es).map fun l => (.str ⟨l.toArray⟩, H)
    | none => none
  | .cvb m x => match x.ev R with
    | .msl b off len n => match H[b]? with
      | some (.lit cs) => if m = true ∧ off = 0 ∧ n = 1 ∧ len = cs.length then some (.sl .arg (cs.map fun c => [c]), H.set b .dead) else none
      | _ => none
    | .str s => if m = false ∧ s.size ≤ 16777216 then some (.sl .arg (s.data.toList.map fun c => [.int .u8 c.toNat]), H) else none
    | _ => none
  | .len k x => (lenT H k (x.ev R)).map fun (n : Nat) => (T.int .i64 (n : Int), H)
  | .alloc z => some (.ptr H.length 0, H ++ [.cells z])
  | .box x => (x.ev R).cells?.map fun cs => (.ptr H.length 0, H ++ [.cells cs])
  | .build z ps => match partsT R ps with
    | some l => (fillT z l).map fun cs => (.agg cs, H)
    | none => none
  | .bsl n z ps => (fillE z.length (List.replicate n z) R ps).map fun es => (.sl .full es, H)
  | .ld n ag x => match ldc H n (x.ev R) with
    | some cs => (valOf ag cs).map (·, H)
    | none => none
  | .st n a v => match (v.ev R).cells? with
    | some vs => if vs.length = n then (stc H vs (a.ev R)).map (undefT, ·) else none
    | none => none
  | .fad off x => (fadT off (x.ev R)).map (·, H)
  | .fld off n ag x => match x.ev R with
    | .agg cs => if off + n ≤ cs.length then (valOf ag ((cs.drop off).take n)).map (·, H) else none
    | _ => none
  | .iad n x i => (natOf (i.ev R)).bind fun i => (iadT n i (x.ev R)).map (·, H)
  | .iaa len n x i => match x.ev R, natOf (i.ev R) with
    | .ptr b off, some i => if i < len then some (.ptr b (off + i * n), H) else none
    | _, _ => none
  | .ixs x i => match x.ev R, natOf (i.ev R) with
    | .str s, some i => (s.data[i]?).map fun c => (.int .u8 c.toNat, H)
    | _, _ => none
  | .ixa len n ag x i => match x.ev R, natOf (i.ev R) with
    | .agg cs, some i => if i < len ∧ i * n + n ≤ cs.length then (valOf ag ((cs.drop (i * n)).take n)).map (·, H) else none
    | _, _ => none
  | .sls x lo hi => match x.ev R with
    | .str s => match bnd R 0 lo, bnd R s.size hi with
      | some l, some h => if l ≤ h ∧ h ≤ s.size then some (.str (s.extract l h), H) else none
      | _, _ => none
    | _ => none
  | .sll n x lo hi mx => match x.ev R with
    | .sl k es => match bnd R 0 lo, bnd R es.length hi, mx with
      | some l, some h, none => if l ≤ h ∧ h ≤ es.length ∧ es.all (·.length == n) then some (.sl (k.cut es.length l h) ((es.take h).drop l), H) else none
      | some l, some h, some m => match natOf (m.ev R) with
        | some m =>
          if l ≤ h ∧ h ≤ m ∧ m ≤ es.length ∧ es.all (·.length == n) then
            some (.sl (if k = .nil then .nil else if es = [] ∧ k = .arg then .arg else if h = m then .full else .arg) ((es.take h).drop l), H) else none
        | none => none
      | _, _, _ => none
    | .msl b off len n' => match bnd R 0 lo, bnd R len hi, mx with
      | some l, some h, none =>
        if n' = n ∧ l ≤ h ∧ h ≤ len then some (if l = h then (if l = 0 then .msl b off 0 n else .sl .arg []) else .msl b (off + l * n) (h - l) n, H) else none
      | _, _, _ => none
    | .mslc b off len n' c => match bnd R 0 lo, bnd R len hi, mx with
      | some l, some h, none =>
        if n' = n ∧ l ≤ h ∧ h ≤ c then some (if l < c ∨ l = 0 then .mslc b (off + l * n) (h - l) n (c - l) else .sl .arg [], H) else none
      | _, _, _ => none
    | _ => none
  | .mkm => some (.map H.length, H ++ [.map []])
  | .lkp kt z ok m k =>
    if (k.ev R).hasK kt then
      match mapEs H (m.ev R) with
      | some es => match mfind (k.ev R) es with
        | some (some i) => match es[i]? with
          | some e => some (if ok then .tup [e.2, .bool true] else e.2, H)
          | none => none
        | some none => some (if ok then .tup [z, .bool false] else z, H)
        | none => none
      | none => none
    else none
  | .upm kt m k v => match m.ev R with
    | .map b => if (k.ev R).hasK kt then match H[b]? with
      | some (.map es) => match mfind (k.ev R) es with
        | some (some i) => some (undefT, H.set b (.map (es.set i (k.ev R, v.ev R))))
        | some none => some (undefT, H.set b (.map (es ++ [(k.ev R, v.ev R)])))
        | none => none
      | _ => none else none
    | _ => none
  | .del kt m k => match m.ev R with
    | .map b => if (k.ev R).hasK kt then match H[b]? with
      | some (.map es) => match mfind (k.ev R) es with
        | some (some i) => some (.tup [], H.set b (.map (es.eraseIdx i)))
        | some none => some (.tup [], H)
        | none => none
      | _ => none else none
    | _ => none
  | .app n bytes mu x y => match elemsOf H n (y.ev R) with
    | some new => if mu then appM H n bytes (fgt (x.ev R)) new else match x.ev R with
      | .sl k es => if es.all (·.length == n) then appT H bytes k es new else none
      | _ => none
    | none => none
  | .mks mu bytes z l c => match natOf (l.ev R), natOf (c.ev R) with
    | some l, some c =>
      if l ≤ c ∧ c * bytes ≤ 281474976710656 ∧ c ≤ 9223372036854775807 then
        if mu then some (.msl H.length 0 l z.length, H ++ [.cells (List.replicate l z).flatten])
        else if l = 0 then some (.sl .arg [], H) else some (.sl (.own H.length l) (List.replicate l z), H ++ [.tok l])
      else none
    | _, _ => none
  | .mkf f caps => some (.fn f (capsT R caps), H)
  | .ext i x => match x.ev R with
    | .tup vs => (vs[i]?).map (·, H)
    | _ => none
  | .mn x y => match x.ev R, y.ev R with
    | .int k a, .int _ b => some (.int k (if b < a then b else a), H)
    | _, _ => none
  | .mx x y => match x.ev R, y.ev R with
    | .int k a, .int _ b => some (.int k (if b > a then b else a), H)
    | _, _ => none
  | .nilc x => match x.ev R with
    | .nilp | .niface | .nilf => none
    | v => some (v, H)
  | .cap x => match x.ev R with
    | .mslc _ _ _ _ c => some (.int .i64 (c : Nat), H)
    | _ => none
  | .cpy n x y => cpyT H n (x.ev R) (y.ev R)
  | .rng x => match x.ev R with
    | .map b => (mapEs H (.map b)).map fun es => (.ptr H.length 0, H.set b (.rmap es (List.range es.length) H.length none) ++ [.itr b])
    | _ => none
  | .nxt _ => none
  | .ent x => match x.ev R with
    | .ptr bi 0 => match H[bi]? with
      | some (.itr b) => match H[b]? with
        | some (.rmap es _ bi' (some c)) => if bi' = bi then (es[c]?).map fun e => (.tup [e.1, e.2], H) else none
        | _ => none
      | _ => none
    | _ => none
  | .clr n z x => match x.ev R with
    | .msl b off len n' => match H[b]? with
      | some (.cells cs) => if n' = n ∧ z.length = n ∧ off + len * n ≤ cs.length then some (undefT, H.set b (.cells (cs.take off ++ (List.replicate len z).flatten ++ cs.drop (off + len * n)))) else none
      | _ => none
    | _ => none
  | .ovl n x y => ovlT H n (x.ev R) (y.ev R)
  | .apz n bytes z x k => (natOf (k.ev R)).bind fun k => apzT H n bytes z (x.ev R) k
  | .bsm n z ps => (fillM z.length (List.replicate n z) R ps).bind fun es => if z.length ≠ 0 then some (.msl H.length 0 n z.length, H ++ [litB n z es.flatten]) else none
  | .slr n x hi => match x.ev R, natOf (hi.ev R) with
    | .msl b off _ n', some h => if n' = n ∧ n ≠ 0 ∧ 0 < h ∧ off + h * n ≤ roLen H b then some (.msl b off h n, H) else none
    | _, _ => none
def wants (R : Regs) : Gd → Bool
  | none => true
  | some (t, b) => match R t with
    | .bool c => c == b
    | _ => false
inductive Rs where
  | t (r : Nat)
  | cl (r n : Nat) (ag : Bool)
structure Fn where
  n : Nat
  np : Nat
  res : List Rs
  body : C
structure Env where
  fn : Nat → Option Fn
  prim : Nat → List T → Heap → (T → Heap → Prop) → Prop
  mono : ∀ f az H (Q Q' : T → Heap → Prop), prim f az H Q → (∀ t H', Q t H' → Q' t H') → prim f az H Q'
inductive J where
  | code (c : C) (R : Regs)
  | ops (l : List O) (R : Regs)
  | call (f : Nat) (aq : List T)
inductive Out where
  | ex (e : Ex) (R : Regs)
  | val (v : T)
def C.hasR : C → Bool
  | .seq a b | .cond _ a b => a.hasR || b.hasR
  | .block _ a | .loop a => a.hasR
  | .rangeF _ _ _ _ _ => true
  | _ => false
def setps (R : Regs) : List Nat → List T → Regs
  | p :: ps, v :: vs => setps (upd R p v) ps vs
  | _, _ => R
def markOf : T → Option Nat
  | .ptr b 0 => some b
  | _ => none
def marksL : List T → Option (List Nat)
  | [] => some []
  | t :: ts => match markOf t, marksL ts with
    | some b, some bs => some (b :: bs)
    | _, _ => none
def marks : T → Option (List Nat)
  | .tup ts => marksL ts
  | _ => none
def pushMark (t : T) (b : Nat) : T := match t with
  | .tup ts => .tup (.ptr b 0 :: ts)
  | t => t
def kill (H : Heap) : List Nat → Heap
  | [] => H
  | b :: bs => kill (H.set b .dead) bs
def pendEx : Option Ex → Ex
  | none => .normal
  | some e => e
def regs0 (aq : List T) : Regs := fun t => aq.getD t undefT
def resV (R : Regs) (H : Heap) : Rs → Option T
  | .t r => some (R r)
  | .cl r n ag => match ldc H n (R r) with
    | some cs => valOf ag cs
    | none => none
def resL (R : Regs) (H : Heap) : List Rs → Option (List T)
  | [] => some []
  | x :: xs => match resV R H x, resL R H xs with
    | some v, some vs => some (v :: vs)
    | _, _ => none
def tupT : List T → T
  | [v] => v
  | l => .tup l
def resT (R : Regs) (H : Heap) (l : List Rs) : Option T := (resL R H l).map tupT
def stable (R : Regs) (H : Heap) (l : List Rd) : Prop := ∀ r ∈ l, wants R r.g = true → evop R H r.op = some (R r.d, H)
def frzE (cs : List T) (off len n : Nat) : List (List T) := (List.range len).map fun i => (cs.drop (off + i * n)).take n
def frz1 (b : Nat) (cs : List T) : T → T
  | .msl b' off len n => if b' = b ∧ off + len * n ≤ cs.length then .sl .arg (frzE cs off len n) else .msl b' off len n
  | t => t
def frzV (b : Nat) (cs : List T) : T → T
  | .tup vs => .tup (vs.map (frz1 b cs))
  | t => frz1 b cs t
def mslIn (b : Nat) : T → Prop
  | .tup vs => ∃ off len n, T.msl b off len n ∈ vs
  | .msl b' _ _ _ => b' = b
  | _ => False
inductive Vw (H : Heap) : T → T → Prop
  | refl (t : T) : Vw H t t
  | ms {b off len n : Nat} {cs : List T} {es : List (List T)} (src : Nat → Nat → T) (hb : H[b]? = some (.fz cs)) (hl : es.length = len) (hn : ∀ c ∈ es, c.length = n) (hle : off + len * n ≤ cs.length)
      (h1 : ∀ (i j : Nat) (c : List T) (t' : T), es[i]? = some c → c[j]? = some t' → cs[off + i * n + j]? = some (src i j) ∧ t'.one = true) (h2 : ∀ (i j : Nat) (c : List T) (t' : T), es[i]? = some c → c[j]? = some t' → Vw H (src i j) t') : Vw H (.msl b off len n) (.sl .arg es)
def KnB (H : Heap) (aq : List T) (b : Nat) : Prop := ∃ (i b' off len n : Nat), aq[i]? = some (.msl b' off len n) ∧ (b' = b ∨ ∃ (cs : List T) (j off' len' n' : Nat), (H[b']? = some (.cells cs) ∨ H[b']? = some (.fz cs)) ∧ (cs[j]? : Option T) = some (.msl b off' len' n'))
def NxtTo (H : Heap) (b bi : Nat) (es : List (T × T)) (ix : List Nat) (t : T) (H' : Heap) : Prop :=
  (ix = [] ∧ t = .tup [.bool false] ∧ H' = H.set b (.map es)) ∨ ∃ i e, i ∈ ix ∧ es[i]? = some e ∧ t = .tup [.bool true, e.1, e.2] ∧ H' = H.set b (.rmap es (ix.erase i) bi (some i))
inductive W (E : Env) : J → Heap → (Out → Heap → Prop) → Prop
  | skip {R H Q} (h : Q (.ex .normal R) H) : W E (.code .skip R) H Q
  | exit {id R H Q} (h : Q (.ex (.exit id) R) H) : W E (.code (.exit id) R) H Q
  | ret {R H Q} (h : Q (.ex .ret R) H) : W E (.code .ret R) H Q
  | reg {l R H Q} (h : W E (.ops l R) H Q) : W E (.code (.ops l) R) H Q
  | seq {a b R H Q} (M : Out → Heap → Prop) (h1 : W E (.code a R) H M) (h2 : ∀ R' H', M (.ex .normal R') H' → W E (.code b R') H' Q)
      (h3 : ∀ o H', M o H' → (∀ R', o ≠ .ex .normal R') → Q o H') : W E (.code (.seq a b) R) H Q
  | cond {x a b R H Q} (t : Bool) (hx : x.ev R = .bool t) (h : W E (.code (if t then a else b) R) H Q) : W E (.code (.cond x a b) R) H Q
  | block {id a R H Q} (M : Out → Heap → Prop) (h1 : W E (.code a R) H M) (h2 : ∀ R' H', M (.ex (.exit id) R') H' → Q (.ex .normal R') H')
      (h3 : ∀ o H', M o H' → (∀ R', o ≠ .ex (.exit id) R') → Q o H') : W E (.code (.block id a) R) H Q
  | loop {a R H Q} (M : Out → Heap → Prop) (h1 : W E (.code a R) H M) (h2 : ∀ R' H', M (.ex .normal R') H' → W E (.code (.loop a) R') H' Q)
      (h3 : ∀ o H', M o H' → (∀ R', o ≠ .ex .normal R') → Q o H') : W E (.code (.loop a) R) H Q
  | nil {R H Q} (h : Q (.ex .normal R) H) : W E (.ops [] R) H Q
  | no {o l R H Q} (hg : wants R o.g = false) (h : W E (.ops l (updo R o.d undefT)) H Q) : W E (.ops (o :: l) R) H Q
  | op {d b g s l R H Q v H'} (hg : wants R g = true) (he : evop R H b = some (v, H')) (hs : stable R H' s) (h : W E (.ops l (updo R d v)) H' Q) : W E (.ops (⟨d, .b b, g, s⟩ :: l) R) H Q
  | call {d f aq g s l R H Q} (M : Out → Heap → Prop) (hg : wants R g = true) (h1 : W E (.call f (aq.map (X.ev R))) H M)
      (hs : ∀ v H', M (.val v) H' → stable R H' s) (h2 : ∀ v H', M (.val v) H' → W E (.ops l (updo R d v)) H' Q) : W E (.ops (⟨d, .call f aq, g, s⟩ :: l) R) H Q
  | callv {d x f cs aq g s l R H Q} (M : Out → Heap → Prop) (hg : wants R g = true) (hf : x.ev R = .fn f cs) (h1 : W E (.call f (aq.map (X.ev R) ++ cs)) H M)
      (hs : ∀ v H', M (.val v) H' → stable R H' s) (h2 : ∀ v H', M (.val v) H' → W E (.ops l (updo R d v)) H' Q) : W E (.ops (⟨d, .callv x aq, g, s⟩ :: l) R) H Q
  | nils {d neg c x y s l R H Q} (hs : s = []) (h : ∀ b : Bool, W E (.ops l (updo R d (.bool b))) H Q) (hx : x.ev R = .sl .arg []) (hy : y.ev R = .sl .nil []) (hc : c = .slice) :
      W E (.ops (⟨d, .b (.eqr neg c x y), none, s⟩ :: l) R) H Q
  | yld {d x b aq g s l R H Q n R0 ps asg body} (M1 M : Out → Heap → Prop) (hg : wants R g = true) (hf : x.ev R = .yld b) (hb : H[b]? = some (.loop .ready none n R0 ps asg body)) (hn : aq.length = ps.length)
      (h1 : W E (.code asg (setps R0 ps (aq.map (X.ev R)))) H M1) (h1' : ∀ o H', M1 o H' → (∃ R1, o = .ex .normal R1) ∧ H'[b]? = some (.loop .ready none n R0 ps asg body))
      (h2 : ∀ R1 H1, M1 (.ex .normal R1) H1 → W E (.code body R1) (H1.set b (.loop .busy none n R0 ps asg body)) M) (h2' : ∀ o H', M o H' → H'[b]? = some (.loop .busy none n R0 ps asg body))
      (hs3 : ∀ R' H', M (.ex .normal R') H' → stable R (H'.set b (.loop .ready none n R0 ps asg body)) s)
      (h3 : ∀ R' H', M (.ex .normal R') H' → W E (.ops l (updo R d (.bool true))) (H'.set b (.loop .ready none n R0 ps asg body)) Q)
      (hs4 : ∀ e R' H', M (.ex e R') H' → e ≠ .normal → stable R (H'.set b (.loop .done (some e) n R0 ps asg body)) s)
      (h4 : ∀ e R' H', M (.ex e R') H' → e ≠ .normal → W E (.ops l (updo R d (.bool false))) (H'.set b (.loop .done (some e) n R0 ps asg body)) Q) : W E (.ops (⟨d, .callv x aq, g, s⟩ :: l) R) H Q
  | rangeF {n x ps asg body R H Q f cs} (M : Out → Heap → Prop) (hx : x.ev R = .fn f cs) (h1 : W E (.call f (.yld (H.length + 1) :: cs)) (H ++ [.dfr, .loop .ready none n R ps asg body]) M)
      (h2 : ∀ v H', M (.val v) H' → ∃ st pend, st ≠ .busy ∧ pend ≠ some .normal ∧ H'[H.length + 1]? = some (.loop st pend n R ps asg body) ∧ Q (.ex (pendEx pend) (upd R n (pushMark (R n) H.length))) (H'.set (H.length + 1) .dead)) :
      W E (.code (.rangeF n x ps asg body) R) H Q
  | fnr {f aq H Q fn} (M : Out → Heap → Prop) (hf : E.fn f = some fn) (hn : aq.length = fn.np) (h1 : W E (.code fn.body (regs0 aq)) H M)
      (h2 : ∀ o H', M o H' → ∃ R' bs, (o = .ex .normal R' ∨ o = .ex .ret R') ∧ marks (R' fn.n) = some bs ∧ bs.Nodup ∧ (∀ b ∈ bs, H'[b]? = some .dfr) ∧ ∃ v, resT R' (kill H' bs) fn.res = some v ∧ Q (.val v) (kill H' bs)) : W E (.call f aq) H Q
  | fn {f aq H Q fn} (M : Out → Heap → Prop) (hf : E.fn f = some fn) (hr : fn.body.hasR = false) (hn : aq.length = fn.np) (h1 : W E (.code fn.body (regs0 aq)) H M)
      (h2 : ∀ o H', M o H' → ∃ R', (o = .ex .normal R' ∨ o = .ex .ret R') ∧ ∃ v, resT R' H' fn.res = some v ∧ Q (.val v) H') : W E (.call f aq) H Q
  | revl {f aq H Q b off len n} (i : Nat) (M : Out → Heap → Prop) (hi : aq[i]? = some (.msl b off len n)) (h1 : ∀ c, len ≤ c → W E (.call f (aq.set i (.mslc b off len n c))) H M) (h2 : ∀ v H', M (.val v) H' → Q (.val (fgt v)) H') : W E (.call f aq) H Q
  | frz {f aq H Q} (M : Out → Heap → Prop) (h1 : W E (.call f aq) H M) (h2 : ∀ o H', M o H' → ∃ v b cs, o = .val v ∧ mslIn b v ∧ H'[b]? = some (.cells cs) ∧ Q (.val (frzV b cs v)) (H'.set b .dead)) : W E (.call f aq) H Q
  | nxt {d x g s l R H Q b bi es ix cur} (hg : wants R g = true) (hx : x.ev R = .ptr bi 0) (hb : H[b]? = some (.rmap es ix bi cur))
      (hs : ∀ t H', NxtTo H b bi es ix t H' → stable R H' s) (h : ∀ t H', NxtTo H b bi es ix t H' → W E (.ops l (updo R d t)) H' Q) : W E (.ops (⟨d, .b (.nxt x), g, s⟩ :: l) R) H Q
  | shr {f aq H Q} (M : Out → Heap → Prop) (h1 : W E (.call f aq) H M) (h2 : ∀ o H', M o H' → ∃ v b cs k, o = .val v ∧ mslIn b v ∧ H'[b]? = some (.cells cs) ∧ Q (.val v) (H'.set b (.cells (cs.take k)))) : W E (.call f aq) H Q
  | frza {f aq H Q b off len n cs} (i : Nat) (hi : aq[i]? = some (.msl b off len n)) (hb : H[b]? = some (.cells cs)) (h : W E (.call f (aq.map (frzV b cs))) (H.set b .dead) Q) : W E (.call f aq) H Q
  | fza {f aq H Q b cs} (hk : KnB H aq b) (hb : H[b]? = some (.cells cs)) (h : W E (.call f aq) (H.set b (.fz cs)) Q) : W E (.call f aq) H Q
  | vw {f aq aq' H Q} (hl : aq'.length = aq.length) (hv : ∀ (i : Nat) (t t' : T), aq[i]? = some t → aq'[i]? = some t' → Vw H t t') (h : W E (.call f aq') H Q) : W E (.call f aq) H Q
  | aps {d n bytes y g s l R H Q b len cs v H' t} (hg : wants R g = true) (ht : R t = .msl b 0 len n) (hb : H[b]? = some (.cells cs)) (hlen : len * n = cs.length) (h0 : 0 < len)
      (he : evop (upd R t (.sl (.own H.length len) (frzE cs 0 len n))) (H.set b (.fz cs) ++ [.tok len]) (.app n bytes false (.r t) y) = some (v, H')) (hs : stable R H' s) (h : W E (.ops l (updo R d v)) H' Q) : W E (.ops (⟨d, .b (.app n bytes false (.r t) y), g, s⟩ :: l) R) H Q
  | prim {f aq H Q} (h : E.prim f aq H fun v H' => Q (.val v) H') : W E (.call f aq) H Q
end Go.Rmp
end

section
namespace Go.Rmp
inductive Ow where
  | free | imm | mut (b : Nat) | spare (t : Nat)
  deriving DecidableEq
structure Ctx where
  φ : Nat → Option (Nat × Nat × Nat)
  κ : Nat → Nat → Ow
  π : Nat → Nat → Option (Nat × Nat × Nat)
  ck : Nat → C → Code → Prop
def Imm (g : Ctx) (w : World) (r o : Nat) (v : Value) : Prop := g.κ r o = .imm ∧ w.cell? ⟨r, o, none⟩ = some v
def KOk (g : Ctx) (k : SK) (r o len cap n : Nat) : Prop :=
  match k with
  | .nil => False
  | .arg => True
  | .full => cap = len
  | .own t e => g.π t e = some (r, o + len * n, o + cap * n) ∧ 0 < len
inductive VR (g : Ctx) (w : World) : T → Value → Prop
  | int (k n) : VR g w (.int k n) (.int k n)
  | bool (b) : VR g w (.bool b) (.bool b)
  | str (s) : VR g w (.str s) (.string s)
  | nilp : VR g w .nilp (.pointer none)
  | ptr {b off r o q} (h : g.φ b = some (r, o, q)) : VR g w (.ptr b off) (.pointer (some ⟨r, o + off, none⟩))
  | iptr {cs r o} (vals : Nat → Value) (h1 : ∀ (j : Nat) (t : T), cs[j]? = some t → t.one = true ∧ Imm g w r (o + j) (vals j)) (h2 : ∀ (j : Nat) (t : T), cs[j]? = some t → VR g w t (vals j)) :
      VR g w (.iptr cs) (.pointer (some ⟨r, o, none⟩))
  | nilm : VR g w .nilm (.map none)
  | map {b r o q} (h : g.φ b = some (r, o, q)) : VR g w (.map b) (.map (some r))
  | slnil : VR g w (.sl .nil []) (.slice none 0 0)
  | slarg (a : Option Addr) : VR g w (.sl .arg []) (.slice a 0 0)
  | sl {k es r o cap n} (vals : Nat → Nat → Value) (hk : KOk g k r o es.length cap n) (hc : es.length ≤ cap) (hn : ∀ c ∈ es, c.length = n)
      (h1 : ∀ (i j : Nat) (c : List T) (t : T), es[i]? = some c → c[j]? = some t → t.one = true ∧ Imm g w r (o + i * n + j) (vals i j))
      (h2 : ∀ (i j : Nat) (c : List T) (t : T), es[i]? = some c → c[j]? = some t → VR g w t (vals i j)) :
      VR g w (.sl k es) (.slice (some ⟨r, o, none⟩) es.length cap)
  | msl {b off len n r o q cap} (h : g.φ b = some (r, o, q)) (hc : len ≤ cap) (hq : o + off + cap * n = q) : VR g w (.msl b off len n) (.slice (some ⟨r, o + off, none⟩) len cap)
  | mslc {b off len n r o q c} (h : g.φ b = some (r, o, q)) (hc : len ≤ c) (hq : o + off + c * n = q) : VR g w (.mslc b off len n c) (.slice (some ⟨r, o + off, none⟩) len c)
  | nilf : VR g w .nilf .nilFunc
  | fn {f caps vs} (hl : vs.size = caps.length) (h : ∀ (i : Nat) (t : T) (v : Value), caps[i]? = some t → vs[i]? = some v → VR g w t v) : VR g w (.fn f caps) (.func (.func f) #[] vs)
  | yld {b r o q} (h : g.φ b = some (r, o, q)) : VR g w (.yld b) (.func (.yield r) #[] #[])
  | niface : VR g w .niface .nilIface
  | agg {cs vs} (hl : vs.size = cs.length) (h1 : ∀ t ∈ cs, t.one = true) (h2 : ∀ (i : Nat) (t : T) (v : Value), cs[i]? = some t → vs[i]? = some v → VR g w t v) : VR g w (.agg cs) (.agg vs)
  | tup {cs vs} (hl : vs.size = cs.length) (h2 : ∀ (i : Nat) (t : T) (v : Value), cs[i]? = some t → vs[i]? = some v → VR g w t v) : VR g w (.tup cs) (.tuple vs)
structure Le (g : Ctx) (w : World) (g' : Ctx) (w' : World) : Prop where
  φ : ∀ b x, g.φ b = some x → g'.φ b = some x
  κ : ∀ r o, g.κ r o = .imm → g'.κ r o = .imm
  π : ∀ t e x, g.π t e = some x → g'.π t e = some x
  cell : ∀ r o v, g.κ r o = .imm → w.cell? ⟨r, o, none⟩ = some v → w'.cell? ⟨r, o, none⟩ = some v
  ck : g'.ck = g.ck
theorem Le.refl (g : Ctx) (w : World) : Le g w g w := ⟨fun _ _ h => h, fun _ _ h => h, fun _ _ _ h => h, fun _ _ _ _ h => h, rfl⟩
theorem Le.trans {g g' g'' : Ctx} {w w' w'' : World} (h : Le g w g' w') (h' : Le g' w' g'' w'') : Le g w g'' w'' :=
  ⟨fun b x e => h'.φ b x (h.φ b x e), fun r o e => h'.κ r o (h.κ r o e), fun t e x k => h'.π t e x (h.π t e x k), fun r o v k e => h'.cell r o v (h.κ r o k) (h.cell r o v k e), h'.ck.trans h.ck⟩
theorem Imm.mono {g g' : Ctx} {w w' : World} (le : Le g w g' w') {r o : Nat} {v : Value} (h : Imm g w r o v) : Imm g' w' r o v := ⟨le.κ _ _ h.1, le.cell _ _ _ h.1 h.2⟩
theorem KOk.mono {g g' : Ctx} {w w' : World} (le : Le g w g' w') {k : SK} {r o len cap n : Nat} (h : KOk g k r o len cap n) : KOk g' k r o len cap n := by
  cases k with
  | nil => exact h
  | arg => exact h
  | full => exact h
  | own t e => exact ⟨le.π _ _ _ h.1, h.2⟩
theorem VR.mono {g g' : Ctx} {w w' : World} (le : Le g w g' w') {t : T} {v : Value} (h : VR g w t v) : VR g' w' t v := by
  induction h with
  | int k n => exact .int k n
  | bool b => exact .bool b
  | str s => exact .str s
  | nilp => exact .nilp
  | ptr h => exact .ptr (le.φ _ _ h)
  | iptr vals h1 _ ih => exact .iptr vals (fun j t e => ⟨(h1 j t e).1, (h1 j t e).2.mono le⟩) ih
  | nilm => exact .nilm
  | map h => exact .map (le.φ _ _ h)
  | slnil => exact .slnil
  | slarg a => exact .slarg a
  | sl vals hk hc hn h1 _ ih => exact .sl vals (hk.mono le) hc hn (fun i j c t a b => ⟨(h1 i j c t a b).1, (h1 i j c t a b).2.mono le⟩) ih
  | msl h hc hq => exact .msl (le.φ _ _ h) hc hq
  | mslc h hc hq => exact .mslc (le.φ _ _ h) hc hq
  | nilf => exact .nilf
  | fn hl _ ih => exact .fn hl ih
  | yld h => exact .yld (le.φ _ _ h)
  | niface => exact .niface
  | agg hl h1 _ ih => exact .agg hl h1 ih
  | tup hl _ ih => exact .tup hl ih
theorem VR.erase {g : Ctx} {w : World} {t : T} {v : Value} (h : VR g w t v) : VR g w t.erase v := by
  cases h with
  | sl vals hk hc hn h1 h2 => exact .sl vals trivial hc hn h1 h2
  | slnil => exact .slarg none
  | slarg a => exact .slarg a
  | int k n => exact .int k n
  | bool b => exact .bool b
  | str s => exact .str s
  | nilp => exact .nilp
  | ptr h => exact .ptr h
  | iptr vals h1 h2 => exact .iptr vals h1 h2
  | nilm => exact .nilm
  | map h => exact .map h
  | msl h hc hq => exact .msl h hc hq
  | mslc h hc hq => exact .mslc h hc hq
  | nilf => exact .nilf
  | fn hl h => exact .fn hl h
  | yld h => exact .yld h
  | niface => exact .niface
  | agg hl h1 h2 => exact .agg hl h1 h2
  | tup hl h2 => exact .tup hl h2
theorem one_erase (t : T) : t.erase.one = t.one := by cases t <;> rfl
theorem VR.oneCell {g : Ctx} {w : World} {t : T} {v : Value} (h : VR g w t v) (ho : t.one = true) : v.oneCell' = true := by
  cases h <;> simp_all [T.one, Value.oneCell']
def CellsOk (g : Ctx) (w : World) (b : Nat) (cs : List T) (r o q : Nat) : Prop :=
  o + cs.length ≤ q ∧ (∀ j, o ≤ j → j < q → g.κ r j = .mut b ∧ (∀ j0, w.frozen? ⟨r, j0, none⟩ = false) ∧ (w.cell? ⟨r, j, none⟩).isSome = true) ∧
  ∀ (i : Nat) (t : T), cs[i]? = some t → t.one = true ∧ ∃ v, w.cell? ⟨r, o + i, none⟩ = some v ∧ VR g w t v
def FzOk (g : Ctx) (w : World) (cs : List T) (r o q : Nat) : Prop :=
  o + cs.length ≤ q ∧ ∀ (i : Nat) (t : T), cs[i]? = some t → t.one = true ∧ ∃ v, Imm g w r (o + i) v ∧ VR g w t v
def EntsOk (g : Ctx) (w : World) (es : List (T × T)) (ents : Array MapEntry) : Prop :=
  ents.size = es.length ∧ ∀ (i : Nat) (e : T × T) (m : MapEntry), es[i]? = some e → ents[i]? = some m → VR g w e.1 m.key ∧ VR g w e.2 m.val
def BornOk (ents : Array MapEntry) (clock : Nat) : Prop := (∀ m ∈ ents.toList, m.born < clock) ∧ (ents.toList.map (·.born)).Nodup
def RangeOk (ents : Array MapEntry) (seen : Array Nat) (ix : List Nat) (cur : Option Nat) : Prop :=
  ix.Nodup ∧ (∀ i, i ∈ ix ↔ ∃ m, ents[i]? = some m ∧ m.born ∉ seen) ∧ ∀ c, cur = some c → ∃ m, ents[c]? = some m ∧ seen.back? = some m.born
def TokOk (g : Ctx) (w : World) (t e : Nat) : Prop :=
  ∃ r p q, g.π t e = some (r, p, q) ∧ p ≤ q ∧ (∀ j, p ≤ j → j < q → g.κ r j = .spare t ∧ (∀ j0, w.frozen? ⟨r, j0, none⟩ = false) ∧ (w.cell? ⟨r, j, none⟩).isSome = true) ∧ ∀ e', e < e' → g.π t e' = none
def LSt.real : LSt → LoopState
  | .ready => .ready
  | .busy => .busy
  | .done => .done
def pendK : Option Ex → Option Code
  | some .ret => some .ret
  | some (.exit id) => some (.exit id)
  | _ => none
def LoopOk (g : Ctx) (w : World) (st : LSt) (pend : Option Ex) (n : Nat) (R : Nat → T) (ps : List Nat) (asg body : C) (rec : Loop) : Prop :=
  rec.state = st.real ∧ rec.pending = pendK pend ∧ rec.params.toList = ps ∧ rec.tmps.size = n ∧ (∀ t, t < n → VR g w (R t) (rec.tmps.getD t undef)) ∧ (∀ p ∈ ps, p < n) ∧ g.ck n asg rec.assign ∧ g.ck n body rec.body
def BlkOk (g : Ctx) (w : World) (b : Nat) : B → Prop
  | .cells cs => ∀ r o q, g.φ b = some (r, o, q) → CellsOk g w b cs r o q
  | .map es => ∀ r o q, g.φ b = some (r, o, q) → g.κ r 0 = .mut b ∧ ∃ ents clock, w.heap[r]? = some (.map ents clock) ∧ EntsOk g w es ents ∧ BornOk ents clock
  | .tok e => TokOk g w b e
  | .loop st pend n R ps asg body => ∀ r o q, g.φ b = some (r, o, q) → g.κ r 0 = .mut b ∧ ∃ rec, w.heap[r]? = some (.loop rec) ∧ LoopOk g w st pend n R ps asg body rec
  | .dfr => ∀ r o q, g.φ b = some (r, o, q) → g.κ r 0 = .mut b ∧ w.heap[r]? = some (.deferred (some []))
  | .dead => True
  | .rmap es ix bi cur => ∃ r o q, g.φ b = some (r, o, q) ∧ g.κ r 0 = .mut b ∧ ∃ ents clock, w.heap[r]? = some (.map ents clock) ∧ EntsOk g w es ents ∧ BornOk ents clock ∧
      ∃ ri q' seen, g.φ bi = some (ri, 0, q') ∧ g.κ ri 0 = .mut b ∧ w.heap[ri]? = some (.mapIter (some r) clock seen clock) ∧ RangeOk ents seen ix cur
  | .itr _ => True
  | .lit cs => ∃ r q, g.φ b = some (r, 0, q) ∧ g.κ r q = .mut b ∧ (∀ j, j ≠ q → g.κ r j = .imm) ∧ ∃ c t, w.heap[r]? = some (.cells c t) ∧ c.size = q ∧ cs.length = q ∧
      ∀ (i : Nat) (t : T), cs[i]? = some t → t.one = true ∧ ∃ v, c[i]? = some v ∧ VR g w t v
  | .fz cs => ∀ r o q, g.φ b = some (r, o, q) → FzOk g w cs r o q
structure SR (w0 : World) (g : Ctx) (H : Heap) (w : World) : Prop where
  size : w0.heap.size ≤ w.heap.size
  old : ∀ r, r < w0.heap.size → w.heap[r]? = w0.heap[r]?
  imm0 : ∀ r o, r < w0.heap.size → g.κ r o = .imm
  fresh : ∀ r o, w.heap.size ≤ r → g.κ r o = .free
  dom : ∀ b x, g.φ b = some x → b < H.length
  domt : ∀ t e x, g.π t e = some x → t < H.length
  blk : ∀ b x, H[b]? = some x → BlkOk g w b x
  env : w.os = w0.os ∧ w.output = w0.output
def solid : Obj → Bool
  | .map _ _ | .loop _ | .deferred _ | .mapIter _ _ _ _ => true
  | _ => false
structure Tr0 (w w' : World) (S : Nat → Nat → Prop) (M : Nat → Prop) : Prop where
  size : w.heap.size ≤ w'.heap.size
  cell : ∀ r j, r < w.heap.size → ¬ S r j → w'.cell? ⟨r, j, none⟩ = w.cell? ⟨r, j, none⟩
  keep : ∀ r j, r < w.heap.size → (w.cell? ⟨r, j, none⟩).isSome = true → (w'.cell? ⟨r, j, none⟩).isSome = true
  maps : ∀ r x, ¬ M r → solid x = true → w.heap[r]? = some x → w'.heap[r]? = some x
  old : ∀ r, r < w.heap.size → ¬ M r → (∀ j, ¬ S r j) → w'.heap[r]? = w.heap[r]?
  env : w'.os = w.os ∧ w'.output = w.output
structure Tr (w w' : World) (S : Nat → Nat → Prop) (M : Nat → Prop) : Prop extends Tr0 w w' S M where
  frz : ∀ r j, r < w.heap.size → w'.frozen? ⟨r, j, none⟩ = w.frozen? ⟨r, j, none⟩
theorem cell_lt {w : World} {r j : Nat} {v : Value} (h : w.cell? ⟨r, j, none⟩ = some v) : r < w.heap.size := by
  unfold World.cell? at h
  cases hr : w.heap[r]? with
  | none => simp [hr] at h
  | some x => exact (Array.getElem?_eq_some_iff.1 hr).1
theorem CellsOk.mono {g g' : Ctx} {w w' : World} {b : Nat} {cs : List T} {r o q : Nat} (h : CellsOk g w b cs r o q) (le : Le g w g' w')
    (hκ : ∀ j, o ≤ j → j < q → g'.κ r j = .mut b) (hf : ∀ j, o ≤ j → j < q → (∀ j0, w'.frozen? ⟨r, j0, none⟩ = w.frozen? ⟨r, j0, none⟩) ∧ w'.cell? ⟨r, j, none⟩ = w.cell? ⟨r, j, none⟩) : CellsOk g' w' b cs r o q := by
  obtain ⟨h1, h2, h3⟩ := h
  refine ⟨h1, fun j hj hq => ⟨hκ j hj hq, fun j0 => by rw [(hf j hj hq).1]; exact (h2 j hj hq).2.1 j0, by rw [(hf j hj hq).2]; exact (h2 j hj hq).2.2⟩, fun i t hi => ?_⟩
  have hlt : i < cs.length := (List.getElem?_eq_some_iff.1 hi).1
  obtain ⟨h4, v, h5, h6⟩ := h3 i t hi
  exact ⟨h4, v, by rw [(hf (o + i) (by omega) (by omega)).2]; exact h5, h6.mono le⟩
theorem FzOk.mono {g g' : Ctx} {w w' : World} {cs : List T} {r o q : Nat} (h : FzOk g w cs r o q) (le : Le g w g' w') : FzOk g' w' cs r o q :=
  ⟨h.1, fun i t hi => let ⟨a, v, b, c⟩ := h.2 i t hi; ⟨a, v, b.mono le, c.mono le⟩⟩
theorem EntsOk.mono {g g' : Ctx} {w w' : World} {es : List (T × T)} {ents : Array MapEntry} (h : EntsOk g w es ents) (le : Le g w g' w') : EntsOk g' w' es ents :=
  ⟨h.1, fun i e m a b => ⟨(h.2 i e m a b).1.mono le, (h.2 i e m a b).2.mono le⟩⟩
theorem LoopOk.mono {g g' : Ctx} {w w' : World} {st : LSt} {pend : Option Ex} {n : Nat} {R : Nat → T} {ps : List Nat} {asg body : C} {rec : Loop} (h : LoopOk g w st pend n R ps asg body rec) (le : Le g w g' w') : LoopOk g' w' st pend n R ps asg body rec := by
  obtain ⟨h1, h2, h3, h4, h5, h6, h7, h8⟩ := h
  exact ⟨h1, h2, h3, h4, fun t ht => (h5 t ht).mono le, h6, by rw [le.ck]; exact h7, by rw [le.ck]; exact h8⟩
theorem SR.stepZ {w0 w w' : World} {g g' : Ctx} {H H' : Heap} (h : SR w0 g H w) (Tch : Nat → Prop) {S : Nat → Nat → Prop} {M : Nat → Prop} (tr : Tr0 w w' S M)
    (hfz : ∀ r j j0 b, r < w.heap.size → ¬ Tch b → g.κ r j = .mut b ∨ g.κ r j = .spare b → w'.frozen? ⟨r, j0, none⟩ = w.frozen? ⟨r, j0, none⟩) (le : Le g w g' w')
    (hS : ∀ r j, S r j → g.κ r j = .free ∨ (∃ b, g.κ r j = .mut b ∧ Tch b) ∨ ∃ b, g.κ r j = .spare b ∧ Tch b) (hM : ∀ r, M r → ∃ b, g.κ r 0 = .mut b ∧ Tch b)
    (hfresh : ∀ r o, w'.heap.size ≤ r → g'.κ r o = .free) (hdom : ∀ b x, g'.φ b = some x → b < H'.length) (hdomt : ∀ t e x, g'.π t e = some x → t < H'.length)
    (kφ : ∀ b, b < H.length → ¬ Tch b → g'.φ b = g.φ b) (kκ : ∀ r j b, ¬ Tch b → (g.κ r j = .mut b → g'.κ r j = .mut b) ∧ (g.κ r j = .spare b → g'.κ r j = .spare b))
    (kπ : ∀ t e, t < H.length → ¬ Tch t → g'.π t e = g.π t e)
    (hb : ∀ b x, H'[b]? = some x → (¬ Tch b ∧ H[b]? = some x) ∨ BlkOk g' w' b x) : SR w0 g' H' w' := by
  have nS : ∀ r j, r < w0.heap.size → ¬ S r j := by
    intro r j hr hs
    have := h.imm0 r j hr
    rcases hS r j hs with e | ⟨b, e, _⟩ | ⟨b, e, _⟩ <;> simp [this] at e
  have nM : ∀ r, r < w0.heap.size → ¬ M r := by
    intro r hr hm
    have := h.imm0 r 0 hr
    obtain ⟨b, e, _⟩ := hM r hm
    simp [this] at e
  refine ⟨Nat.le_trans h.size tr.size, fun r hr => ?_, fun r o hr => le.κ _ _ (h.imm0 r o hr), hfresh, hdom, hdomt, fun b x hx => ?_, tr.env.1.trans h.env.1, tr.env.2.trans h.env.2⟩
  · rw [tr.old r (Nat.lt_of_lt_of_le hr h.size) (nM r hr) (fun j => nS r j hr)]
    exact h.old r hr
  · rcases hb b x hx with ⟨nt, hx0⟩ | hok
    · have hlt : b < H.length := (List.getElem?_eq_some_iff.1 hx0).1
      have hk := h.blk b x hx0
      have nSm : ∀ r j, g.κ r j = .mut b ∨ g.κ r j = .spare b → ¬ S r j := by
        intro r j hm hs
        rcases hS r j hs with e | ⟨b', e, ht⟩ | ⟨b', e, ht⟩ <;> rcases hm with hm | hm <;> simp [hm] at e
        · exact nt (e ▸ ht)
        · exact nt (e ▸ ht)
      cases x with
      | cells cs =>
        intro r o q hφ
        have hφ' : g.φ b = some (r, o, q) := by rw [← kφ b hlt nt]; exact hφ
        have hc := hk r o q hφ'
        refine hc.mono le (fun j a c => (kκ r j b nt).1 (hc.2.1 j a c).1) fun j a c => ?_
        have hh := hc.2.1 j a c
        have hr : r < w.heap.size := by
          cases hv : w.cell? ⟨r, j, none⟩ with
          | none => simp [hv] at hh
          | some v => exact cell_lt hv
        exact ⟨fun j0 => hfz r j j0 b hr nt (.inl hh.1), tr.cell r j hr (nSm r j (.inl hh.1))⟩
      | map es =>
        intro r o q hφ
        have hφ' : g.φ b = some (r, o, q) := by rw [← kφ b hlt nt]; exact hφ
        obtain ⟨h1, ents, c, h2, h3⟩ := hk r o q hφ'
        refine ⟨(kκ r 0 b nt).1 h1, ents, c, tr.maps r _ (fun hm => ?_) rfl h2, h3.1.mono le, h3.2⟩
        obtain ⟨b', e, ht⟩ := hM r hm
        rw [h1] at e; cases e; exact nt ht
      | rmap es ix bi cur =>
        obtain ⟨r, o, q, hφ, h1, ents, c, h2, h3, h4, ri, q', seen, h5, h6, h7, h8⟩ := hk
        refine ⟨r, o, q, le.φ _ _ hφ, (kκ r 0 b nt).1 h1, ents, c, tr.maps r _ (fun hm => ?_) rfl h2, h3.mono le, h4, ri, q', seen, le.φ _ _ h5, (kκ ri 0 b nt).1 h6, tr.maps ri _ (fun hm => ?_) rfl h7, h8⟩
        · obtain ⟨b', e, ht⟩ := hM r hm
          rw [h1] at e; cases e; exact nt ht
        · obtain ⟨b', e, ht⟩ := hM ri hm
          rw [h6] at e; cases e; exact nt ht
      | itr _ => trivial
      | lit cs =>
        obtain ⟨r, q, hφ, h1, h2, c, ty, h3, h4, h5, h6⟩ := hk
        have hr : r < w.heap.size := (Array.getElem?_eq_some_iff.1 h3).1
        have hns : ∀ j, ¬ S r j := by
          intro j hs
          by_cases hj : j = q
          · subst hj; exact nSm r j (.inl h1) hs
          · have := h2 j hj
            rcases hS r j hs with e | ⟨b', e, _⟩ | ⟨b', e, _⟩ <;> simp [this] at e
        have hnm : ¬ M r := by
          intro hm
          obtain ⟨b', e, ht⟩ := hM r hm
          by_cases hj : 0 = q
          · subst hj; rw [h1] at e; cases e; exact nt ht
          · rw [h2 0 hj] at e; cases e
        exact ⟨r, q, le.φ _ _ hφ, (kκ r q b nt).1 h1, fun j hj => le.κ _ _ (h2 j hj), c, ty, by rw [tr.old r hr hnm hns]; exact h3, h4, h5, fun i t hi => let ⟨a, v, b1, b2⟩ := h6 i t hi; ⟨a, v, b1, b2.mono le⟩⟩
      | fz cs =>
        intro r o q hφ
        exact (hk r o q (by rw [← kφ b hlt nt]; exact hφ)).mono le
      | tok e =>
        obtain ⟨r, p, q, h1, h2, h3, h4⟩ := hk
        refine ⟨r, p, q, le.π _ _ _ h1, h2, fun j a c => ?_, fun e' he => by rw [kπ b e' hlt nt]; exact h4 e' he⟩
        have hh := h3 j a c
        have hr : r < w.heap.size := by
          cases hv : w.cell? ⟨r, j, none⟩ with
          | none => simp [hv] at hh
          | some v => exact cell_lt hv
        exact ⟨(kκ r j b nt).2 hh.1, fun j0 => by rw [hfz r j j0 b hr nt (.inr hh.1)]; exact hh.2.1 j0, by rw [tr.cell r j hr (nSm r j (.inr hh.1))]; exact hh.2.2⟩
      | loop st pend n R ps asg body =>
        intro r o q hφ
        have hφ' : g.φ b = some (r, o, q) := by rw [← kφ b hlt nt]; exact hφ
        obtain ⟨h1, rec, h2, h3⟩ := hk r o q hφ'
        refine ⟨(kκ r 0 b nt).1 h1, rec, tr.maps r _ (fun hm => ?_) rfl h2, h3.mono le⟩
        obtain ⟨b', e, ht⟩ := hM r hm
        rw [h1] at e; cases e; exact nt ht
      | dfr =>
        intro r o q hφ
        have hφ' : g.φ b = some (r, o, q) := by rw [← kφ b hlt nt]; exact hφ
        obtain ⟨h1, h2⟩ := hk r o q hφ'
        refine ⟨(kκ r 0 b nt).1 h1, tr.maps r _ (fun hm => ?_) rfl h2⟩
        obtain ⟨b', e, ht⟩ := hM r hm
        rw [h1] at e; cases e; exact nt ht
      | dead => trivial
    · exact hok
theorem SR.step {w0 w w' : World} {g g' : Ctx} {H H' : Heap} (h : SR w0 g H w) (Tch : Nat → Prop) {S : Nat → Nat → Prop} {M : Nat → Prop} (tr : Tr w w' S M) (le : Le g w g' w')
    (hS : ∀ r j, S r j → g.κ r j = .free ∨ (∃ b, g.κ r j = .mut b ∧ Tch b) ∨ ∃ b, g.κ r j = .spare b ∧ Tch b) (hM : ∀ r, M r → ∃ b, g.κ r 0 = .mut b ∧ Tch b)
    (hfresh : ∀ r o, w'.heap.size ≤ r → g'.κ r o = .free) (hdom : ∀ b x, g'.φ b = some x → b < H'.length) (hdomt : ∀ t e x, g'.π t e = some x → t < H'.length)
    (kφ : ∀ b, b < H.length → ¬ Tch b → g'.φ b = g.φ b) (kκ : ∀ r j b, ¬ Tch b → (g.κ r j = .mut b → g'.κ r j = .mut b) ∧ (g.κ r j = .spare b → g'.κ r j = .spare b))
    (kπ : ∀ t e, t < H.length → ¬ Tch t → g'.π t e = g.π t e)
    (hb : ∀ b x, H'[b]? = some x → (¬ Tch b ∧ H[b]? = some x) ∨ BlkOk g' w' b x) : SR w0 g' H' w' :=
  h.stepZ Tch ⟨tr.size, tr.cell, tr.keep, tr.maps, tr.old, tr.env⟩ (fun r _ j0 _ hr _ _ => tr.frz r j0 hr) le hS hM hfresh hdom hdomt kφ kκ kπ hb
end Go.Rmp
end

section
namespace Go.Rmp
def Fr (g : Ctx) (H : Heap) (g' : Ctx) (H' : Heap) : Prop :=
  H.length ≤ H'.length ∧ ∀ b x, H[b]? = some x → (∀ e, x ≠ .tok e) → g.φ b = none → H'[b]? = some x ∧ g'.φ b = none
theorem Fr.refl (g : Ctx) (H : Heap) : Fr g H g H := ⟨Nat.le_refl _, fun _ _ h _ k => ⟨h, k⟩⟩
theorem Fr.trans {g g' g'' : Ctx} {H H' H'' : Heap} (h : Fr g H g' H') (h' : Fr g' H' g'' H'') : Fr g H g'' H'' :=
  ⟨Nat.le_trans h.1 h'.1, fun b x a c d => let ⟨e, f⟩ := h.2 b x a c d; h'.2 b x e c f⟩
def Sim (P : Program) (w0 : World) (g : Ctx) (H : Heap) (w : World) (s : Sem Value) (t : T) (H' : Heap) : Prop :=
  ∃ v w' g', s.run P w = .ok v w' ∧ Le g w g' w' ∧ SR w0 g' H' w' ∧ VR g' w' t v ∧ Fr g H g' H'
theorem Sim.same {P : Program} {w0 : World} {g : Ctx} {H : Heap} {w : World} {s : Sem Value} {t : T} {v : Value} (h : SR w0 g H w) (hr : s.run P w = .ok v w) (hv : VR g w t v) : Sim P w0 g H w s t H :=
  ⟨v, w, g, hr, .refl _ _, h, hv, .refl _ _⟩
def VRs (g : Ctx) (w : World) (ts : List T) (vs : List Value) : Prop := ts.length = vs.length ∧ ∀ (i : Nat) (t : T) (v : Value), ts[i]? = some t → vs[i]? = some v → VR g w t v
theorem VRs.mono {g g' : Ctx} {w w' : World} (le : Le g w g' w') {ts : List T} {vs : List Value} (h : VRs g w ts vs) : VRs g' w' ts vs := ⟨h.1, fun i t v a b => (h.2 i t v a b).mono le⟩
theorem VRs.nil {g : Ctx} {w : World} : VRs g w [] [] := ⟨rfl, fun i t v h => by simp at h⟩
theorem VRs.cons {g : Ctx} {w : World} {t : T} {v : Value} {ts : List T} {vs : List Value} (h : VR g w t v) (hs : VRs g w ts vs) : VRs g w (t :: ts) (v :: vs) :=
  ⟨by simp [hs.1], fun i a b ha hb => by
    cases i with
    | zero => simp at ha hb; subst ha; subst hb; exact h
    | succ i => exact hs.2 i a b (by simpa using ha) (by simpa using hb)⟩
theorem VRs.head {g : Ctx} {w : World} {t : T} {v : Value} {ts : List T} {vs : List Value} (h : VRs g w (t :: ts) (v :: vs)) : VR g w t v := h.2 0 t v rfl rfl
theorem VRs.tail {g : Ctx} {w : World} {t : T} {v : Value} {ts : List T} {vs : List Value} (h : VRs g w (t :: ts) (v :: vs)) : VRs g w ts vs :=
  ⟨by have := h.1; simpa using this, fun i a b ha hb => h.2 (i + 1) a b (by simpa using ha) (by simpa using hb)⟩
theorem VRs.append {g : Ctx} {w : World} {ts ts' : List T} {vs vs' : List Value} (h : VRs g w ts vs) (h' : VRs g w ts' vs') : VRs g w (ts ++ ts') (vs ++ vs') := by
  refine ⟨by simp [h.1, h'.1], fun i t v ha hb => ?_⟩
  rw [List.getElem?_append] at ha hb
  rw [← h.1] at hb
  split at ha
  · rename_i hi; rw [if_pos hi] at hb; exact h.2 i t v ha hb
  · rename_i hi; rw [if_neg hi] at hb; exact h'.2 _ t v ha hb
theorem VRs.take {g : Ctx} {w : World} {ts : List T} {vs : List Value} (n : Nat) (h : VRs g w ts vs) : VRs g w (ts.take n) (vs.take n) :=
  ⟨by simp [h.1], fun i t v ha hb => by
    rw [List.getElem?_take] at ha hb
    split at ha
    · rename_i hi; rw [if_pos hi] at hb; exact h.2 i t v ha hb
    · simp at ha⟩
theorem VRs.drop {g : Ctx} {w : World} {ts : List T} {vs : List Value} (n : Nat) (h : VRs g w ts vs) : VRs g w (ts.drop n) (vs.drop n) :=
  ⟨by simp [h.1], fun i t v ha hb => by
    rw [List.getElem?_drop] at ha hb
    exact h.2 _ t v ha hb⟩
def ones (cs : List T) : Prop := ∀ t ∈ cs, t.one = true
theorem VRs.oneCell {g : Ctx} {w : World} {ts : List T} {vs : List Value} (h : VRs g w ts vs) (ho : ones ts) : ∀ v ∈ vs, v.oneCell' = true := by
  intro v hv
  obtain ⟨i, hi, rfl⟩ := List.getElem_of_mem hv
  have hi' : i < ts.length := by rw [h.1]; exact hi
  exact (h.2 i ts[i] vs[i] (List.getElem?_eq_getElem hi') (List.getElem?_eq_getElem hi)).oneCell (ho _ (List.getElem_mem hi'))
theorem add_mk (r o j : Nat) : (⟨r, o, none⟩ : Addr).add j = ⟨r, o + j, none⟩ := by
  unfold Addr.add; split <;> simp_all
theorem cells_list {w : World} {r o : Nat} : ∀ (n : Nat) (f : Nat → Value), (∀ j, j < n → w.cell? ⟨r, o + j, none⟩ = some (f j)) → ∀ (j : Nat) (v : Value), ((List.range n).map f)[j]? = some v → w.cell? ⟨r, o + j, none⟩ = some v := by
  intro n f h j v hv
  have hj : j < n := by
    have := (List.getElem?_eq_some_iff.1 hv).1
    simpa using this
  rw [h j hj]
  simp [hj] at hv
  rw [hv]
theorem ldc_ok {w0 w : World} {g : Ctx} {H : Heap} {n : Nat} {p : T} {vp : Value} {cs : List T} (h : SR w0 g H w) (hv : VR g w p vp) (he : ldc H n p = some cs) :
    ∃ r o vs, vp = .pointer (some ⟨r, o, none⟩) ∧ vs.length = n ∧ (∀ (j : Nat) (v : Value), vs[j]? = some v → w.cell? ⟨r, o + j, none⟩ = some v) ∧ VRs g w cs vs ∧ ones cs := by
  cases hv with
  | @ptr b off r o q hφ =>
    have main : ∀ cs0 : List T, (∀ (i : Nat) (t : T), cs0[i]? = some t → t.one = true ∧ ∃ v, w.cell? ⟨r, o + i, none⟩ = some v ∧ VR g w t v) → (if off + n ≤ cs0.length then some ((cs0.drop off).take n) else none) = some cs →
        ∃ r' o' vs, (Value.pointer (some ⟨r, o + off, none⟩)) = .pointer (some ⟨r', o', none⟩) ∧ vs.length = n ∧ (∀ (j : Nat) (v : Value), vs[j]? = some v → w.cell? ⟨r', o' + j, none⟩ = some v) ∧ VRs g w cs vs ∧ ones cs := by
      intro cs0 h3 he
      split at he
      · rename_i hle
        simp at he
        subst he
        have key : ∀ j, j < n → ∃ t v, cs0[off + j]? = some t ∧ t.one = true ∧ w.cell? ⟨r, o + off + j, none⟩ = some v ∧ VR g w t v := by
          intro j hj
          have hlt : off + j < cs0.length := by omega
          obtain ⟨a, v, b', c⟩ := h3 (off + j) cs0[off + j] (List.getElem?_eq_getElem hlt)
          exact ⟨_, v, List.getElem?_eq_getElem hlt, a, by rw [Nat.add_assoc]; exact b', c⟩
        refine ⟨r, o + off, (List.range n).map (fun j => (w.cell? ⟨r, o + off + j, none⟩).getD undef), rfl, by simp, cells_list n _ (fun j hj => ?_), ⟨by simp; omega, fun i t v ha hb' => ?_⟩, fun t ht => ?_⟩
        · obtain ⟨t, v, _, _, e, _⟩ := key j hj
          simp [e]
        · have hi : i < n := by
            have := (List.getElem?_eq_some_iff.1 hb').1
            simpa using this
          obtain ⟨t', v', e1, e2, e3, e4⟩ := key i hi
          simp [hi] at hb'
          rw [e3] at hb'; simp at hb'
          rw [List.getElem?_take, if_pos hi, List.getElem?_drop, e1] at ha
          simp at ha
          subst ha; subst hb'; exact e4
        · obtain ⟨i, hi, rfl⟩ := List.getElem_of_mem ht
          simp at hi
          obtain ⟨t', v', e1, e2, _, _⟩ := key i (by omega)
          have e1' := (List.getElem?_eq_some_iff.1 e1).2
          simp [e1', e2]
      · simp at he
    simp only [ldc] at he
    cases hb : H[b]? with
    | none => simp [hb] at he
    | some x =>
      cases x with
      | cells cs0 =>
        simp only [hb] at he
        exact main cs0 (h.blk b _ hb r o q hφ).2.2 he
      | fz cs0 =>
        simp only [hb] at he
        exact main cs0 (fun i t hi => let ⟨a, v, b', c⟩ := (h.blk b _ hb r o q hφ).2 i t hi; ⟨a, v, b'.2, c⟩) he
      | map _ => simp [hb] at he
      | tok _ => simp [hb] at he
      | _ => simp [hb] at he
  | @iptr cs0 r o vals h1 h2 =>
    simp only [ldc] at he
    split at he
    · rename_i hle
      simp at he
      subst he
      have get : ∀ i, i < n → ∃ t, cs0[i]? = some t := fun i hi => ⟨cs0[i]'(by omega), List.getElem?_eq_getElem _⟩
      refine ⟨r, o, (List.range n).map vals, rfl, by simp, cells_list n _ (fun j hj => ?_), ⟨by simp; omega, fun i t v ha hb => ?_⟩, fun t ht => ?_⟩
      · obtain ⟨t, e⟩ := get j hj
        exact (h1 j t e).2.2
      · have hi : i < n := by
          have := (List.getElem?_eq_some_iff.1 hb).1
          simpa using this
        simp [hi] at hb
        rw [List.getElem?_take, if_pos hi] at ha
        rw [← hb]; exact h2 i t ha
      · obtain ⟨i, hi, rfl⟩ := List.getElem_of_mem ht
        simp at hi
        have : cs0[i]? = some cs0[i] := List.getElem?_eq_getElem _
        simp
        exact (h1 i _ this).1
    · simp at he
  | _ => simp [ldc] at he
theorem VRs.agg {g : Ctx} {w : World} {cs : List T} {vs : List Value} (h : VRs g w cs vs) (ho : ones cs) : VR g w (.agg cs) (.agg vs.toArray) :=
  .agg (by simp [h.1]) ho (fun i t v ha hb => h.2 i t v ha (by simpa using hb))
theorem VRs.tup {g : Ctx} {w : World} {cs : List T} {vs : List Value} (h : VRs g w cs vs) : VR g w (.tup cs) (.tuple vs.toArray) :=
  .tup (by simp [h.1]) (fun i t v ha hb => h.2 i t v ha (by simpa using hb))
theorem VR.agg_inv {g : Ctx} {w : World} {cs : List T} {v : Value} (h : VR g w (.agg cs) v) : ∃ vs : List Value, v = .agg vs.toArray ∧ VRs g w cs vs ∧ ones cs := by
  cases h with
  | @agg _ vs hl h1 h2 => exact ⟨vs.toList, by simp, ⟨by simp [hl], fun i t v ha hb => h2 i t v ha (by simpa using hb)⟩, h1⟩
theorem VR.tup_inv {g : Ctx} {w : World} {cs : List T} {v : Value} (h : VR g w (.tup cs) v) : ∃ vs : List Value, v = .tuple vs.toArray ∧ VRs g w cs vs := by
  cases h with
  | @tup _ vs hl h2 => exact ⟨vs.toList, by simp, ⟨by simp [hl], fun i t v ha hb => h2 i t v ha (by simpa using hb)⟩⟩
theorem cells?_ok {g : Ctx} {w : World} {t : T} {v : Value} {cs : List T} (h : VR g w t v) (hc : t.cells? = some cs) : VRs g w cs v.cells.toList ∧ ones cs := by
  by_cases ha : ∃ c, t = .agg c
  · obtain ⟨c, rfl⟩ := ha
    simp [T.cells?] at hc; subst hc
    obtain ⟨vs, rfl, h1, h2⟩ := h.agg_inv
    exact ⟨by simpa [Value.cells] using h1, h2⟩
  · by_cases ht : ∃ c, t = .tup c
    · obtain ⟨c, rfl⟩ := ht; simp [T.cells?] at hc
    · have e : cs = [t] := by cases t <;> simp_all [T.cells?]
      have o : t.one = true := by cases t <;> simp_all [T.one]
      have ev : v.cells = #[v] := by
        have := h.oneCell o
        cases v <;> simp_all [Value.cells, Value.oneCell']
      subst e
      rw [ev]
      exact ⟨VRs.cons h VRs.nil, by simpa [ones] using o⟩
theorem valOf_ok {g : Ctx} {w : World} {cs : List T} {vs : List Value} {ag : Bool} {t : T} (h : VRs g w cs vs) (ho : ones cs) (hv : valOf ag cs = some t) :
    (ag = true → VR g w t (.agg vs.toArray)) ∧ (ag = false → ∃ v, vs = [v] ∧ VR g w t v) := by
  cases ag with
  | true => simp [valOf] at hv; subst hv; exact ⟨fun _ => h.agg ho, by simp⟩
  | false =>
    refine ⟨by simp, fun _ => ?_⟩
    cases cs with
    | nil => simp [valOf] at hv
    | cons c cs =>
      cases cs with
      | nil =>
        simp [valOf] at hv; subst hv
        cases vs with
        | nil => have := h.1; simp at this
        | cons v vs =>
          cases vs with
          | nil => exact ⟨v, rfl, h.head⟩
          | cons _ _ => have := h.1; simp at this
      | cons _ _ => simp [valOf] at hv
theorem run_ti {P : Program} {w : World} {t : TypeId} {i : TypeInfo} (h : P.info? t = some i) : (typeInfo t).run P w = .ok i w := by
  simp [typeInfo, h]
def isAggD : TypeDesc → Bool
  | .struct _ | .array _ _ => true
  | _ => false
theorem run_isAgg' {P : Program} {t : TypeId} {d : TypeDesc} (h : P.underlying t = some d) (w : World) : (isAgg t).run P w = .ok (isAggD d) w := by
  simp only [isAgg, Sem.run_bind, run_underlying h, Result.andThen_ok]
  cases d <;> rfl
theorem sim_ld {P : Program} {w0 w : World} {g : Ctx} {H : Heap} {n : Nat} {ag : Bool} {p t : T} {vp : Value} {cs : List T} {ty : TypeId} {d : TypeDesc} {i : TypeInfo}
    (hd : P.underlying ty = some d) (hi : P.info? ty = some i) (hag : isAggD d = ag) (hn : ag = true → i.size = n)
    (h : SR w0 g H w) (hv : VR g w p vp) (he : ldc H n p = some cs) (ht : valOf ag cs = some t) : Sim P w0 g H w (Instr.loadAt ty vp) t H := by
  obtain ⟨r, o, vs, rfl, h1, h2, h3, h4⟩ := ldc_ok h hv he
  obtain ⟨ha, hb⟩ := valOf_ok h3 h4 ht
  cases ag with
  | true =>
    refine Sim.same h (v := .agg vs.toArray) ?_ (ha rfl)
    have := run_loadCells_list (P := P) w ⟨r, o, none⟩ vs (fun j v hj => by rw [add_mk]; exact h2 j v hj)
    simp [Instr.loadAt, Instr.sureAddr, loadVar, run_isAgg' hd, hag, sizeOf, run_ti hi, hn rfl, ← h1, this]
  | false =>
    obtain ⟨v, rfl, hvr⟩ := hb rfl
    refine Sim.same h (v := v) ?_ hvr
    have := h2 0 v rfl
    simp at this
    simp [Instr.loadAt, Instr.sureAddr, loadVar, run_isAgg' hd, hag, run_load, this]
theorem ld_same {P : Program} {w0 w : World} {g : Ctx} {H : Heap} {n : Nat} {ag : Bool} {p t : T} {vp : Value} {cs : List T} {ty : TypeId} {d : TypeDesc} {i : TypeInfo}
    (hd : P.underlying ty = some d) (hi : P.info? ty = some i) (hag : isAggD d = ag) (hn : ag = true → i.size = n)
    (h : SR w0 g H w) (hv : VR g w p vp) (he : ldc H n p = some cs) (ht : valOf ag cs = some t) : ∃ v w' g', (Instr.loadAt ty vp).run P w = .ok v w' ∧ w' = w ∧ VR g' w t v ∧ g' = g := by
  obtain ⟨r, o, vs, rfl, h1, h2, h3, h4⟩ := ldc_ok h hv he
  obtain ⟨ha, hb⟩ := valOf_ok h3 h4 ht
  cases ag with
  | true =>
    refine ⟨.agg vs.toArray, w, g, ?_, rfl, ha rfl, rfl⟩
    have := run_loadCells_list (P := P) w ⟨r, o, none⟩ vs (fun j v hj => by rw [add_mk]; exact h2 j v hj)
    simp [Instr.loadAt, Instr.sureAddr, loadVar, run_isAgg' hd, hag, sizeOf, run_ti hi, hn rfl, ← h1, this]
  | false =>
    obtain ⟨v, rfl, hvr⟩ := hb rfl
    refine ⟨v, w, g, ?_, rfl, hvr, rfl⟩
    have := h2 0 v rfl
    simp at this
    simp [Instr.loadAt, Instr.sureAddr, loadVar, run_isAgg' hd, hag, run_load, this]
section
variable {P : Program} {w : World} {op : BinOp} {ty : TypeId} {x y : Operand}
theorem guard_int {k k' : IntKind} {a b : Int} : (eqGuard op ty x y (.int k a) (.int k' b)).run P w = .ok () w := by cases op <;> rfl
theorem guard_str {a b : ByteArray} : (eqGuard op ty x y (.string a) (.string b)).run P w = .ok () w := by cases op <;> rfl
theorem guard_bool {a b : Bool} : (eqGuard op ty x y (.bool a) (.bool b)).run P w = .ok () w := by cases op <;> rfl
theorem guard_ptr {a b : Option Addr} : (eqGuard op ty x y (.pointer a) (.pointer b)).run P w = .ok () w := by cases op <;> rfl
theorem guard_sl {a b : Option Addr} {c d e f : Nat} : (eqGuard op ty x y (.slice a c d) (.slice b e f)).run P w = .ok () w := by cases op <;> rfl
theorem guard_map {a b : Option Nat} : (eqGuard op ty x y (.map a) (.map b)).run P w = .ok () w := by cases op <;> rfl
theorem guard_f1 {f : Go.Fn} {a b : Array Value} : (eqGuard op ty x y (.func f a b) .nilFunc).run P w = .ok () w := by cases op <;> rfl
theorem guard_f2 {f : Go.Fn} {a b : Array Value} : (eqGuard op ty x y .nilFunc (.func f a b)).run P w = .ok () w := by cases op <;> rfl
theorem guard_f3 : (eqGuard op ty x y .nilFunc .nilFunc).run P w = .ok () w := by cases op <;> rfl
end
section
variable {P : Program} {w : World} {ty : TypeId}
theorem eqIn_bool (n : Nat) (h : P.underlying ty = some .bool) (a b : Bool) : (Op.equalIn (n + 1) ty (.bool a) (.bool b)).run P w = .ok (a == b) w := by
  rw [Op.equalIn]; simp only [Sem.run_bind, run_underlying h, Result.andThen_ok]; rfl
theorem eqIn_int (n : Nat) {k : IntKind} (h : P.underlying ty = some (.int k)) (a b : Int) (k' : IntKind) : (Op.equalIn (n + 1) ty (.int k' a) (.int k' b)).run P w = .ok (a == b) w := by
  rw [Op.equalIn]; simp only [Sem.run_bind, run_underlying h, Result.andThen_ok]; simp
theorem eqIn_str (n : Nat) (h : P.underlying ty = some .string) (a b : ByteArray) : (Op.equalIn (n + 1) ty (.string a) (.string b)).run P w = .ok (a == b) w := by
  rw [Op.equalIn]; simp only [Sem.run_bind, run_underlying h, Result.andThen_ok]; rfl
theorem equal_of {x y : Value} {b : Bool} (h : ∀ n, (Op.equalIn (n + 1) ty x y).run P w = .ok b w) : (Op.equal ty x y).run P w = .ok b w := h 9999
theorem equal_bool (h : P.underlying ty = some .bool) (a b : Bool) : (Op.equal ty (.bool a) (.bool b)).run P w = .ok (a == b) w := equal_of fun n => eqIn_bool n h a b
end
theorem sim_bin {P : Program} {w0 w : World} {g : Ctx} {H : Heap} {op : BinOp} {x y t : T} {vx vy : Value} {ty : TypeId} {ox oy : Operand}
    (h : SR w0 g H w) (hx : VR g w x vx) (hy : VR g w y vy) (he : binT op x y = some t) : Sim P w0 g H w (do eqGuard op ty ox oy vx vy; binOp op ty vx vy) t H := by
  cases hx <;> cases hy <;> (try (simp [binT] at he; done))
  case int.int k a k' b =>
    have key : ∃ v, (binOp op ty (.int k a) (.int k' b)).run P w = .ok v w ∧ VR g w t v := by
      cases op <;> simp only [binT] at he <;> (repeat' (split at he)) <;> (try (simp at he; done)) <;>
        (simp at he; subst he; first
          | (refine ⟨_, ?_, .int _ _⟩; simp_all [binOp, Op.shift, Op.intArith, Op.intDiv, Op.intBits, Op.intCmp]; done)
          | (refine ⟨_, ?_, .int _ _⟩; rename_i hs; simp only [binOp, Op.shift, if_neg hs, Sem.run_pure]; done)
          | (refine ⟨_, ?_, .bool _⟩; simp_all [binOp, Op.shift, Op.intArith, Op.intDiv, Op.intBits, Op.intCmp]; done))
    obtain ⟨v, hr, hv⟩ := key
    refine Sim.same h (v := v) ?_ hv
    simp [guard_int, guard_str, guard_bool, hr]
  case str.str a b =>
    have key : ∃ v, (binOp op ty (.string a) (.string b)).run P w = .ok v w ∧ VR g w t v := by
      cases op <;> simp only [binT] at he <;> (repeat' (split at he)) <;> (try (simp at he; done)) <;>
        (simp at he; subst he; first
          | (refine ⟨_, ?_, .str _⟩; rename_i hs; simp [binOp, Op.stringOp, IntKind.max, IntKind.signed, IntKind.bits]; omega)
          | (refine ⟨_, ?_, .bool _⟩; simp [binOp, Op.stringOp, strEq, strLt]; done))
    obtain ⟨v, hr, hv⟩ := key
    refine Sim.same h (v := v) ?_ hv
    simp [guard_int, guard_str, guard_bool, hr]
theorem sim_beq {P : Program} {w0 w : World} {g : Ctx} {H : Heap} {neg : Bool} {a b : Bool} {vx vy : Value} {ty : TypeId} {ox oy : Operand} (hu : P.underlying ty = some .bool)
    (h : SR w0 g H w) (hx : VR g w (.bool a) vx) (hy : VR g w (.bool b) vy) :
    Sim P w0 g H w (do eqGuard (if neg then .neq else .eql) ty ox oy vx vy; binOp (if neg then .neq else .eql) ty vx vy) (.bool (if neg then !(a == b) else a == b)) H := by
  cases hx; cases hy
  cases neg
  · refine Sim.same h (v := .bool (a == b)) ?_ (.bool _)
    simp only [Bool.false_eq_true, if_false, Sem.run_bind, guard_bool, Result.andThen_ok, binOp, equal_bool hu, Sem.run_pure]
  · refine Sim.same h (v := .bool (!(a == b))) ?_ (.bool _)
    simp only [if_true, Sem.run_bind, guard_bool, Result.andThen_ok, binOp, equal_bool hu, Sem.run_pure]
def clsD : Cls → TypeDesc → Bool
  | .ptr, .pointer _ | .slice, .slice _ | .map, .map _ _ | .func, .func _ _ _ => true
  | _, _ => false
theorem nilOf_ok {g : Ctx} {w : World} {c : Cls} {x : T} {vx : Value} {b : Bool} (hx : VR g w x vx) (h : nilOf c x = some b) :
    match c with
    | .ptr => ∃ a : Option Addr, vx = .pointer a ∧ a.isNone = b
    | .slice => ∃ (a : Option Addr) (l p : Nat), vx = .slice a l p ∧ a.isNone = b
    | .map => ∃ r : Option Nat, vx = .map r ∧ r.isNone = b
    | .func => (b = true ∧ vx = .nilFunc) ∨ (b = false ∧ ∃ f vs, vx = .func f #[] vs) := by
  cases c <;> cases hx <;> first
    | (change (none : Option Bool) = some b at h; simp at h; done)
    | (change some true = some b at h; simp at h; subst h; simp; done)
    | (change some false = some b at h; simp at h; subst h; simp; done)
    | skip
  case slice.sl k es r o cap n vals hk hc hn h1 h2 =>
    have hb : b = false := by
      cases k
      · exact hk.elim
      · cases es with
        | nil => change (none : Option Bool) = some b at h; simp at h
        | cons _ _ => change some false = some b at h; simpa using h.symm
      · change some false = some b at h; simpa using h.symm
      · change some false = some b at h; simpa using h.symm
    subst hb
    exact ⟨_, _, _, rfl, rfl⟩
theorem sim_eqr {P : Program} {w0 w : World} {g : Ctx} {H : Heap} {neg : Bool} {c : Cls} {x y : T} {b : Bool} {vx vy : Value} {ty : TypeId} {ox oy : Operand} {d : TypeDesc}
    (hu : P.underlying ty = some d) (hc : clsD c d = true)
    (h : SR w0 g H w) (hx : VR g w x vx) (hy : VR g w y vy) (he : eqRef c x y = some b) :
    Sim P w0 g H w (do eqGuard (if neg then .neq else .eql) ty ox oy vx vy; binOp (if neg then .neq else .eql) ty vx vy) (.bool (if neg then !b else b)) H := by
  have key : (∀ op, (eqGuard op ty ox oy vx vy).run P w = .ok () w) ∧ (Op.equal ty vx vy).run P w = .ok b w ∧ ∀ neg : Bool, (binOp (if neg then .neq else .eql) ty vx vy).run P w = ((Op.equal ty vx vy).run P w).andThen fun b w' => .ok (.bool (if neg then !b else b)) w' := by
    unfold eqRef at he
    cases hnx : nilOf c x with
    | none => simp [hnx] at he
    | some bx =>
      cases hny : nilOf c y with
      | none => cases bx <;> simp [hnx, hny] at he
      | some bY =>
        have e : b = (bx && bY) ∧ (bx = true ∨ bY = true) := by
          cases bx <;> cases bY <;> simp_all
        obtain ⟨rfl, hor⟩ := e
        have h1 := nilOf_ok hx hnx
        have h2 := nilOf_ok hy hny
        cases c with
        | ptr =>
          obtain ⟨a, rfl, rfl⟩ := h1
          obtain ⟨a', rfl, rfl⟩ := h2
          cases d <;> simp [clsD] at hc
          refine ⟨fun op => guard_ptr, equal_of fun n => ?_, fun neg => by cases neg <;> simp [binOp]⟩
          rw [Op.equalIn]; simp only [Sem.run_bind, run_underlying hu, Result.andThen_ok]
          cases a <;> cases a' <;> simp_all
        | slice =>
          obtain ⟨a, l, p, rfl, rfl⟩ := h1
          obtain ⟨a', l', p', rfl, rfl⟩ := h2
          cases d <;> simp [clsD] at hc
          refine ⟨fun op => guard_sl, equal_of fun n => ?_, fun neg => by cases neg <;> simp [binOp]⟩
          rw [Op.equalIn]; simp only [Sem.run_bind, run_underlying hu, Result.andThen_ok]
          cases a <;> cases a' <;> simp_all
        | map =>
          obtain ⟨a, rfl, rfl⟩ := h1
          obtain ⟨a', rfl, rfl⟩ := h2
          cases d <;> simp [clsD] at hc
          refine ⟨fun op => guard_map, equal_of fun n => ?_, fun neg => by cases neg <;> simp [binOp]⟩
          rw [Op.equalIn]; simp only [Sem.run_bind, run_underlying hu, Result.andThen_ok]
          cases a <;> cases a' <;> simp_all
        | func =>
          cases d <;> simp [clsD] at hc
          rcases h1 with ⟨rfl, rfl⟩ | ⟨rfl, f, vs, rfl⟩ <;> rcases h2 with ⟨rfl, rfl⟩ | ⟨rfl, f', vs', rfl⟩
          · refine ⟨fun op => guard_f3, equal_of fun n => ?_, fun neg => by cases neg <;> simp [binOp]⟩
            rw [Op.equalIn]; simp [run_underlying hu]
          · refine ⟨fun op => guard_f2, equal_of fun n => ?_, fun neg => by cases neg <;> simp [binOp]⟩
            rw [Op.equalIn]; simp [run_underlying hu]
          · refine ⟨fun op => guard_f1, equal_of fun n => ?_, fun neg => by cases neg <;> simp [binOp]⟩
            rw [Op.equalIn]; simp [run_underlying hu]
          · simp at hor
  obtain ⟨k1, k2, k3⟩ := key
  refine Sim.same h (v := .bool (if neg then !b else b)) ?_ (.bool _)
  simp only [Sem.run_bind, k1, Result.andThen_ok, k3, k2]
end Go.Rmp
end

section
namespace Go.Rmp
section
variable {P : Program} {w0 w : World} {g : Ctx} {H : Heap}
def scD : Ty1 → TypeDesc → Bool
  | .int, .int _ | .str, .string | .bool, .bool => true
  | _, _ => false
def flat (P : Program) : List Field → Nat → List Ty1 → Bool
  | [], _, [] => true
  | f :: fs, off, k :: ks => f.offset == off && f.name != "_" && (match P.underlying f.type with | some d => scD k d | none => false) && flat P fs (off + 1) ks
  | _, _, _ => false
theorem eqSc_ok {n : Nat} {ty : TypeId} {d : TypeDesc} {k : Ty1} (hu : P.underlying ty = some d) (hk : scD k d = true) {a b : T} {va vb : Value} {r : Bool} (ha : VR g w a va) (hb : VR g w b vb) (h1 : a.has1 k = true) (he : eqSc a b = some r) :
    (Op.equalIn (n + 1) ty va vb).run P w = .ok r w := by
  cases k <;> cases d <;> simp [scD] at hk <;> cases ha <;> simp [T.has1] at h1 <;> cases hb <;> simp [eqSc] at he
  · obtain ⟨rfl, rfl⟩ := he
    rw [eqIn_int n hu]
  · subst he
    rw [eqIn_str n hu, beq_toListBytes]; rfl
  · subst he
    rw [eqIn_bool n hu]
theorem run_part1 {ty : TypeId} {d : TypeDesc} {k : Ty1} (hu : P.underlying ty = some d) (hk : scD k d = true) {xs : Array Value} {off : Nat} {v : Value} (h : xs[off]? = some v) : (part ty xs off).run P w = .ok v w := by
  have : isAggD d = false := by cases k <;> cases d <;> simp_all [scD, isAggD]
  simp [part, run_isAgg' hu, this, h]
theorem eqFields_ok {n : Nat} : ∀ (fs : List Field) (off : Nat) (ks : List Ty1) (cs ds : List T) (xs ys : Array Value) (r : Bool), flat P fs off ks = true → hasAll ks cs = true →
    (∀ (i : Nat) (t : T), cs[i]? = some t → ∃ v, xs[off + i]? = some v ∧ VR g w t v) → (∀ (i : Nat) (t : T), ds[i]? = some t → ∃ v, ys[off + i]? = some v ∧ VR g w t v) → eqCells cs ds = some r →
    (Op.eqFields (n + 1) xs ys fs).run P w = .ok r w
  | [], off, ks, cs, ds, xs, ys, r, hf, hk, hc, hd, he => by
    cases ks with
    | nil =>
      cases cs with
      | nil => cases ds <;> simp [eqCells] at he; subst he; rfl
      | cons _ _ => simp [hasAll] at hk
    | cons _ _ => simp [flat] at hf
  | f :: fs, off, ks, cs, ds, xs, ys, r, hf, hk, hc, hd, he => by
    cases ks with
    | nil => simp [flat] at hf
    | cons k ks =>
      cases cs with
      | nil => simp [hasAll] at hk
      | cons c cs =>
        cases ds with
        | nil => simp [eqCells] at he
        | cons d ds =>
          simp only [flat, Bool.and_eq_true, beq_iff_eq, bne_iff_ne] at hf
          obtain ⟨⟨⟨hoff, hname⟩, hty⟩, hrest⟩ := hf
          simp only [hasAll, Bool.and_eq_true] at hk
          cases hu : P.underlying f.type with
          | none => simp [hu] at hty
          | some de =>
            simp [hu] at hty
            obtain ⟨va, ha1, ha2⟩ := hc 0 c rfl
            obtain ⟨vb, hb1, hb2⟩ := hd 0 d rfl
            simp only [Nat.add_zero] at ha1 hb1
            simp only [eqCells] at he
            cases e1 : eqSc c d with
            | none => simp [e1] at he
            | some r1 =>
              cases e2 : eqCells cs ds with
              | none => simp [e1, e2] at he
              | some r2 =>
                simp [e1, e2] at he; subst he
                have ih := eqFields_ok (n := n) fs (off + 1) ks cs ds xs ys r2 hrest hk.2 (fun i t hi => by have := hc (i + 1) t (by simpa using hi); rwa [show off + 1 + i = off + (i + 1) by omega])
                  (fun i t hi => by have := hd (i + 1) t (by simpa using hi); rwa [show off + 1 + i = off + (i + 1) by omega]) e2
                simp only [Op.eqFields, hname, ne_eq, not_false_eq_true, if_true, Sem.run_bind, hoff, run_part1 hu hty ha1, run_part1 hu hty hb1, Result.andThen_ok, eqSc_ok hu hty ha2 hb2 hk.1 e1]
                cases r1
                · simp
                · simp [ih]
theorem VRs.get_arr {ts : List T} {vs : List Value} (h : VRs g w ts vs) (i : Nat) (t : T) (hi : ts[i]? = some t) : ∃ v, vs.toArray[i]? = some v ∧ VR g w t v := by
  have hlt : i < vs.length := by rw [← h.1]; exact (List.getElem?_eq_some_iff.1 hi).1
  exact ⟨vs[i], by simp [hlt], h.2 i t _ hi (List.getElem?_eq_getElem hlt)⟩
theorem equal_agg {ty : TypeId} {fs : Array Field} {ks : List Ty1} (hu : P.underlying ty = some (.struct fs)) (hf : flat P fs.toList 0 ks = true) (hp : P.stoodInHeld ty = false) {cs ds : List T} {xs ys : List Value} {r : Bool}
    (hk : hasAll ks cs = true) (hx : VRs g w cs xs) (hy : VRs g w ds ys) (he : eqCells cs ds = some r) (n : Nat) : (Op.equalIn (n + 1 + 1) ty (.agg xs.toArray) (.agg ys.toArray)).run P w = .ok r w := by
  have hfo : P.fieldsOf ty = fs := by simp [Program.fieldsOf, hu]
  rw [run_equalIn_struct w (n + 1) ty _ _ (by rw [hfo]; exact hu) hp, hfo]
  exact eqFields_ok _ 0 ks cs ds _ _ r hf hk (fun i t hi => by simpa using hx.get_arr i t hi) (fun i t hi => by simpa using hy.get_arr i t hi) he
theorem sim_eqs {neg : Bool} {ks : List Ty1} {cs ds : List T} {r : Bool} {vx vy : Value} {ty : TypeId} {ox oy : Operand} {fs : Array Field}
    (hu : P.underlying ty = some (.struct fs)) (hf : flat P fs.toList 0 ks = true) (hp : P.stoodInHeld ty = false) (hg : P.eqGuardType P.depth ty = false)
    (h : SR w0 g H w) (hx : VR g w (.agg cs) vx) (hy : VR g w (.agg ds) vy) (hk : hasAll ks cs = true) (he : eqCells cs ds = some r) :
    Sim P w0 g H w (do eqGuard (if neg then .neq else .eql) ty ox oy vx vy; binOp (if neg then .neq else .eql) ty vx vy) (.bool (if neg then !r else r)) H := by
  obtain ⟨xs, rfl, hxs, _⟩ := hx.agg_inv
  obtain ⟨ys, rfl, hys, _⟩ := hy.agg_inv
  have e : (Op.equalIn 10000 ty (.agg xs.toArray) (.agg ys.toArray)).run P w = .ok r w := equal_agg hu hf hp hk hxs hys he 9998
  refine Sim.same h (v := .bool (if neg then !r else r)) ?_ (.bool _)
  cases neg
  · simp only [Bool.false_eq_true, if_false, Sem.run_bind, run_eqGuard_agg w _ _ _ _ _ _ hg, Result.andThen_ok, run_eql_struct, e]
  · simp only [if_true, Sem.run_bind, run_eqGuard_agg w _ _ _ _ _ _ hg, Result.andThen_ok, run_neq_struct, e]
theorem sim_un {op : UnOp} {x t : T} {vx : Value} (h : SR w0 g H w) (hx : VR g w x vx) (he : unT op x = some t) : Sim P w0 g H w (Op.unary op vx) t H := by
  cases hx <;> (try (simp [unT] at he; done)) <;> cases op <;> simp [unT] at he <;> subst he
  · exact Sim.same h (by simp [Op.unary, Op.intArith]) (.int _ _)
  · exact Sim.same h (by simp [Op.unary, Op.intBits]) (.int _ _)
  · exact Sim.same h (by simp [Op.unary]) (.bool _)
theorem sim_cvi {src dst : TypeId} {ds : TypeDesc} {k k0 : IntKind} {n : Int} {vx : Value} (hs : P.underlying src = some ds) (hd : P.underlying dst = some (.int k)) (h : SR w0 g H w) (hx : VR g w (.int k0 n) vx) :
    Sim P w0 g H w (convert src dst vx) (.int k (k.wrap n)) H := by
  cases hx
  exact Sim.same h (by simp [convert, run_underlying hs, run_underlying hd, Conv.intToInt]) (.int _ _)
theorem sim_pick {c : Bool} {x y : T} {vc vx vy : Value} (h : SR w0 g H w) (hc : VR g w (.bool c) vc) (hx : VR g w x vx) (hy : VR g w y vy) :
    Sim P w0 g H w (do pure (if ← asBool vc then vx else vy)) (if c then x else y) H := by
  cases hc
  refine Sim.same h (v := if c then vx else vy) (by simp [asBool]) ?_
  cases c <;> simpa
def lcD : Lc → TypeDesc → Bool
  | .str, .string | .sl, .slice _ | .map, .map _ _ => true
  | _, _ => false
theorem sim_len {ty rt : TypeId} {d : TypeDesc} {k : Lc} {x : T} {vx : Value} {n : Nat} (hu : P.underlying ty = some d) (hd : lcD k d = true)
    (h : SR w0 g H w) (hx : VR g w x vx) (he : lenT H k x = some n) : Sim P w0 g H w (Builtin.len_ #[ty] rt #[vx]) (.int .i64 n) H := by
  refine Sim.same h (v := .int .i64 n) ?_ (.int _ _)
  cases k <;> cases d <;> (first | (simp [lcD] at hd; done) | skip) <;> cases hx <;> simp [lenT] at he
  · subst he; simp [Builtin.len_, run_underlying hu, goInt]
  · subst he; simp [Builtin.len_, run_underlying hu, goInt]
  · subst he; simp [Builtin.len_, run_underlying hu, goInt]
  · subst he; simp [Builtin.len_, run_underlying hu, goInt]
  · subst he; simp [Builtin.len_, run_underlying hu, goInt]
  · subst he; simp [Builtin.len_, run_underlying hu, goInt]
  · subst he; simp [Builtin.len_, run_underlying hu, goInt]
  · rename_i b r o q hφ
    cases hb : H[b]? with
    | none => simp [hb] at he
    | some y =>
      cases y <;> simp [hb] at he
      · rename_i es
        obtain ⟨_, ents, c, h2, h3, _⟩ := h.blk b _ hb r o q hφ
        subst he
        simp [Builtin.len_, run_underlying hu, goInt, getObj, Sem.run, h2, h3.1]
      · rename_i es _ _ _
        obtain ⟨r', o', q', hφ', _, ents, c, h2, h3, _⟩ := h.blk b _ hb
        rw [hφ] at hφ'; cases hφ'
        subst he
        simp [Builtin.len_, run_underlying hu, goInt, getObj, Sem.run, h2, h3.1]
theorem elems_ok {n : Nat} {x : T} {vx : Value} {es : List (List T)} (h : SR w0 g H w) (hx : VR g w x vx) (he : elemsOf H n x = some es) (hs : ∀ s, x ≠ .str s) :
    ∃ (a : Option Addr) (cap : Nat) (vs : List Value), vx = .slice a es.length cap ∧ es.length ≤ cap ∧ (a = none → es = [] ∧ cap = 0) ∧ (∀ a', a = some a' → (es ≠ [] → a'.spot = none) ∧ ∀ (j : Nat) (v : Value), vs[j]? = some v → w.cell? (a'.add j) = some v) ∧
      VRs g w es.flatten vs ∧ vs.length = es.length * n ∧ ones es.flatten ∧ ∀ c ∈ es, c.length = n := by
  cases hx with
  | slnil => simp [elemsOf] at he; subst he; exact ⟨none, 0, [], rfl, Nat.le_refl _, fun _ => ⟨rfl, rfl⟩, (by simp), VRs.nil, by simp, by simp [ones], by simp⟩
  | slarg a => simp [elemsOf] at he; subst he; exact ⟨a, 0, [], rfl, Nat.le_refl _, fun _ => ⟨rfl, rfl⟩, (by simp), VRs.nil, by simp, by simp [ones], by simp⟩
  | @sl k es0 r o cap n' vals hk hc hn h1 h2 =>
    simp only [elemsOf] at he
    split at he
    · rename_i hall
      simp at he; subst he
      have hall' : ∀ c ∈ es0, c.length = n := by simpa using hall
      have key : ∀ (i j : Nat), i < es0.length → j < n → ∃ c t, es0[i]? = some c ∧ c[j]? = some t ∧ t.one = true ∧ w.cell? ⟨r, o + i * n + j, none⟩ = some (vals i j) ∧ VR g w t (vals i j) := by
        intro i j hi hj
        have e1 : es0[i]? = some es0[i] := List.getElem?_eq_getElem hi
        have l1 : (es0[i]).length = n := hall' _ (List.getElem_mem hi)
        have l2 : (es0[i]).length = n' := hn _ (List.getElem_mem hi)
        have e2 : (es0[i])[j]? = some ((es0[i])[j]'(by omega)) := List.getElem?_eq_getElem _
        have a := h1 i j _ _ e1 e2
        have hnn : n' = n := by omega
        exact ⟨_, _, e1, e2, a.1, by rw [← hnn]; exact a.2.2, h2 i j _ _ e1 e2⟩
      have build : ∀ (l : List (List T)) (k : Nat), (∀ i c, l[i]? = some c → es0[k + i]? = some c) → ∃ vs : List Value, vs.length = l.length * n ∧ VRs g w l.flatten vs ∧ ones l.flatten ∧
          ∀ (j : Nat) (v : Value), vs[j]? = some v → w.cell? ⟨r, o + k * n + j, none⟩ = some v := by
        intro l
        induction l with
        | nil => intro k _; exact ⟨[], by simp, VRs.nil, by simp [ones], by simp⟩
        | cons c l ih =>
          intro k hk
          have hc0 := hk 0 c rfl
          simp only [Nat.add_zero] at hc0
          have hklt : k < es0.length := (List.getElem?_eq_some_iff.1 hc0).1
          have hcl : c.length = n := hall' c (List.mem_of_getElem? hc0)
          obtain ⟨vs, a1, a2, a3, a4⟩ := ih (k + 1) (fun i c' hi => by have := hk (i + 1) c' (by simpa using hi); rwa [show k + 1 + i = k + (i + 1) by omega])
          refine ⟨(List.range n).map (vals k) ++ vs, by simp [a1, Nat.succ_mul]; omega, ?_, ?_, fun j v hj => ?_⟩
          · rw [List.flatten_cons]
            refine VRs.append ⟨by simp [hcl], fun i t v hi hv => ?_⟩ a2
            have hlt : i < n := by have := (List.getElem?_eq_some_iff.1 hv).1; simpa using this
            obtain ⟨c', t', e1, e2, _, _, e5⟩ := key k i hklt hlt
            rw [hc0] at e1; cases e1
            rw [hi] at e2; cases e2
            simp [hlt] at hv
            rw [← hv]; exact e5
          · rw [List.flatten_cons]
            intro t ht
            rcases List.mem_append.1 ht with ht | ht
            · obtain ⟨i, hi, rfl⟩ := List.getElem_of_mem ht
              obtain ⟨c', t', e1, e2, e3, _, _⟩ := key k i hklt (by omega)
              rw [hc0] at e1; cases e1
              rw [List.getElem?_eq_getElem hi] at e2; cases e2
              exact e3
            · exact a3 t ht
          · rw [List.getElem?_append] at hj
            split at hj
            · rename_i hlt
              simp at hlt
              simp [hlt] at hj
              obtain ⟨c', t', _, _, _, e4, _⟩ := key k j hklt hlt
              rw [← hj]; exact e4
            · rename_i hge
              simp at hge hj
              have := a4 _ v hj
              rwa [show o + (k + 1) * n + (j - n) = o + k * n + j by rw [Nat.succ_mul]; omega] at this
      obtain ⟨vs, a1, a2, a3, a4⟩ := build es0 0 (fun i c h => by simpa using h)
      refine ⟨some ⟨r, o, none⟩, cap, vs, rfl, hc, by simp, fun a' ha => ?_, a2, a1, a3, hall'⟩
      cases ha
      exact ⟨fun _ => rfl, fun j v hj => by rw [add_mk]; simpa using a4 j v hj⟩
    · simp at he
  | @msl b off len n' r o q cap hφ hc hq =>
    simp only [elemsOf] at he
    cases hb : H[b]? with
    | none => simp [hb] at he
    | some y =>
      cases y with
      | cells cs =>
        simp only [hb] at he
        split at he
        · rename_i hcond
          obtain ⟨rfl, hle⟩ := hcond
          simp at he
          obtain ⟨h1, h2, h3⟩ := h.blk b _ hb r o q hφ
          have hlen : es.length = len := by rw [← he]; simp
          have hn : ∀ c ∈ es, c.length = n' := by
            rw [← he]
            intro c hc'
            obtain ⟨i, hi, rfl⟩ := List.mem_map.1 hc'
            simp at hi
            have : i * n' + n' ≤ len * n' := by rw [← Nat.succ_mul]; exact Nat.mul_le_mul_right _ hi
            simp; omega
          have hfl : ∀ m, m ≤ len → ((List.range m).map fun i => (cs.drop (off + i * n')).take n').flatten = (cs.drop off).take (m * n') := by
            intro m
            induction m with
            | zero => intro _; simp
            | succ m ih =>
              intro hm
              rw [List.range_succ, List.map_append, List.flatten_append, ih (by omega)]
              simp only [List.map_cons, List.map_nil, List.flatten_cons, List.flatten_nil, List.append_nil]
              rw [Nat.succ_mul, List.take_add, List.drop_drop]
          have hflat : es.flatten = (cs.drop off).take (len * n') := by rw [← he]; exact hfl len (Nat.le_refl _)
          have hp : ldc H (len * n') (.ptr b off) = some ((cs.drop off).take (len * n')) := by simp [ldc, hb, hle]
          obtain ⟨r', o', vs, e1, e2, e3, e4, e5⟩ := ldc_ok h (.ptr hφ) hp
          cases e1
          refine ⟨some ⟨r, o + off, none⟩, cap, vs, by rw [hlen], by omega, by simp, fun a' ha => ?_, by rw [hflat]; exact e4, by rw [e2, hlen], by rw [hflat]; exact e5, hn⟩
          cases ha
          exact ⟨fun _ => rfl, fun j v hj => by rw [add_mk]; exact e3 j v hj⟩
        · simp at he
      | fz cs =>
        simp only [hb] at he
        split at he
        · rename_i hcond
          obtain ⟨rfl, hle⟩ := hcond
          simp at he
          have hlen : es.length = len := by rw [← he]; simp
          have hn : ∀ c ∈ es, c.length = n' := by
            rw [← he]
            intro c hc'
            obtain ⟨i, hi, rfl⟩ := List.mem_map.1 hc'
            simp at hi
            have : i * n' + n' ≤ len * n' := by rw [← Nat.succ_mul]; exact Nat.mul_le_mul_right _ hi
            simp; omega
          have hfl : ∀ m, m ≤ len → ((List.range m).map fun i => (cs.drop (off + i * n')).take n').flatten = (cs.drop off).take (m * n') := by
            intro m
            induction m with
            | zero => intro _; simp
            | succ m ih =>
              intro hm
              rw [List.range_succ, List.map_append, List.flatten_append, ih (by omega)]
              simp only [List.map_cons, List.map_nil, List.flatten_cons, List.flatten_nil, List.append_nil]
              rw [Nat.succ_mul, List.take_add, List.drop_drop]
          have hflat : es.flatten = (cs.drop off).take (len * n') := by rw [← he]; exact hfl len (Nat.le_refl _)
          have hp : ldc H (len * n') (.ptr b off) = some ((cs.drop off).take (len * n')) := by simp [ldc, hb, hle]
          obtain ⟨r', o', vs, e1, e2, e3, e4, e5⟩ := ldc_ok h (.ptr hφ) hp
          cases e1
          refine ⟨some ⟨r, o + off, none⟩, cap, vs, by rw [hlen], by omega, by simp, fun a' ha => ?_, by rw [hflat]; exact e4, by rw [e2, hlen], by rw [hflat]; exact e5, hn⟩
          cases ha
          exact ⟨fun _ => rfl, fun j v hj => by rw [add_mk]; exact e3 j v hj⟩
        · simp at he
      | map _ => simp [hb] at he
      | tok _ => simp [hb] at he
      | _ => simp [hb] at he
  | str s => exact absurd rfl (hs s)
  | _ => simp [elemsOf] at he
theorem bytesOf_ok : ∀ (es : List (List T)) (l : List UInt8), bytesOf es = some l → ∃ ns : List Int, es = ns.map (fun n => [T.int .u8 n]) ∧ l = ns.map (fun n => UInt8.ofNat n.toNat)
  | [], l, h => ⟨[], rfl, by simpa [bytesOf] using h.symm⟩
  | [.int .u8 n] :: es, l, h => by
    simp only [bytesOf, Option.map_eq_some_iff] at h
    obtain ⟨l', h1, rfl⟩ := h
    obtain ⟨ns, rfl, rfl⟩ := bytesOf_ok es l' h1
    exact ⟨n :: ns, rfl, rfl⟩
  | [] :: es, l, h => by simp [bytesOf] at h
  | (_ :: _ :: _) :: es, l, h => by simp [bytesOf] at h
  | [.int .i8 n] :: es, l, h => by simp [bytesOf] at h
  | [.int .i16 n] :: es, l, h => by simp [bytesOf] at h
  | [.int .i32 n] :: es, l, h => by simp [bytesOf] at h
  | [.int .i64 n] :: es, l, h => by simp [bytesOf] at h
  | [.int .u16 n] :: es, l, h => by simp [bytesOf] at h
  | [.int .u32 n] :: es, l, h => by simp [bytesOf] at h
  | [.int .u64 n] :: es, l, h => by simp [bytesOf] at h
  | [.bool _] :: es, l, h => by simp [bytesOf] at h
  | [.str _] :: es, l, h => by simp [bytesOf] at h
  | [.nilp] :: es, l, h => by simp [bytesOf] at h
  | [.ptr _ _] :: es, l, h => by simp [bytesOf] at h
  | [.iptr _] :: es, l, h => by simp [bytesOf] at h
  | [.nilm] :: es, l, h => by simp [bytesOf] at h
  | [.map _] :: es, l, h => by simp [bytesOf] at h
  | [.sl _ _] :: es, l, h => by simp [bytesOf] at h
  | [.msl _ _ _ _] :: es, l, h => by simp [bytesOf] at h
  | [.nilf] :: es, l, h => by simp [bytesOf] at h
  | [.fn _ _] :: es, l, h => by simp [bytesOf] at h
  | [.niface] :: es, l, h => by simp [bytesOf] at h
  | [.agg _] :: es, l, h => by simp [bytesOf] at h
  | [.tup _] :: es, l, h => by simp [bytesOf] at h
theorem foldl_push (ns : List Int) : ∀ (b : ByteArray), ns.foldl (fun r n => r.push (UInt8.ofNat n.toNat)) b = ⟨b.data ++ (ns.map (fun n => UInt8.ofNat n.toNat)).toArray⟩ := by
  induction ns with
  | nil => intro b; simp
  | cons n ns ih => intro b; rw [List.foldl_cons, ih]; cases b; simp [ByteArray.push]
theorem flat1 (ns : List Int) : (ns.map fun n => [T.int .u8 n]).flatten = ns.map (T.int .u8) := by
  induction ns with
  | nil => rfl
  | cons n ns ih => simp only [List.map_cons, List.flatten_cons, ih]; rfl
theorem sim_cvs {src dst e : TypeId} {x : T} {vx : Value} {es : List (List T)} {l : List UInt8} (hs : P.underlying src = some (.slice e)) (hb : P.underlying e = some (.int .u8)) (hd : P.underlying dst = some .string)
    (h : SR w0 g H w) (hx : VR g w x vx) (he : elemsOf H 1 x = some es) (hn : ∀ s, x ≠ .str s) (hl : bytesOf es = some l) : Sim P w0 g H w (convert src dst vx) (.str ⟨l.toArray⟩) H := by
  obtain ⟨a, cap, vs, rfl, _, h1, h2, h3, h4, h5, _⟩ := elems_ok h hx he hn
  obtain ⟨ns, rfl, rfl⟩ := bytesOf_ok es l hl
  refine Sim.same h ?_ (.str _)
  rw [run_convert_bytes_string w src dst e a _ cap hs hb hd]
  cases a with
  | none =>
    have := h1 rfl
    have hns : ns = [] := by simpa using this.1
    subst hns
    simp [Conv.bytesToString]; rfl
  | some a =>
    obtain ⟨_, h6⟩ := h2 a rfl
    have hvs : vs = ns.map (Value.int .u8) := by
      apply List.ext_getElem?
      intro i
      have hlen : vs.length = ns.length := by simpa using h4
      by_cases hi : i < ns.length
      · have hv : vs[i]? = some vs[i] := List.getElem?_eq_getElem (by omega)
        have ht : ((ns.map fun n => [T.int .u8 n]).flatten)[i]? = some (T.int .u8 ns[i]) := by
          rw [flat1]; simp [hi]
        have := h3.2 i _ _ ht hv
        rw [hv]
        simp only [List.getElem?_map, List.getElem?_eq_getElem hi, Option.map_some]
        congr 1
        generalize vs[i] = vv at this
        cases this; rfl
      · rw [List.getElem?_eq_none (by omega), List.getElem?_eq_none (by simpa using hi)]
    have := run_loadCells_list (P := P) w a vs h6
    rw [h4] at this
    have hl : (ns.map fun n => [T.int .u8 n]).length * 1 = (ns.map fun n => [T.int .u8 n]).length := Nat.mul_one _
    rw [hl] at this
    rw [run_bytesToString w a _ cap ns (by rw [this, hvs]), foldl_push]
    show Result.ok (Value.string ⟨#[] ++ _⟩) w = _
    simp
end
end Go.Rmp
end

section
namespace Go.Rmp
section
variable {P : Program} {w0 w : World} {g : Ctx} {H : Heap}
def const1 : Value → Option T
  | .int k n => some (.int k n)
  | .bool b => some (.bool b)
  | .string s => some (.str s)
  | .pointer none => some .nilp
  | .slice none 0 0 => some (.sl .nil [])
  | .map none => some .nilm
  | .nilFunc => some .nilf
  | .nilIface => some .niface
  | _ => none
def constL : List Value → Option (List T)
  | [] => some []
  | v :: vs => match const1 v, constL vs with
    | some t, some ts => some (t :: ts)
    | _, _ => none
def constT : Value → Option T
  | .agg cs => (constL cs.toList).map .agg
  | .tuple cs => if cs.size = 0 then some (.tup []) else none
  | v => const1 v
theorem const1_ok {v : Value} {t : T} (h : const1 v = some t) : VR g w t v ∧ t.one = true := by
  unfold const1 at h
  split at h <;> simp at h <;> subst h
  · exact ⟨.int _ _, rfl⟩
  · exact ⟨.bool _, rfl⟩
  · exact ⟨.str _, rfl⟩
  · exact ⟨.nilp, rfl⟩
  · exact ⟨.slnil, rfl⟩
  · exact ⟨.nilm, rfl⟩
  · exact ⟨.nilf, rfl⟩
  · exact ⟨.niface, rfl⟩
theorem constL_ok : ∀ (vs : List Value) (ts : List T), constL vs = some ts → VRs g w ts vs ∧ ones ts
  | [], ts, h => by simp [constL] at h; subst h; exact ⟨VRs.nil, by simp [ones]⟩
  | v :: vs, ts, h => by
    simp only [constL] at h
    cases h1 : const1 v with
    | none => simp [h1] at h
    | some t =>
      cases h2 : constL vs with
      | none => simp [h1, h2] at h
      | some ts' =>
        simp [h1, h2] at h; subst h
        obtain ⟨a, b⟩ := const1_ok (g := g) (w := w) h1
        obtain ⟨c, d⟩ := constL_ok vs ts' h2
        exact ⟨VRs.cons a c, by intro x hx; rcases List.mem_cons.1 hx with rfl | hx; exact b; exact d x hx⟩
theorem constT_ok {v : Value} {t : T} (h : constT v = some t) : VR g w t v := by
  unfold constT at h
  split at h
  · rename_i cs
    simp only [Option.map_eq_some_iff] at h
    obtain ⟨ts, h1, rfl⟩ := h
    obtain ⟨a, b⟩ := constL_ok (g := g) (w := w) _ _ h1
    have := a.agg b
    simpa using this
  · rename_i cs
    split at h
    · rename_i hs
      simp at h; subst h
      have : cs = #[] := Array.eq_empty_of_size_eq_zero hs
      subst this
      exact .tup rfl (by simp)
    · simp at h
  · exact (const1_ok h).1
theorem natOf_ok {x : T} {vx : Value} {i : Nat} (hx : VR g w x vx) (h : natOf x = some i) : ∃ (k : IntKind) (n : Int), vx = .int k n ∧ 0 ≤ n ∧ n.toNat = i := by
  cases hx <;> simp [natOf] at h
  exact ⟨_, _, rfl, h.1, h.2⟩
theorem iptr_drop {cs : List T} {r o off : Nat} (h : VR g w (.iptr cs) (.pointer (some ⟨r, o, none⟩))) : VR g w (.iptr (cs.drop off)) (.pointer (some ⟨r, o + off, none⟩)) := by
  cases h with
  | iptr vals h1 h2 =>
    refine .iptr (fun j => vals (off + j)) (fun j t e => ?_) (fun j t e => ?_)
    · rw [List.getElem?_drop] at e
      have := h1 (off + j) t e
      exact ⟨this.1, by rw [Nat.add_assoc]; exact this.2⟩
    · rw [List.getElem?_drop] at e
      exact h2 (off + j) t e
theorem sim_fad {ty : TypeId} {fs : Array Field} {i : Nat} {f : Field} {fi : TypeInfo} {x t : T} {vx : Value} (hu : P.underlying ty = some (.struct fs)) (hf : fs[i]? = some f) (hi : P.info? f.type = some fi) (hz : fi.size ≠ 0)
    (h : SR w0 g H w) (hx : VR g w x vx) (he : fadT f.offset x = some t) :
    Sim P w0 g H w (Instr.fieldAt ty vx i) t H := by
  cases hx <;> simp [fadT] at he
  case ptr b off r o q hφ =>
    subst he
    refine Sim.same h (v := .pointer (some ⟨r, o + (off + f.offset), none⟩)) ?_ (.ptr hφ)
    simp [Instr.fieldAt, Instr.sureAddr, run_underlying hu, hf, fieldPlace, sizeOf, run_ti hi, hz, add_mk, Nat.add_assoc]
  case iptr cs r o vals h1 h2 =>
    obtain ⟨_, rfl⟩ := he
    refine Sim.same h (v := .pointer (some ⟨r, o + f.offset, none⟩)) ?_ (iptr_drop (.iptr vals h1 h2))
    simp [Instr.fieldAt, Instr.sureAddr, run_underlying hu, hf, fieldPlace, sizeOf, run_ti hi, hz, add_mk]
theorem run_part {ty : TypeId} {d : TypeDesc} {i : TypeInfo} {ag : Bool} {n off : Nat} {cs : List T} {vs : List Value} {t : T} (hd : P.underlying ty = some d) (hi : P.info? ty = some i) (hag : isAggD d = ag) (hn : i.size = n)
    (hv : VRs g w cs vs) (ho : ones cs) (hle : off + n ≤ cs.length) (he : valOf ag ((cs.drop off).take n) = some t) : ∃ v, (part ty vs.toArray off).run P w = .ok v w ∧ VR g w t v := by
  have h1 := (hv.drop off).take n
  have h2 : ones ((cs.drop off).take n) := fun x hx => ho x (List.mem_of_mem_drop (List.mem_of_mem_take hx))
  obtain ⟨ha, hb⟩ := valOf_ok h1 h2 he
  cases ag with
  | true =>
    refine ⟨_, ?_, ha rfl⟩
    simp [part, run_isAgg' hd, hag, sizeOf, run_ti hi, hn]
  | false =>
    obtain ⟨v, h3, h4⟩ := hb rfl
    refine ⟨v, ?_, h4⟩
    have h5 : vs[off]? = some v := by
      have : ((vs.drop off).take n)[0]? = some v := by rw [h3]; rfl
      rw [List.getElem?_take] at this
      split at this
      · rw [List.getElem?_drop] at this; simpa using this
      · simp at this
    simp [part, run_isAgg' hd, hag, h5]
theorem sim_fld {ty : TypeId} {fs : Array Field} {i : Nat} {f : Field} {fi : TypeInfo} {d : TypeDesc} {cs : List T} {t : T} {vx : Value} {ag : Bool} (hu : P.underlying ty = some (.struct fs)) (hf : fs[i]? = some f) (hd : P.underlying f.type = some d) (hi : P.info? f.type = some fi)
    (hag : isAggD d = ag) (h : SR w0 g H w) (hx : VR g w (.agg cs) vx) (hle : f.offset + fi.size ≤ cs.length) (he : valOf ag ((cs.drop f.offset).take fi.size) = some t) : Sim P w0 g H w (Instr.field ty vx i) t H := by
  obtain ⟨vs, rfl, h1, h2⟩ := hx.agg_inv
  obtain ⟨v, hr, hv⟩ := run_part (P := P) hd hi hag rfl h1 h2 hle he
  exact Sim.same h (by simp [Instr.field, run_underlying hu, hf, asAgg, hr]) hv
theorem sim_iad {ty elem : TypeId} {ei : TypeInfo} {x ix t : T} {i : Nat} {vx vi : Value} (hu : P.underlying ty = some (.slice elem)) (hi : P.info? elem = some ei)
    (h : SR w0 g H w) (hx : VR g w x vx) (hix : VR g w ix vi) (hn : natOf ix = some i) (he : iadT ei.size i x = some t) : Sim P w0 g H w (Instr.indexAt ty vx vi) t H := by
  obtain ⟨k, m, rfl, hm0, hmi⟩ := natOf_ok hix hn
  cases hx <;> simp [iadT] at he
  case sl k' es r o cap n vals hk hc hn' h1 h2 =>
    cases hes : es[i]? with
    | none => simp [hes] at he
    | some c =>
      simp [hes] at he
      obtain ⟨⟨hcl, hne⟩, rfl⟩ := he
      have hlt : i < es.length := (List.getElem?_eq_some_iff.1 hes).1
      have hcn : c.length = n := hn' c (List.mem_of_getElem? hes)
      have hnn : n = ei.size := by omega
      subst hnn
      refine Sim.same h (v := .pointer (some ⟨r, o + i * ei.size, none⟩)) ?_ (.iptr (vals i) (fun j t e => h1 i j c t hes e) (fun j t e => h2 i j c t hes e))
      have hmlt : m < es.length := by omega
      simp [Instr.indexAt, asIntOf, run_underlying hu, hm0, hmlt, sizeOf, run_ti hi, add_mk, hmi]
  case msl b off len n r o q cap hφ hc hq =>
    obtain ⟨⟨rfl, hlt, hne⟩, rfl⟩ := he
    refine Sim.same h (v := .pointer (some ⟨r, o + (off + i * ei.size), none⟩)) ?_ (.ptr hφ)
    have hmlt : m < len := by omega
    simp [Instr.indexAt, asIntOf, run_underlying hu, hm0, hmlt, sizeOf, run_ti hi, add_mk, hmi, Nat.add_assoc]
theorem sim_iaa {ty elem : TypeId} {len : Nat} {ei : TypeInfo} {ix : T} {b off i : Nat} {vx vi : Value} (hu : P.underlying ty = some (.array len elem)) (hi : P.info? elem = some ei)
    (h : SR w0 g H w) (hx : VR g w (.ptr b off) vx) (hix : VR g w ix vi) (hn : natOf ix = some i) (hlt : i < len) : Sim P w0 g H w (Instr.indexAt ty vx vi) (.ptr b (off + i * ei.size)) H := by
  obtain ⟨k, m, rfl, hm0, hmi⟩ := natOf_ok hix hn
  cases hx with
  | @ptr _ _ r o q hφ =>
    refine Sim.same h (v := .pointer (some ⟨r, o + (off + i * ei.size), none⟩)) ?_ (.ptr hφ)
    have hmlt : m < len := by omega
    simp [Instr.indexAt, Instr.sureAddr, asIntOf, run_underlying hu, hm0, hmlt, sizeOf, run_ti hi, add_mk, hmi, Nat.add_assoc]
theorem sim_ixs {ty : TypeId} {ix : T} {s : ByteArray} {i : Nat} {c : UInt8} {vx vi : Value} (hu : P.underlying ty = some .string)
    (h : SR w0 g H w) (hx : VR g w (.str s) vx) (hix : VR g w ix vi) (hn : natOf ix = some i) (hc : s.data[i]? = some c) : Sim P w0 g H w (Instr.index ty vx vi) (.int .u8 c.toNat) H := by
  obtain ⟨k, m, rfl, hm0, hmi⟩ := natOf_ok hix hn
  cases hx
  refine Sim.same h ?_ (.int _ _)
  have hc' : s[i]? = some c := by
    have hlt : i < s.data.size := (Array.getElem?_eq_some_iff.1 hc).1
    have h2 := (Array.getElem?_eq_some_iff.1 hc).2
    have hlt' : i < s.size := hlt
    rw [getElem?_pos s i hlt']
    exact congrArg some h2
  simp [Instr.index, asIntOf, run_underlying hu, hm0, hmi, hc']
theorem sim_ixa {ty elem : TypeId} {len i : Nat} {ei : TypeInfo} {d : TypeDesc} {ag : Bool} {ix t : T} {cs : List T} {vx vi : Value} (hu : P.underlying ty = some (.array len elem)) (hd : P.underlying elem = some d) (hi : P.info? elem = some ei) (hag : isAggD d = ag)
    (h : SR w0 g H w) (hx : VR g w (.agg cs) vx) (hix : VR g w ix vi) (hn : natOf ix = some i) (hlt : i < len) (hle : i * ei.size + ei.size ≤ cs.length) (he : valOf ag ((cs.drop (i * ei.size)).take ei.size) = some t) : Sim P w0 g H w (Instr.index ty vx vi) t H := by
  obtain ⟨k, m, rfl, hm0, hmi⟩ := natOf_ok hix hn
  obtain ⟨vs, rfl, h1, h2⟩ := hx.agg_inv
  obtain ⟨v, hr, hv⟩ := run_part (P := P) hd hi hag rfl h1 h2 hle he
  have hmlt : m < len := by omega
  exact Sim.same h (by simp [Instr.index, asIntOf, run_underlying hu, hm0, hmlt, sizeOf, run_ti hi, hmi, hr]) hv
def OV (g : Ctx) (w : World) (R : Regs) : Option X → Option Value → Prop
  | none, none => True
  | some x, some v => VR g w (x.ev R) v
  | _, _ => False
def loOk (l : Nat) : Option Value → Prop
  | none => l = 0
  | some v => ∃ k n, v = .int k n ∧ 0 ≤ n ∧ n.toNat = l
theorem run_sliceBound {k : IntKind} {n : Int} {y : Nat} {c : BoundsCode} (h0 : 0 ≤ n) (hy : n.toNat ≤ y) : (Instr.sliceBound (.int k n) y c).run P w = .ok n.toNat w := by
  have : n ≤ y := by omega
  simp [Instr.sliceBound, asIntOf, h0, this]
theorem bounds_ok {R : Regs} {isS : Bool} {len cap d l hh : Nat} {lo hi : Option X} {vlo vhi : Option Value} (hvl : OV g w R lo vlo)
    (hvh : OV g w R hi vhi) (hl : bnd R 0 lo = some l) (hh' : bnd R d hi = some hh) (hd : hi = none → d = len) (h1 : l ≤ hh) (h2 : hh ≤ cap) :
    (Instr.sliceBounds isS len cap vlo vhi none).run P w = .ok (l, hh, cap) w := by
  have eh : ∀ c, (match vhi with | some v => Instr.sliceBound v cap c | none => pure len : Sem Nat).run P w = .ok hh w := by
    intro c
    cases hi with
    | none =>
      cases vhi with
      | none => simp [bnd] at hh'; simp [← hh', hd rfl]
      | some _ => exact hvh.elim
    | some x =>
      cases vhi with
      | none => exact hvh.elim
      | some v =>
        obtain ⟨k, n, rfl, a, b⟩ := natOf_ok hvh hh'
        subst b
        exact run_sliceBound a h2
  have el : ∀ c, (match vlo with | some v => Instr.sliceBound v hh c | none => pure 0 : Sem Nat).run P w = .ok l w := by
    intro c
    cases lo with
    | none =>
      cases vlo with
      | none => simp [bnd] at hl; simp [← hl]
      | some _ => exact hvl.elim
    | some x =>
      cases vlo with
      | none => exact hvl.elim
      | some v =>
        obtain ⟨k, n, rfl, a, b⟩ := natOf_ok hvl hl
        subst b
        exact run_sliceBound a h1
  have eh' := eh (if isS then .sliceAcap else .sliceAlen)
  have el' := el .sliceB
  cases vhi <;> cases vlo <;> simp_all [Instr.sliceBounds]
theorem sim_sls {R : Regs} {ty : TypeId} {s : ByteArray} {l hh : Nat} {lo hi : Option X} {vlo vhi : Option Value} {vx : Value} (hu : P.underlying ty = some .string)
    (h : SR w0 g H w) (hx : VR g w (.str s) vx) (hvl : OV g w R lo vlo)
    (hvh : OV g w R hi vhi) (hl : bnd R 0 lo = some l) (hh' : bnd R s.size hi = some hh) (h1 : l ≤ hh) (h2 : hh ≤ s.size) :
    Sim P w0 g H w (Instr.sliceAt ty vx vlo vhi none) (.str (s.extract l hh)) H := by
  cases hx
  refine Sim.same h ?_ (.str _)
  have := bounds_ok (P := P) (isS := false) hvl hvh hl hh' (fun _ => rfl) h1 h2
  simp [Instr.sliceAt, run_underlying hu, Instr.slice, this]
theorem imm_sub {k k' : SK} {es : List (List T)} {r o cap cap' n l m : Nat} {a : Option Addr} (vals : Nat → Nat → Value) (hn : ∀ c ∈ es, c.length = n)
    (h1 : ∀ (i j : Nat) (c : List T) (t : T), es[i]? = some c → c[j]? = some t → t.one = true ∧ Imm g w r (o + i * n + j) (vals i j))
    (h2 : ∀ (i j : Nat) (c : List T) (t : T), es[i]? = some c → c[j]? = some t → VR g w t (vals i j))
    (hlm : l ≤ m) (hm : m ≤ es.length) (hcap : m - l ≤ cap') (hk : KOk g k' r (o + l * n) (m - l) cap' n) :
    VR g w (.sl k' ((es.take m).drop l)) (.slice (some ⟨r, o + l * n, none⟩) (m - l) cap') := by
  have hlen : ((es.take m).drop l).length = m - l := by simp; omega
  have get : ∀ i c, ((es.take m).drop l)[i]? = some c → es[l + i]? = some c := by
    intro i c hi
    rw [List.getElem?_drop, List.getElem?_take] at hi
    split at hi
    · exact hi
    · simp at hi
  have := VR.sl (g := g) (w := w) (k := k') (es := (es.take m).drop l) (r := r) (o := o + l * n) (cap := cap') (n := n) (fun i j => vals (l + i) j) (by rw [hlen]; exact hk) (by omega)
    (fun c hc => hn c (List.mem_of_mem_take (List.mem_of_mem_drop hc)))
    (fun i j c t a b => ⟨(h1 (l + i) j c t (get i c a) b).1, by
      have := (h1 (l + i) j c t (get i c a) b).2
      rwa [show o + l * n + i * n + j = o + (l + i) * n + j by rw [Nat.add_mul]; omega]⟩)
    (fun i j c t a b => h2 (l + i) j c t (get i c a) b)
  rwa [hlen] at this
theorem sim_sll {R : Regs} {ty elem : TypeId} {ei : TypeInfo} {k : SK} {es : List (List T)} {l hh : Nat} {lo hi : Option X} {vlo vhi : Option Value} {vx : Value} (hu : P.underlying ty = some (.slice elem)) (hi' : P.info? elem = some ei)
    (h : SR w0 g H w) (hx : VR g w (.sl k es) vx) (hvl : OV g w R lo vlo)
    (hvh : OV g w R hi vhi) (hl : bnd R 0 lo = some l) (hh' : bnd R es.length hi = some hh) (h1 : l ≤ hh) (h2 : hh ≤ es.length) (hall : es.all (·.length == ei.size) = true) :
    Sim P w0 g H w (Instr.sliceAt ty vx vlo vhi none) (.sl (k.cut es.length l hh) ((es.take hh).drop l)) H := by
  have hall' : ∀ c ∈ es, c.length = ei.size := by simpa using hall
  cases hx with
  | slnil =>
    simp at h2; subst h2
    have hl0 : l = 0 := by omega
    subst hl0
    have := bounds_ok (P := P) (w := w) (g := g) (isS := true) (cap := 0) hvl hvh hl hh' (fun _ => rfl) h1 (Nat.le_refl _)
    simp only [List.length_nil] at this
    exact Sim.same h (v := .slice none 0 0) (by simp [Instr.sliceAt, run_underlying hu, Instr.slice, this, sizeOf, run_ti hi']) (by simpa [SK.cut] using VR.slnil)
  | slarg a =>
    simp at h2; subst h2
    have hl0 : l = 0 := by omega
    subst hl0
    have := bounds_ok (P := P) (w := w) (g := g) (isS := true) (cap := 0) hvl hvh hl hh' (fun _ => rfl) h1 (Nat.le_refl _)
    simp only [List.length_nil] at this
    exact Sim.same h (v := .slice a 0 0) (by cases a <;> simp [Instr.sliceAt, run_underlying hu, Instr.slice, this, sizeOf, run_ti hi']) (by simpa [SK.cut] using VR.slarg a)
  | @sl _ _ r o cap n vals hk hc hn h3 h4 =>
    have := bounds_ok (P := P) (w := w) (g := g) (isS := true) (cap := cap) hvl hvh hl hh' (fun _ => rfl) h1 (by omega)
    have hr : (Instr.sliceAt ty (.slice (some ⟨r, o, none⟩) es.length cap) vlo vhi none).run P w = .ok (.slice (some (if cap = l then ⟨r, o, none⟩ else ⟨r, o + l * ei.size, none⟩)) (hh - l) (cap - l)) w := by
      simp [Instr.sliceAt, run_underlying hu, Instr.slice, this, sizeOf, run_ti hi', add_mk]
      split <;> rfl
    by_cases he : l < hh
    · -- something is left
      have hcl : cap ≠ l := by omega
      simp only [hcl, if_false] at hr
      have hnn : n = ei.size := by
        cases es with
        | nil => simp at h2; omega
        | cons c es => have a := hn c (by simp); have b := hall' c (by simp); omega
      subst hnn
      refine Sim.same h hr (imm_sub (k := k) (cap := cap) (a := none) vals hn h3 h4 h1 h2 (by omega) ?_)
      cases k with
      | nil => exact hk.elim
      | arg => trivial
      | full =>
        simp only [SK.cut]; split
        · rename_i e; simp only [KOk] at hk ⊢; omega
        · trivial
      | own t e =>
        simp only [SK.cut]; split
        · rename_i e'
          simp only [KOk] at hk ⊢
          refine ⟨?_, by omega⟩
          rw [hk.1]
          have e1 : o + l * ei.size + (hh - l) * ei.size = o + es.length * ei.size := by
            rw [Nat.add_assoc, ← Nat.add_mul]; congr 2; omega
          have e2 : o + l * ei.size + (cap - l) * ei.size = o + cap * ei.size := by
            rw [Nat.add_assoc, ← Nat.add_mul]; congr 2; omega
          rw [e1, e2]
        · trivial
    · have hle : l = hh := by omega
      subst hle
      have hd : (es.take l).drop l = [] := by simp
      rw [hd]
      have vr : ∀ a : Addr, a.spot = none → VR g w (.sl .arg []) (.slice (some a) 0 (cap - l)) := by
        intro a ha
        obtain ⟨ab, ao, aq⟩ := a
        simp at ha; subst ha
        exact .sl (n := 0) (fun _ _ => .nilIface) trivial (by simp) (by simp) (by simp) (by simp)
      have hkk : k.cut es.length l l = .arg ∨ (k.cut es.length l l = .full ∧ cap = l) := by
        cases k with
        | nil => exact hk.elim
        | arg => exact .inl rfl
        | full => simp only [SK.cut]; split
                  · rename_i e; right; simp only [KOk] at hk; exact ⟨rfl, by omega⟩
                  · exact .inl rfl
        | own t e => simp only [SK.cut]; split
                     · omega
                     · exact .inl rfl
      rcases hkk with e | ⟨e, hcl⟩
      · rw [e]
        refine Sim.same h hr ?_
        rw [Nat.sub_self]
        exact vr _ (by split <;> rfl)
      · rw [e]
        refine Sim.same h hr ?_
        rw [Nat.sub_self, hcl, Nat.sub_self]
        have hsp : ∀ a : Addr, a.spot = none → VR g w (.sl .full []) (.slice (some a) 0 0) := by
          intro a ha
          obtain ⟨ab, ao, aq⟩ := a
          simp at ha; subst ha
          exact .sl (n := 0) (fun _ _ => .nilIface) rfl (by simp) (by simp) (by simp) (by simp)
        exact hsp _ (by split <;> rfl)
theorem run_sliceBounds3 {isS : Bool} {len cap l hh m : Nat} {vlo : Option Value} {k : IntKind} {nm : Int} {vh : Value}
    (hm0 : 0 ≤ nm) (hmn : nm.toNat = m) (hmc : m ≤ cap) (hh' : ∃ k n, vh = .int k n ∧ 0 ≤ n ∧ n.toNat = hh) (h2 : hh ≤ m)
    (hl : loOk l vlo) (h1 : l ≤ hh) :
    (Instr.sliceBounds isS len cap vlo (some vh) (some (.int k nm))).run P w = .ok (l, hh, m) w := by
  subst hmn
  obtain ⟨kh, nh, rfl, a, b⟩ := hh'
  subst b
  cases vlo with
  | none => simp only [loOk] at hl; subst hl; simp [Instr.sliceBounds, run_sliceBound hm0 hmc, run_sliceBound a h2]
  | some v =>
    obtain ⟨kl, nl, rfl, c, d⟩ := hl
    subst d
    simp [Instr.sliceBounds, run_sliceBound hm0 hmc, run_sliceBound a h2, run_sliceBound c h1]
theorem sim_sll3 {R : Regs} {ty elem : TypeId} {ei : TypeInfo} {k : SK} {es : List (List T)} {l hh m : Nat} {lo : Option X} {hi mx : X} {vlo : Option Value} {vhi vm : Value} {vx : Value} (hu : P.underlying ty = some (.slice elem)) (hi' : P.info? elem = some ei)
    (h : SR w0 g H w) (hx : VR g w (.sl k es) vx) (hvl : OV g w R lo vlo)
    (hvh : VR g w (hi.ev R) vhi) (hvm : VR g w (mx.ev R) vm) (hl : bnd R 0 lo = some l) (hh' : natOf (hi.ev R) = some hh) (hm : natOf (mx.ev R) = some m) (h1 : l ≤ hh) (h2 : hh ≤ m) (h2m : m ≤ es.length) (hall : es.all (·.length == ei.size) = true) :
    Sim P w0 g H w (Instr.sliceAt ty vx vlo (some vhi) (some vm)) (.sl (if k = .nil then .nil else if es = [] ∧ k = .arg then .arg else if hh = m then .full else .arg) ((es.take hh).drop l)) H := by
  have hall' : ∀ c ∈ es, c.length = ei.size := by simpa using hall
  have hlo : loOk l vlo := by
    cases lo <;> cases vlo
    · simp [bnd] at hl; exact hl.symm
    · exact hvl.elim
    · exact hvl.elim
    · exact natOf_ok hvl hl
  obtain ⟨km, nm, rfl, hm0, hmn⟩ := natOf_ok hvm hm
  have hb : ∀ cap, m ≤ cap → (Instr.sliceBounds true es.length cap vlo (some vhi) (some (.int km nm))).run P w = .ok (l, hh, m) w :=
    fun cap hc => run_sliceBounds3 hm0 hmn hc (natOf_ok hvh hh') h2 hlo h1
  cases hx with
  | slnil =>
    simp at h2m; subst h2m
    obtain rfl : hh = 0 := by omega
    obtain rfl : l = 0 := by omega
    have := hb 0 (Nat.le_refl _)
    simp only [List.length_nil] at this
    exact Sim.same h (v := .slice none 0 0) (by simp [Instr.sliceAt, run_underlying hu, Instr.slice, this, sizeOf, run_ti hi']) (by simpa using VR.slnil)
  | slarg a =>
    simp at h2m; subst h2m
    obtain rfl : hh = 0 := by omega
    obtain rfl : l = 0 := by omega
    have := hb 0 (Nat.le_refl _)
    simp only [List.length_nil] at this
    exact Sim.same h (v := .slice a 0 0) (by cases a <;> simp [Instr.sliceAt, run_underlying hu, Instr.slice, this, sizeOf, run_ti hi']) (by simpa using VR.slarg a)
  | @sl _ _ r o cap n vals hk hc hn h3 h4 =>
    have hknil : k ≠ .nil := by rintro rfl; exact hk.elim
    simp only [hknil, if_false]
    have hr : (Instr.sliceAt ty (.slice (some ⟨r, o, none⟩) es.length cap) vlo (some vhi) (some (.int km nm))).run P w = .ok (.slice (some (if m = l then ⟨r, o, none⟩ else ⟨r, o + l * ei.size, none⟩)) (hh - l) (m - l)) w := by
      simp [Instr.sliceAt, run_underlying hu, Instr.slice, hb cap (by omega), sizeOf, run_ti hi', add_mk]
      split <;> rfl
    by_cases he : l < hh
    · have hcl : m ≠ l := by omega
      simp only [hcl, if_false] at hr
      have hne : es ≠ [] := by rintro rfl; simp at h2m; omega
      have hnn : n = ei.size := by
        cases es with
        | nil => exact absurd rfl hne
        | cons c es => have a := hn c (by simp); have b := hall' c (by simp); omega
      subst hnn
      simp only [hne, false_and, if_false]
      refine Sim.same h hr (imm_sub (k := k) (cap := cap) (a := none) vals hn h3 h4 h1 (by omega) (by omega) ?_)
      split
      · rename_i e; simp only [KOk]; omega
      · trivial
    · obtain rfl : l = hh := by omega
      have hd : (es.take l).drop l = [] := by simp
      rw [hd]
      have hsp : ∀ (a : Addr) (c : Nat) (k' : SK), a.spot = none → (k' = .arg ∨ (k' = .full ∧ c = 0)) → VR g w (.sl k' []) (.slice (some a) 0 c) := by
        intro a c k' ha hk'
        obtain ⟨ab, ao, aq⟩ := a
        simp at ha; subst ha
        refine .sl (n := 0) (fun _ _ => .nilIface) ?_ (by simp) (by simp) (by simp) (by simp)
        rcases hk' with rfl | ⟨rfl, rfl⟩
        · trivial
        · rfl
      refine Sim.same h hr ?_
      rw [Nat.sub_self]
      refine hsp _ _ _ (by split <;> rfl) ?_
      split
      · exact .inl rfl
      · split
        · exact .inr ⟨rfl, by omega⟩
        · exact .inl rfl
theorem sim_sllm {R : Regs} {ty elem : TypeId} {ei : TypeInfo} {b off len l hh : Nat} {lo hi : Option X} {vlo vhi : Option Value} {vx : Value} (hu : P.underlying ty = some (.slice elem)) (hi' : P.info? elem = some ei)
    (h : SR w0 g H w) (hx : VR g w (.msl b off len ei.size) vx) (hvl : OV g w R lo vlo)
    (hvh : OV g w R hi vhi) (hl : bnd R 0 lo = some l) (hh' : bnd R len hi = some hh) (h1 : l ≤ hh) (h2 : hh ≤ len) :
    Sim P w0 g H w (Instr.sliceAt ty vx vlo vhi none) (if l = hh then (if l = 0 then .msl b off 0 ei.size else .sl .arg []) else .msl b (off + l * ei.size) (hh - l) ei.size) H := by
  cases hx with
  | @msl _ _ _ _ r o q cap hφ hc hq =>
    have := bounds_ok (P := P) (w := w) (g := g) (isS := true) (cap := cap) hvl hvh hl hh' (fun _ => rfl) h1 (by omega)
    have hr : (Instr.sliceAt ty (.slice (some ⟨r, o + off, none⟩) len cap) vlo vhi none).run P w = .ok (.slice (some (if cap = l then ⟨r, o + off, none⟩ else ⟨r, o + off + l * ei.size, none⟩)) (hh - l) (cap - l)) w := by
      simp [Instr.sliceAt, run_underlying hu, Instr.slice, this, sizeOf, run_ti hi', add_mk]
      split <;> rfl
    refine Sim.same h hr ?_
    have key : ∀ a : Addr, a = ⟨r, o + (off + l * ei.size), none⟩ → (cap ≠ l ∨ l = 0) → VR g w (.msl b (off + l * ei.size) (hh - l) ei.size) (.slice (some a) (hh - l) (cap - l)) := by
      rintro a rfl hcl
      refine .msl hφ (by omega) ?_
      rw [← hq]
      have : l * ei.size + (cap - l) * ei.size = cap * ei.size := by rw [← Nat.add_mul]; congr 1; omega
      omega
    split
    · rename_i e; subst e
      split
      · rename_i e; subst e
        have := key (if cap = 0 then ⟨r, o + off, none⟩ else ⟨r, o + off + 0 * ei.size, none⟩) (by split <;> simp) (.inr rfl)
        simpa using this
      · rw [Nat.sub_self]
        have hsp : ∀ (a : Addr) (c : Nat), a.spot = none → VR g w (.sl .arg []) (.slice (some a) 0 c) := by
          intro a c ha
          obtain ⟨ab, ao, aq⟩ := a
          simp at ha; subst ha
          exact .sl (n := 0) (fun _ _ => .nilIface) trivial (by simp) (by simp) (by simp) (by simp)
        exact hsp _ _ (by split <;> rfl)
    · have hcl : cap ≠ l := by omega
      exact key _ (by rw [if_neg hcl, Nat.add_assoc]) (.inl hcl)
theorem sim_slr {R : Regs} {ty elem : TypeId} {ei : TypeInfo} {b off len hh : Nat} {hi : X} {vhi : Value} {vx : Value} (hu : P.underlying ty = some (.slice elem)) (hi' : P.info? elem = some ei)
    (h : SR w0 g H w) (hx : VR g w (.msl b off len ei.size) vx)
    (hvh : OV g w R (some hi) (some vhi)) (hh' : natOf (hi.ev R) = some hh) (hn : ei.size ≠ 0) (h0 : 0 < hh) (hr : off + hh * ei.size ≤ roLen H b) :
    Sim P w0 g H w (Instr.sliceAt ty vx none (some vhi) none) (.msl b off hh ei.size) H := by
  cases hx with
  | @msl _ _ _ _ r o q cap hφ hc hq =>
    have hcs : o + (off + hh * ei.size) ≤ q := by
      unfold roLen at hr
      split at hr
      · rename_i cs hb
        have := (h.blk _ _ hb r o q hφ).1; omega
      · rename_i cs hb
        have := (h.blk _ _ hb r o q hφ).1; omega
      · have : 0 < hh * ei.size := Nat.mul_pos h0 (Nat.pos_of_ne_zero hn)
        omega
    have hcap : hh ≤ cap := by
      have h1 : hh * ei.size ≤ cap * ei.size := by omega
      exact Nat.le_of_mul_le_mul_right h1 (Nat.pos_of_ne_zero hn)
    have := bounds_ok (P := P) (w := w) (g := g) (R := R) (isS := true) (d := len) (len := len) (cap := cap) (lo := none) (vlo := none) (l := 0) trivial hvh rfl hh' (fun _ => rfl) (Nat.zero_le _) hcap
    have hr : (Instr.sliceAt ty (.slice (some ⟨r, o + off, none⟩) len cap) none (some vhi) none).run P w = .ok (.slice (some (if cap = 0 then ⟨r, o + off, none⟩ else ⟨r, o + off + 0 * ei.size, none⟩)) (hh - 0) (cap - 0)) w := by
      simp [Instr.sliceAt, run_underlying hu, Instr.slice, this, sizeOf, run_ti hi', add_mk]
    refine Sim.same h hr ?_
    have : VR g w (.msl b off hh ei.size) (.slice (some ⟨r, o + off, none⟩) hh cap) := .msl hφ hcap hq
    simpa using this
theorem sim_sllc {R : Regs} {ty elem : TypeId} {ei : TypeInfo} {b off len c l hh : Nat} {lo hi : Option X} {vlo vhi : Option Value} {vx : Value} (hu : P.underlying ty = some (.slice elem)) (hi' : P.info? elem = some ei)
    (h : SR w0 g H w) (hx : VR g w (.mslc b off len ei.size c) vx) (hvl : OV g w R lo vlo)
    (hvh : OV g w R hi vhi) (hl : bnd R 0 lo = some l) (hh' : bnd R len hi = some hh) (h1 : l ≤ hh) (h2 : hh ≤ c) :
    Sim P w0 g H w (Instr.sliceAt ty vx vlo vhi none) (if l < c ∨ l = 0 then .mslc b (off + l * ei.size) (hh - l) ei.size (c - l) else .sl .arg []) H := by
  cases hx with
  | @mslc _ _ _ _ r o q cap hφ hc hq =>
    have := bounds_ok (P := P) (w := w) (g := g) (isS := true) (cap := c) hvl hvh hl hh' (fun _ => rfl) h1 (by omega)
    have hr : (Instr.sliceAt ty (.slice (some ⟨r, o + off, none⟩) len c) vlo vhi none).run P w = .ok (.slice (some (if c = l then ⟨r, o + off, none⟩ else ⟨r, o + off + l * ei.size, none⟩)) (hh - l) (c - l)) w := by
      simp [Instr.sliceAt, run_underlying hu, Instr.slice, this, sizeOf, run_ti hi', add_mk]
      split <;> rfl
    refine Sim.same h hr ?_
    by_cases h3 : l < c ∨ l = 0
    case neg =>
      rw [if_neg h3]
      have e0 : hh - l = 0 := by omega
      have hsp : ∀ (a : Addr) (c : Nat), a.spot = none → VR g w (.sl .arg []) (.slice (some a) 0 c) := by
        intro a c ha
        obtain ⟨ab, ao, aq⟩ := a
        simp at ha; subst ha
        exact .sl (n := 0) (fun _ _ => .nilIface) trivial (by simp) (by simp) (by simp) (by simp)
      rw [e0]
      exact hsp _ _ (by split <;> rfl)
    rw [if_pos h3]
    have e : (if c = l then (⟨r, o + off, none⟩ : Addr) else ⟨r, o + off + l * ei.size, none⟩) = ⟨r, o + (off + l * ei.size), none⟩ := by
      split
      · have : l = 0 := by omega
        subst this; simp
      · simp [Nat.add_assoc]
    rw [e]
    refine .mslc hφ (by omega) ?_
    rw [← hq]
    have : l * ei.size + (c - l) * ei.size = c * ei.size := by rw [← Nat.add_mul]; congr 1; omega
    omega
end
end Go.Rmp
end

section
namespace Go.Rmp
section
variable {P : Program} {w0 w : World} {g : Ctx} {H : Heap}
def ktOk (P : Program) (ty : TypeId) : KT → Bool
  | .sc t => match P.underlying ty with | some d => scD t d | none => false
  | .st ks => match P.underlying ty with | some (.struct fs) => flat P fs.toList 0 ks && !P.stoodInHeld ty | _ => false
theorem check1 {e : Bool} {n : Nat} {ty : TypeId} {d : TypeDesc} {k : Ty1} {v : Value} (hu : P.underlying ty = some d) (hk : scD k d = true) : (Instr.checkKey e (n + 1) ty v).run P w = .ok () w := by
  rw [Instr.checkKey]; simp only [Sem.run_bind, run_underlying hu, Result.andThen_ok]
  cases k <;> cases d <;> simp [scD] at hk <;> cases v <;> rfl
theorem check_fields {e : Bool} {n : Nat} : ∀ (fs : List Field) (off : Nat) (ks : List Ty1) (cs : List T) (xs : Array Value), flat P fs off ks = true → cs.length = ks.length →
    (∀ (i : Nat) (t : T), cs[i]? = some t → ∃ v, xs[off + i]? = some v ∧ VR g w t v) →
    (forIn fs PUnit.unit (fun f _ => if f.name ≠ "_" then (do let x ← part f.type xs f.offset; Instr.checkKey e (n + 1) f.type x; pure (ForInStep.yield PUnit.unit))
      else pure (ForInStep.yield PUnit.unit)) : Sem PUnit).run P w = .ok PUnit.unit w
  | [], off, ks, cs, xs, hf, hl, hc => by simp
  | f :: fs, off, ks, cs, xs, hf, hl, hc => by
    cases ks with
    | nil => simp [flat] at hf
    | cons k ks =>
      cases cs with
      | nil => simp at hl
      | cons c cs =>
        simp only [flat, Bool.and_eq_true, beq_iff_eq, bne_iff_ne] at hf
        obtain ⟨⟨⟨hoff, hname⟩, hty⟩, hrest⟩ := hf
        cases hu : P.underlying f.type with
        | none => simp [hu] at hty
        | some de =>
          simp [hu] at hty
          obtain ⟨va, ha1, ha2⟩ := hc 0 c rfl
          simp only [Nat.add_zero] at ha1
          have ih := check_fields (e := e) (n := n) fs (off + 1) ks cs xs hrest (by simpa using hl) (fun i t hi => by have := hc (i + 1) t (by simpa using hi); rwa [show off + 1 + i = off + (i + 1) by omega])
          simp only [List.forIn_cons, Sem.run_bind, hname, ne_eq, not_false_eq_true, if_true, hoff, run_part1 hu hty ha1, Result.andThen_ok, check1 hu hty, Sem.run_pure]
          exact ih
theorem hasAll_len : ∀ (ks : List Ty1) (cs : List T), hasAll ks cs = true → cs.length = ks.length
  | [], [], _ => rfl
  | _ :: ks, _ :: cs, h => by simp [hasAll] at h; simp [hasAll_len ks cs h.2]
  | [], _ :: _, h => by simp [hasAll] at h
  | _ :: _, [], h => by simp [hasAll] at h
theorem checkKey_ok {e : Bool} {ty : TypeId} {kt : KT} {k : T} {vk : Value} (hkt : ktOk P ty kt = true) (hk : VR g w k vk) (h : k.hasK kt = true) : (Instr.checkKey e 10000 ty vk).run P w = .ok () w := by
  cases kt with
  | sc t =>
    simp only [ktOk] at hkt
    cases hu : P.underlying ty with
    | none => simp [hu] at hkt
    | some d => simp [hu] at hkt; exact check1 (n := 9999) hu hkt
  | st ks =>
    simp only [ktOk] at hkt
    cases hu : P.underlying ty with
    | none => simp [hu] at hkt
    | some d =>
      cases d <;> simp [hu] at hkt
      rename_i fs
      cases k <;> simp [T.hasK] at h
      rename_i cs
      obtain ⟨xs, rfl, hxs, _⟩ := hk.agg_inv
      show (Instr.checkKey e (9998 + 1 + 1) ty _).run P w = _
      rw [Instr.checkKey]; simp only [Sem.run_bind, run_underlying hu, Result.andThen_ok]
      rw [← Array.forIn_toList]
      rw [check_fields (g := g) (e := e) (n := 9998) fs.toList 0 ks cs xs.toArray hkt.1 (hasAll_len _ _ h) (fun i t hi => by simpa using hxs.get_arr i t hi)]
      rfl
theorem keyEq_ok {n : Nat} {ty : TypeId} {kt : KT} {a b : T} {va vb : Value} {r : Bool} (hkt : ktOk P ty kt = true) (ha : VR g w a va) (hb : VR g w b vb) (hk : a.hasK kt = true) (he : keyEq a b = some r) :
    (Op.equalIn (n + 1 + 1) ty va vb).run P w = .ok r w := by
  cases kt with
  | sc t =>
    simp only [ktOk] at hkt
    cases hu : P.underlying ty with
    | none => simp [hu] at hkt
    | some d =>
      simp [hu] at hkt
      have he' : eqSc a b = some r := by
        cases a <;> simp [T.hasK] at hk <;> (first | exact he | (cases t <;> simp [T.has1] at hk))
      exact eqSc_ok hu hkt ha hb hk he'
  | st ks =>
    simp only [ktOk] at hkt
    cases hu : P.underlying ty with
    | none => simp [hu] at hkt
    | some d =>
      cases d <;> simp [hu] at hkt
      rename_i fs
      cases a <;> simp [T.hasK] at hk
      rename_i cs
      cases b <;> simp [keyEq, eqSc] at he
      rename_i ds
      obtain ⟨xs, rfl, hxs, _⟩ := ha.agg_inv
      obtain ⟨ys, rfl, hys, _⟩ := hb.agg_inv
      exact equal_agg hu hkt.1 (by simpa using hkt.2) hk hxs hys he n
theorem sameNow_ok {t : Ty1} {d : TypeDesc} {a b : T} {va vb : Value} {r : Bool} (hd : scD t d = true) (ha : VR g w a va) (hb : VR g w b vb) (hk : a.has1 t = true) (he : keyEq a b = some r) : Instr.sameNow d va vb = some r := by
  cases t <;> cases d <;> simp [scD] at hd <;> cases ha <;> simp [T.has1] at hk <;> cases hb <;> simp [keyEq, eqSc] at he
  · obtain ⟨rfl, rfl⟩ := he; simp [Instr.sameNow]
  · subst he; simp [Instr.sameNow, strEq, beq_toListBytes]
  · subst he; simp [Instr.sameNow]
theorem find_ok {ty : TypeId} {kt : KT} {k : T} {vk : Value} (hkt : ktOk P ty kt = true) (hk : VR g w k vk) (h : k.hasK kt = true) (es : List (T × T)) (ents : List MapEntry) (hl : ents.length = es.length)
    (hh : ∀ (i : Nat) (e : T × T) (m : MapEntry), es[i]? = some e → ents[i]? = some m → VR g w e.1 m.key ∧ VR g w e.2 m.val) {r : Option Nat} (hr : mfind k es = some r) :
    (Instr.findKey ty vk ents).run P w = .ok (r.bind fun i => (ents[i]?).map fun m => (i, m.val)) w := by
  cases kt with
  | sc t =>
    simp only [ktOk] at hkt
    cases hu : P.underlying ty with
    | none => simp [hu] at hkt
    | some d =>
      simp [hu] at hkt
      have key : ∀ (es : List (T × T)) (ents : List MapEntry) (j : Nat) (r : Option Nat), ents.length = es.length → (∀ (i : Nat) (e : T × T) (m : MapEntry), es[i]? = some e → ents[i]? = some m → VR g w e.1 m.key ∧ VR g w e.2 m.val) →
          mfind k es = some r → Instr.findNow d vk ents j = some (r.bind fun i => (ents[i]?).map fun m => (j + i, m.val)) := by
        intro es
        induction es with
        | nil =>
          intro ents j r hl _ hr
          simp [mfind] at hr; subst hr
          cases ents with
          | nil => rfl
          | cons _ _ => simp at hl
        | cons e es ih =>
          intro ents j r hl hh hr
          cases ents with
          | nil => simp at hl
          | cons m ents =>
            have h0 := hh 0 e m rfl rfl
            simp only [mfind] at hr
            cases he : keyEq k e.1 with
            | none => simp [he] at hr
            | some b =>
              have hs := sameNow_ok hkt hk h0.1 h he
              cases b with
              | true => simp [he] at hr; subst hr; simp [Instr.findNow, hs]
              | false =>
                simp only [he, Option.map_eq_some_iff] at hr
                obtain ⟨r', h1, rfl⟩ := hr
                simp only [Instr.findNow, hs]
                rw [ih ents (j + 1) r' (by simpa using hl) (fun i e' m' a b => hh (i + 1) e' m' (by simpa using a) (by simpa using b)) h1]
                cases r' with
                | none => rfl
                | some i => simp; cases ents[i]? <;> simp; omega
      have := key es ents 0 r hl hh hr
      simp only [Instr.findKey, Sem.run_bind, run_underlying hu, Result.andThen_ok, this, Sem.run_pure]
      simp
  | st ks =>
    have hkt0 := hkt
    simp only [ktOk] at hkt
    cases hu : P.underlying ty with
    | none => simp [hu] at hkt
    | some d =>
      cases d <;> simp [hu] at hkt
      rename_i fs
      have key : ∀ (es : List (T × T)) (ents : List MapEntry) (j : Nat) (r : Option Nat), ents.length = es.length → (∀ (i : Nat) (e : T × T) (m : MapEntry), es[i]? = some e → ents[i]? = some m → VR g w e.1 m.key ∧ VR g w e.2 m.val) →
          mfind k es = some r → (Instr.findAsking ty vk ents j).run P w = .ok (r.bind fun i => (ents[i]?).map fun m => (j + i, m.val)) w := by
        intro es
        induction es with
        | nil =>
          intro ents j r hl _ hr
          simp [mfind] at hr; subst hr
          cases ents with
          | nil => rfl
          | cons _ _ => simp at hl
        | cons e es ih =>
          intro ents j r hl hh hr
          cases ents with
          | nil => simp at hl
          | cons m ents =>
            have h0 := hh 0 e m rfl rfl
            simp only [mfind] at hr
            cases he : keyEq k e.1 with
            | none => simp [he] at hr
            | some b =>
              have hs : (Op.equal ty vk m.key).run P w = .ok b w := keyEq_ok (n := 9998) hkt0 hk h0.1 h he
              cases b with
              | true => simp [he] at hr; subst hr; simp [Instr.findAsking, hs]
              | false =>
                simp only [he, Option.map_eq_some_iff] at hr
                obtain ⟨r', h1, rfl⟩ := hr
                simp only [Instr.findAsking, Sem.run_bind, hs, Result.andThen_ok, Bool.false_eq_true, if_false]
                rw [ih ents (j + 1) r' (by simpa using hl) (fun i e' m' a b => hh (i + 1) e' m' (by simpa using a) (by simpa using b)) h1]
                cases r' with
                | none => rfl
                | some i => simp; cases ents[i]? <;> simp; omega
      have hk' := key es ents 0 r hl hh hr
      cases ents with
      | nil =>
        simp only [Instr.findKey, Sem.run_bind, run_underlying hu, Result.andThen_ok, Instr.findNow, Sem.run_pure]
        exact hk'
      | cons m ents =>
        have : Instr.findNow (.struct fs) vk (m :: ents) 0 = none := by simp [Instr.findNow, Instr.sameNow]
        simp only [Instr.findKey, Sem.run_bind, run_underlying hu, Result.andThen_ok, this]
        simpa using hk'
def EntsAt (w : World) (vm : Value) (ents : Array MapEntry) : Prop := (vm = .map none ∧ ents = #[]) ∨ ∃ r c, vm = .map (some r) ∧ w.heap[r]? = some (.map ents c)
theorem entsAt_ok {m : T} {vm : Value} {es : List (T × T)} (h : SR w0 g H w) (hm : VR g w m vm) (hes : mapEs H m = some es) : ∃ ents, EntsAt w vm ents ∧ EntsOk g w es ents := by
  cases hm <;> simp [mapEs] at hes
  · subst hes; exact ⟨#[], .inl ⟨rfl, rfl⟩, ⟨rfl, by simp⟩⟩
  · rename_i b r' o q hφ
    cases hb : H[b]? with
    | none => simp [hb] at hes
    | some y =>
      cases y <;> simp [hb] at hes
      · subst hes
        obtain ⟨_, ents, c, h2, h3, _⟩ := h.blk b _ hb r' o q hφ
        exact ⟨ents, .inr ⟨r', c, rfl, h2⟩, h3⟩
      · subst hes
        obtain ⟨r2, o', q', hφ', _, ents, c, h2, h3, _⟩ := h.blk b _ hb
        rw [hφ] at hφ'; cases hφ'
        exact ⟨ents, .inr ⟨r', c, rfl, h2⟩, h3⟩
theorem run_lookup {ty key elem : TypeId} {ei : TypeInfo} {zv vm vk : Value} {ok : Bool} {ents : Array MapEntry} {r : Option (Nat × Value)} (hu : P.underlying ty = some (.map key elem)) (hi : P.info? elem = some ei) (hz : ei.zero = some zv)
    (he : EntsAt w vm ents) (hc : (Instr.checkKey ents.isEmpty 10000 key vk).run P w = .ok () w) (hf : (Instr.findKey key vk ents.toList).run P w = .ok r w) :
    (Instr.lookup ty vm vk ok).run P w = .ok (match r with | some (_, v) => if ok then .tuple #[v, .bool true] else v | none => if ok then .tuple #[zv, .bool false] else zv) w := by
  rcases he with ⟨rfl, rfl⟩ | ⟨rr, c, rfl, h2⟩
  · have hf' : (Instr.findKey key vk []).run P w = .ok r w := hf
    have hc' : (Instr.checkKey true 10000 key vk).run P w = .ok () w := hc
    simp only [Instr.lookup, Sem.run_bind, run_underlying hu, Result.andThen_ok]
    cases r with
    | none => simp [hc', hf', zeroValue, run_ti hi, hz]
    | some x => obtain ⟨i, v⟩ := x; simp [hc', hf']
  · simp only [Instr.lookup, Sem.run_bind, run_underlying hu, Result.andThen_ok]
    cases r with
    | none => simp [getObj, Sem.run, h2, hc, hf, zeroValue, run_ti hi, hz]
    | some x => obtain ⟨i, v⟩ := x; simp [getObj, Sem.run, h2, hc, hf]
theorem sim_lkp {ty key elem : TypeId} {ei : TypeInfo} {zv : Value} {kt : KT} {z m k t : T} {ok : Bool} {vm vk : Value} {es : List (T × T)} {r : Option Nat} (hu : P.underlying ty = some (.map key elem)) (hi : P.info? elem = some ei) (hz : ei.zero = some zv) (hz' : constT zv = some z)
    (hkt : ktOk P key kt = true) (h : SR w0 g H w) (hm : VR g w m vm) (hk : VR g w k vk) (hhk : k.hasK kt = true)
    (hes : mapEs H m = some es) (hr : mfind k es = some r)
    (ht : (match r with | some i => (es[i]?).map fun e => if ok then T.tup [e.2, .bool true] else e.2 | none => some (if ok then .tup [z, .bool false] else z)) = some t) : Sim P w0 g H w (Instr.lookup ty vm vk ok) t H := by
  obtain ⟨ents, hat, hE⟩ := entsAt_ok h hm hes
  have hf := find_ok hkt hk hhk es ents.toList (by simpa using hE.1) (fun i e m a b => hE.2 i e m a (by simpa using b)) hr
  have hc := checkKey_ok (e := ents.isEmpty) hkt hk hhk
  have zvr : VR g w z zv := constT_ok hz'
  cases r with
  | none =>
    simp only [Option.some.injEq] at ht
    subst ht
    refine Sim.same h (run_lookup hu hi hz hat hc hf) ?_
    cases ok
    · exact zvr
    · exact VRs.tup (VRs.cons zvr (VRs.cons (.bool _) VRs.nil))
  | some i =>
    cases he : es[i]? with
    | none => simp [he] at ht
    | some e =>
      have hlt : i < ents.size := by rw [hE.1]; exact (List.getElem?_eq_some_iff.1 he).1
      have hm' : ents[i]? = some ents[i] := Array.getElem?_eq_getElem hlt
      have hv := (hE.2 i e _ he hm').2
      simp only [he, Option.map_some, Option.some.injEq] at ht
      subst ht
      have hx : ((some i : Option Nat).bind fun i => (ents.toList[i]?).map fun m => (i, m.val)) = some (i, ents[i].val) := by simp [hlt]
      rw [hx] at hf
      refine Sim.same h (run_lookup hu hi hz hat hc hf) ?_
      cases ok
      · exact hv
      · exact VRs.tup (VRs.cons hv (VRs.cons (.bool _) VRs.nil))
theorem sim_ext {vs : List T} {i : Nat} {t : T} {vx : Value} (h : SR w0 g H w) (hx : VR g w (.tup vs) vx) (he : vs[i]? = some t) : Sim P w0 g H w (Instr.extract vx i) t H := by
  obtain ⟨xs, rfl, hxs⟩ := hx.tup_inv
  obtain ⟨v, h1, h2⟩ := hxs.get_arr i t he
  exact Sim.same h (by simp at h1; simp [Instr.extract, h1]) h2
theorem sim_mn {rt : TypeId} {tys : Array TypeId} {k k' : IntKind} {a b : Int} {vx vy : Value} (h : SR w0 g H w) (hx : VR g w (.int k a) vx) (hy : VR g w (.int k' b) vy) : Sim P w0 g H w (Builtin.min_ tys rt #[vx, vy]) (.int k (if b < a then b else a)) H := by
  cases hx; cases hy
  exact Sim.same h (by simp [Builtin.min_, Builtin.min2]) (.int _ _)
theorem sim_mx {rt : TypeId} {tys : Array TypeId} {k k' : IntKind} {a b : Int} {vx vy : Value} (h : SR w0 g H w) (hx : VR g w (.int k a) vx) (hy : VR g w (.int k' b) vy) : Sim P w0 g H w (Builtin.max_ tys rt #[vx, vy]) (.int k (if b > a then b else a)) H := by
  cases hx; cases hy
  exact Sim.same h (by simp [Builtin.max_, Builtin.max2]) (.int _ _)
end
end Go.Rmp
end

section
namespace Go.Rmp
section
variable {P : Program} {w0 w : World} {g : Ctx} {H : Heap}
def none2 : Nat → Nat → Prop := fun _ _ => False
def none1 : Nat → Prop := fun _ => False
theorem Tr.drew (w : World) : Tr w w.drew none2 none1 := ⟨⟨Nat.le_refl _, fun _ _ _ _ => rfl, fun _ _ _ h => h, fun _ _ _ _ h => h, fun _ _ _ _ => rfl, rfl, rfl⟩, fun _ _ _ => rfl⟩
theorem Tr.refl (w : World) : Tr w w none2 none1 := ⟨⟨Nat.le_refl _, fun _ _ _ _ => rfl, fun _ _ _ h => h, fun _ _ _ _ h => h, fun _ _ _ _ => rfl, rfl, rfl⟩, fun _ _ _ => rfl⟩
theorem Tr.alloc (w : World) (o : Obj) : Tr w (w.alloc o) none2 none1 where
  size := by simp
  cell r j hr _ := World.cell?_alloc_lt w o ⟨r, j, none⟩ hr
  frz r j hr := World.frozen?_alloc_old w o ⟨r, j, none⟩ (Nat.ne_of_lt hr)
  keep r j hr h := by rw [World.cell?_alloc_lt w o ⟨r, j, none⟩ hr]; exact h
  maps r x _ _ h := by
    have hr : r < w.heap.size := (Array.getElem?_eq_some_iff.1 h).1
    simp only [World.alloc, Array.getElem?_push]; rw [if_neg (by omega)]; exact h
  old r hr _ _ := by simp only [World.alloc, Array.getElem?_push]; rw [if_neg (by omega)]
  env := ⟨rfl, rfl⟩
theorem Tr.trans {w w' w'' : World} {S : Nat → Nat → Prop} {M : Nat → Prop} (h : Tr w w' S M) (h' : Tr w' w'' S M) : Tr w w'' S M where
  size := Nat.le_trans h.size h'.size
  cell r j hr hs := (h'.cell r j (Nat.lt_of_lt_of_le hr h.size) hs).trans (h.cell r j hr hs)
  frz r j hr := (h'.frz r j (Nat.lt_of_lt_of_le hr h.size)).trans (h.frz r j hr)
  keep r j hr hs := h'.keep r j (Nat.lt_of_lt_of_le hr h.size) (h.keep r j hr hs)
  maps r x hm hs h1 := h'.maps r x hm hs (h.maps r x hm hs h1)
  old r hr hm hs := (h'.old r (Nat.lt_of_lt_of_le hr h.size) hm hs).trans (h.old r hr hm hs)
  env := ⟨h'.env.1.trans h.env.1, h'.env.2.trans h.env.2⟩
theorem cell_setCells (r : Nat) : ∀ (vs : List Value) (o : Nat) (w : World) (r' j : Nat), ¬ (r' = r ∧ o ≤ j ∧ j < o + vs.length) → (w.setCells r o vs).cell? ⟨r', j, none⟩ = w.cell? ⟨r', j, none⟩
  | [], _, _, _, _, _ => rfl
  | v :: vs, o, w, r', j, h => by
    rw [World.setCells, cell_setCells r vs (o + 1) _ r' j (by simp at h ⊢; omega), World.cell?_setCell_other]
    intro e
    simp at e
    exact h ⟨e.1.symm, by omega, by simp; omega⟩
theorem cell_setCells_in (r : Nat) : ∀ (vs : List Value) (o : Nat) (w : World), (∀ j, o ≤ j → j < o + vs.length → (w.cell? ⟨r, j, none⟩).isSome = true) → ∀ (i : Nat) (v : Value), vs[i]? = some v → (w.setCells r o vs).cell? ⟨r, o + i, none⟩ = some v
  | [], _, _, _, i, v, h => by simp at h
  | u :: vs, o, w, hs, i, v, h => by
    rw [World.setCells]
    cases i with
    | zero =>
      simp at h; subst h
      rw [cell_setCells r vs (o + 1) _ r _ (by omega)]
      obtain ⟨x, hx⟩ := Option.isSome_iff_exists.1 (hs o (Nat.le_refl _) (by simp))
      exact World.cell?_setCell_same w ⟨r, o, none⟩ u hx
    | succ i =>
      have := cell_setCells_in r vs (o + 1) (w.setCell ⟨r, o, none⟩ u) (fun j h1 h2 => by
        rw [World.cell?_setCell_other _ _ _ _ (by simp; omega)]
        exact hs j (by omega) (by simp; omega)) i v (by simpa using h)
      rwa [show o + (i + 1) = o + 1 + i by omega]
theorem size_setCells (r : Nat) : ∀ (vs : List Value) (o : Nat) (w : World), (w.setCells r o vs).heap.size = w.heap.size
  | [], _, _ => rfl
  | v :: vs, o, w => by rw [World.setCells, size_setCells r vs, World.size_setCell]
theorem heap_setCells (r : Nat) : ∀ (vs : List Value) (o : Nat) (w : World) (r' : Nat), r' ≠ r → (w.setCells r o vs).heap[r']? = w.heap[r']?
  | [], _, _, _, _ => rfl
  | v :: vs, o, w, r', h => by
    rw [World.setCells, heap_setCells r vs _ _ r' h]
    simp only [World.setCell, Array.getElem?_modify]; rw [if_neg (fun e => h e.symm)]
theorem map_setCells (r : Nat) : ∀ (vs : List Value) (o : Nat) (w : World) (r' : Nat) (x : Obj), solid x = true → w.heap[r']? = some x → (w.setCells r o vs).heap[r']? = some x
  | [], _, _, _, _, _, h => h
  | v :: vs, o, w, r', x, hs, h => by
    rw [World.setCells]
    refine map_setCells r vs _ _ r' x hs ?_
    simp only [World.setCell, Array.getElem?_modify]
    split
    · rename_i e; rw [h]; cases x <;> simp [solid] at hs <;> rfl
    · exact h
theorem env_setCells (r : Nat) : ∀ (vs : List Value) (o : Nat) (w : World), (w.setCells r o vs).os = w.os ∧ (w.setCells r o vs).output = w.output
  | [], _, _ => ⟨rfl, rfl⟩
  | v :: vs, o, w => by rw [World.setCells]; exact env_setCells r vs _ _
def inRow (r o n : Nat) : Nat → Nat → Prop := fun r' j => r' = r ∧ o ≤ j ∧ j < o + n
theorem Tr.setCells (w : World) (r o : Nat) (vs : List Value) (hs : ∀ j, o ≤ j → j < o + vs.length → (w.cell? ⟨r, j, none⟩).isSome = true) : Tr w (w.setCells r o vs) (inRow r o vs.length) none1 where
  size := by rw [size_setCells]; exact Nat.le_refl _
  cell r' j _ h := cell_setCells r vs o w r' j h
  frz r' j _ := World.frozen?_setCells r vs o w _
  keep r' j _ h := by
    by_cases e : r' = r ∧ o ≤ j ∧ j < o + vs.length
    · obtain ⟨rfl, e1, e2⟩ := e
      have hi : j - o < vs.length := by omega
      have := cell_setCells_in r' vs o w hs (j - o) _ (List.getElem?_eq_getElem hi)
      rw [show o + (j - o) = j by omega] at this
      rw [this]; rfl
    · rw [cell_setCells r vs o w r' j e]; exact h
  maps r' x _ hs h := map_setCells r vs o w r' x hs h
  old r' _ _ h := by
    by_cases e : r' = r
    · cases vs with
      | nil => rfl
      | cons v vs => exact absurd ⟨e, Nat.le_refl _, by simp⟩ (h o)
    · exact heap_setCells r vs o w r' e
  env := env_setCells r vs o w
def Ctx.row (g : Ctx) (r : Nat) (f : Nat → Ow) : Ctx := { g with κ := fun r' j => if r' = r then f j else g.κ r' j }
def Ctx.at (g : Ctx) (b : Nat) (x : Nat × Nat × Nat) : Ctx := { g with φ := fun b' => if b' = b then some x else g.φ b' }
def Ctx.tok (g : Ctx) (t e : Nat) (x : Nat × Nat × Nat) : Ctx := { g with π := fun t' e' => if t' = t ∧ e' = e then some x else g.π t' e' }
theorem Le.of_tr {w' : World} {g' : Ctx} {S : Nat → Nat → Prop} {M : Nat → Prop} (tr : Tr w w' S M) (hφ : ∀ b x, g.φ b = some x → g'.φ b = some x) (hκ : ∀ r o, g.κ r o = .imm → g'.κ r o = .imm) (hπ : ∀ t e x, g.π t e = some x → g'.π t e = some x)
    (hS : ∀ r j, S r j → g.κ r j ≠ .imm) (hck : g'.ck = g.ck := by rfl) : Le g w g' w' :=
  ⟨hφ, hκ, hπ, fun r o v hk hc => by rw [tr.cell r o (cell_lt hc) (fun hs => hS r o hs hk)]; exact hc, hck⟩
theorem SR.immM {c : Array Value} {ty : TypeId} {fr : Nat × Nat} {w1 : World} (h : SR w0 g H w) (tr : Tr w w1 none2 none1) (hz : w1.heap.size = w.heap.size) :
    Le g w (g.row w.heap.size fun _ => .imm) (w1.alloc (.cells c ty fr)) ∧ SR w0 (g.row w.heap.size fun _ => .imm) H (w1.alloc (.cells c ty fr)) ∧ Fr g H (g.row w.heap.size fun _ => .imm) H ∧
    ∀ (j : Nat) (v : Value), c[j]? = some v → Imm (g.row w.heap.size fun _ => .imm) (w1.alloc (.cells c ty fr)) w.heap.size j v := by
  have tr' := tr.trans (Tr.alloc w1 (.cells c ty fr))
  have le : Le g w (g.row w.heap.size fun _ => .imm) (w1.alloc (.cells c ty fr)) := Le.of_tr tr' (fun _ _ h => h) (fun r o hk => by simp only [Ctx.row]; split; rfl; exact hk) (fun _ _ _ h => h) (fun _ _ hs => hs.elim)
  refine ⟨le, ?_, ⟨Nat.le_refl _, fun _ _ a _ b => ⟨a, b⟩⟩, fun j v hj => ⟨by simp [Ctx.row], ?_⟩⟩
  · refine h.step (fun _ => False) tr' le (fun _ _ hs => hs.elim) (fun _ hm => hm.elim) (fun r o hr => ?_) h.dom h.domt (fun _ _ _ => rfl) (fun r j b _ => ?_) (fun _ _ _ _ => rfl) (fun b x hx => .inl ⟨fun hf => hf, hx⟩)
    · simp at hr
      simp only [Ctx.row]; rw [if_neg (by omega)]; exact h.fresh r o (by omega)
    · have hne : ∀ ow, g.κ r j = ow → ow ≠ .free → r ≠ w.heap.size := by rintro ow e hn rfl; exact hn (e ▸ h.fresh _ j (Nat.le_refl _))
      constructor <;> intro e <;> simp only [Ctx.row] <;> rw [if_neg (hne _ e (by simp))] <;> exact e
  · rw [← hz]
    have : (w1.alloc (.cells c ty fr)).heap[w1.heap.size]? = some (.cells c ty fr) := by
      show (w1.heap.push (.cells c ty fr))[w1.heap.size]? = _
      simp
    unfold World.cell?
    rw [this]
    exact hj
theorem SR.imm {c : Array Value} {ty : TypeId} {w1 : World} (h : SR w0 g H w) (tr : Tr w w1 none2 none1) (hz : w1.heap.size = w.heap.size) :
    Le g w (g.row w.heap.size fun _ => .imm) (w1.alloc (.cells c ty)) ∧ SR w0 (g.row w.heap.size fun _ => .imm) H (w1.alloc (.cells c ty)) ∧ Fr g H (g.row w.heap.size fun _ => .imm) H ∧
    ∀ (j : Nat) (v : Value), c[j]? = some v → Imm (g.row w.heap.size fun _ => .imm) (w1.alloc (.cells c ty)) w.heap.size j v := h.immM tr hz
theorem SR.mut {c : Array Value} {ty : TypeId} {w1 : World} {H' : Heap} {b : Nat} {cs : List T} (h : SR w0 g H w) (tr : Tr w w1 none2 none1) (hz : w1.heap.size = w.heap.size)
    (hb : H'[b]? = some (.cells cs)) (hn : g.φ b = none) (hH : ∀ b' x, b' ≠ b → H'[b']? = some x → H[b']? = some x ∨ x = .dead) (hl : H.length ≤ H'.length) (hfr : ∀ b' x, H[b']? = some x → (∀ e, x ≠ .tok e) → g.φ b' = none → b' ≠ b → H'[b']? = some x)
    (hc : ∀ (i : Nat) (t : T), cs[i]? = some t → t.one = true ∧ ∃ v, c[i]? = some v ∧ VR g w t v) :
    Le g w ((g.row w.heap.size fun _ => .mut b).at b (w.heap.size, 0, c.size)) (w1.alloc (.cells c ty)) ∧ SR w0 ((g.row w.heap.size fun _ => .mut b).at b (w.heap.size, 0, c.size)) H' (w1.alloc (.cells c ty)) ∧
    (∀ b' x, H[b']? = some x → (∀ e, x ≠ .tok e) → g.φ b' = none → b' ≠ b → H'[b']? = some x ∧ ((g.row w.heap.size fun _ => .mut b).at b (w.heap.size, 0, c.size)).φ b' = none) := by
  have tr' := tr.trans (Tr.alloc w1 (.cells c ty))
  have hne : ∀ r j ow, g.κ r j = ow → ow ≠ .free → r ≠ w.heap.size := by rintro r j ow e hn rfl; exact hn (e ▸ h.fresh _ j (Nat.le_refl _))
  have le : Le g w ((g.row w.heap.size fun _ => .mut b).at b (w.heap.size, 0, c.size)) (w1.alloc (.cells c ty)) := Le.of_tr tr'
    (fun b' x hx => by simp only [Ctx.at, Ctx.row]; split; rename_i e; subst e; rw [hn] at hx; simp at hx; exact hx)
    (fun r o hk => by simp only [Ctx.row, Ctx.at]; rw [if_neg (hne r o _ hk (by simp))]; exact hk) (fun _ _ _ h => h) (fun _ _ hs => hs.elim)
  refine ⟨le, ?_, fun b' x a a' d e => ⟨hfr b' x a a' d e, by simp only [Ctx.at, Ctx.row]; rw [if_neg e]; exact d⟩⟩
  refine h.step (fun b' => b' = b) tr' le (fun _ _ hs => hs.elim) (fun _ hm => hm.elim) (fun r o hr => ?_) (fun b' x hx => ?_) (fun t e x hx => Nat.lt_of_lt_of_le (h.domt t e x hx) hl) (fun b' _ hb' => ?_) (fun r j b' hb' => ?_) (fun _ _ _ _ => rfl) (fun b' x hx => ?_)
  · simp at hr
    simp only [Ctx.row, Ctx.at]; rw [if_neg (by omega)]; exact h.fresh r o (by omega)
  · simp only [Ctx.at, Ctx.row] at hx
    split at hx
    · rename_i e; subst e; exact (List.getElem?_eq_some_iff.1 hb).1
    · exact Nat.lt_of_lt_of_le (h.dom b' x hx) hl
  · simp only [Ctx.at, Ctx.row]; rw [if_neg hb']
  · constructor <;> intro e <;> simp only [Ctx.row, Ctx.at] <;> rw [if_neg (hne r j _ e (by simp))] <;> exact e
  · by_cases e : b' = b
    · subst e
      right
      rw [hb] at hx; cases hx
      intro r o q hq
      simp only [Ctx.at, if_true, Option.some.injEq, Prod.mk.injEq] at hq
      obtain ⟨rfl, rfl, rfl⟩ := hq
      have hcs : ∀ i, i < cs.length → i < c.size := fun i hi => by
        obtain ⟨_, v, hv, _⟩ := hc i _ (List.getElem?_eq_getElem hi)
        exact (Array.getElem?_eq_some_iff.1 hv).1
      refine ⟨?_, fun j _ hj => ⟨by simp [Ctx.row, Ctx.at], fun j0 => by rw [← hz]; simp, by rw [← hz, World.cell?_alloc_new, Array.getElem?_eq_getElem hj]; rfl⟩, fun i t hi => ?_⟩
      · cases hcl : cs.length with
        | zero => omega
        | succ n => have := hcs n (by omega); omega
      · obtain ⟨h1, v, h2, h3⟩ := hc i t hi
        exact ⟨h1, v, by rw [← hz, World.cell?_alloc_new, Nat.zero_add]; exact h2, h3.mono le⟩
    · rcases hH b' x e hx with hx' | rfl
      · exact .inl ⟨e, hx'⟩
      · right; trivial
theorem get_tail (H : Heap) (x : B) : (H ++ [x])[H.length]? = some x := by simp
theorem get_tail_ne {H : Heap} {x y : B} {b : Nat} (hb : b ≠ H.length) (h : (H ++ [x])[b]? = some y) : H[b]? = some y := by
  rw [List.getElem?_append] at h
  split at h
  · exact h
  · rename_i hlt
    have : b - H.length ≠ 0 := by omega
    cases hk : b - H.length with
    | zero => omega
    | succ n => simp [hk] at h
theorem get_old {H : Heap} {x y : B} {b : Nat} (h : H[b]? = some y) : (H ++ [x])[b]? = some y := by
  rw [List.getElem?_append_left (List.getElem?_eq_some_iff.1 h).1]; exact h
theorem SR.noφ (h : SR w0 g H w) {b : Nat} (hb : H.length ≤ b) : g.φ b = none := by
  cases e : g.φ b with
  | none => rfl
  | some x => have := h.dom b x e; omega
theorem SR.noπ (h : SR w0 g H w) {t e : Nat} (hb : H.length ≤ t) : g.π t e = none := by
  cases e' : g.π t e with
  | none => rfl
  | some x => have := h.domt t e x e'; omega
theorem SR.fresh_mut {c : Array Value} {ty : TypeId} {w1 : World} {cs : List T} (h : SR w0 g H w) (tr : Tr w w1 none2 none1) (hz : w1.heap.size = w.heap.size)
    (hc : ∀ (i : Nat) (t : T), cs[i]? = some t → t.one = true ∧ ∃ v, c[i]? = some v ∧ VR g w t v) :
    ∃ g', Le g w g' (w1.alloc (.cells c ty)) ∧ SR w0 g' (H ++ [.cells cs]) (w1.alloc (.cells c ty)) ∧ Fr g H g' (H ++ [.cells cs]) ∧ g'.φ H.length = some (w.heap.size, 0, c.size) := by
  obtain ⟨le, sr, fr⟩ := h.mut (H' := H ++ [.cells cs]) (b := H.length) (ty := ty) tr hz (get_tail _ _) (h.noφ (Nat.le_refl _)) (fun b' x e hx => .inl (get_tail_ne e hx)) (by simp) (fun b' x hx _ _ _ => get_old hx) hc
  exact ⟨_, le, sr, ⟨by simp, fun b x a a' d => fr b x a a' d (by have := (List.getElem?_eq_some_iff.1 a).1; omega)⟩, by simp [Ctx.at]⟩
theorem VRs.getC {cs : List T} {vs : List Value} (h : VRs g w cs vs) (ho : ones cs) : ∀ (i : Nat) (t : T), cs[i]? = some t → t.one = true ∧ ∃ v, vs.toArray[i]? = some v ∧ VR g w t v :=
  fun i t hi => ⟨ho t (List.mem_of_getElem? hi), h.get_arr i t hi⟩
theorem sim_alloc {ty : TypeId} {i : TypeInfo} {zv : Value} {z : List T} (hi : P.info? ty = some i) (hz : i.zero = some zv) (hc : constL zv.cells.toList = some z) (h : SR w0 g H w) :
    Sim P w0 g H w (Instr.alloc ty true (.tuple #[])) (.ptr H.length 0) (H ++ [.cells z]) := by
  obtain ⟨hv, ho⟩ := constL_ok (g := g) (w := w) _ _ hc
  obtain ⟨g', le, sr, fr, hφ⟩ := h.fresh_mut (c := zv.cells) (ty := ty) (w1 := w) (Tr.refl w) rfl (by simpa using hv.getC ho)
  refine ⟨.pointer (some ⟨w.heap.size, 0, none⟩), _, g', ?_, le, sr, .ptr hφ, fr⟩
  simp [Instr.alloc, zeroValue, run_ti hi, hz, newVar, newRow]
theorem sim_box {ty : TypeId} {x : T} {cs : List T} {vx : Value} (h : SR w0 g H w) (hx : VR g w x vx) (hc : x.cells? = some cs) :
    Sim P w0 g H w (Instr.box ty vx) (.ptr H.length 0) (H ++ [.cells cs]) := by
  obtain ⟨hv, ho⟩ := cells?_ok hx hc
  obtain ⟨g', le, sr, fr, hφ⟩ := h.fresh_mut (c := vx.cells) (ty := ty) (w1 := w) (Tr.refl w) rfl (by simpa using hv.getC ho)
  refine ⟨.pointer (some ⟨w.heap.size, 0, none⟩), _, g', ?_, le, sr, .ptr hφ, fr⟩
  simp [Instr.box, newVar, newRow]
theorem SR.newmap {b : Nat} {H' : Heap} (h : SR w0 g H w) (hb : H'[b]? = some (.map [])) (hn : g.φ b = none) (hH : ∀ b' x, b' ≠ b → H'[b']? = some x → H[b']? = some x) (hl : H.length ≤ H'.length) :
    Le g w ((g.row w.heap.size fun _ => .mut b).at b (w.heap.size, 0, 0)) (w.alloc (.map #[] 0)) ∧ SR w0 ((g.row w.heap.size fun _ => .mut b).at b (w.heap.size, 0, 0)) H' (w.alloc (.map #[] 0)) := by
  have tr' := Tr.alloc w (.map #[] 0)
  have hne : ∀ r j ow, g.κ r j = ow → ow ≠ .free → r ≠ w.heap.size := by rintro r j ow e hn rfl; exact hn (e ▸ h.fresh _ j (Nat.le_refl _))
  have le : Le g w ((g.row w.heap.size fun _ => .mut b).at b (w.heap.size, 0, 0)) (w.alloc (.map #[] 0)) := Le.of_tr tr'
    (fun b' x hx => by simp only [Ctx.at, Ctx.row]; split; rename_i e; subst e; rw [hn] at hx; simp at hx; exact hx)
    (fun r o hk => by simp only [Ctx.row, Ctx.at]; rw [if_neg (hne r o _ hk (by simp))]; exact hk) (fun _ _ _ h => h) (fun _ _ hs => hs.elim)
  refine ⟨le, ?_⟩
  refine h.step (fun b' => b' = b) tr' le (fun _ _ hs => hs.elim) (fun _ hm => hm.elim) (fun r o hr => ?_) (fun b' x hx => ?_) (fun t e x hx => Nat.lt_of_lt_of_le (h.domt t e x hx) hl) (fun b' _ hb' => ?_) (fun r j b' hb' => ?_) (fun _ _ _ _ => rfl) (fun b' x hx => ?_)
  · simp at hr
    simp only [Ctx.row, Ctx.at]; rw [if_neg (by omega)]; exact h.fresh r o (by omega)
  · simp only [Ctx.at, Ctx.row] at hx
    split at hx
    · rename_i e; subst e; exact (List.getElem?_eq_some_iff.1 hb).1
    · exact Nat.lt_of_lt_of_le (h.dom b' x hx) hl
  · simp only [Ctx.at, Ctx.row]; rw [if_neg hb']
  · constructor <;> intro e <;> simp only [Ctx.row, Ctx.at] <;> rw [if_neg (hne r j _ e (by simp))] <;> exact e
  · by_cases e : b' = b
    · subst e
      right
      rw [hb] at hx; cases hx
      intro r o q hq
      simp only [Ctx.at, if_true, Option.some.injEq, Prod.mk.injEq] at hq
      obtain ⟨rfl, rfl, rfl⟩ := hq
      exact ⟨by simp [Ctx.row, Ctx.at], #[], 0, by show (w.heap.push _)[w.heap.size]? = _; simp, ⟨rfl, by simp⟩, by simp [BornOk]⟩
    · exact .inl ⟨e, hH b' x e hx⟩
theorem sim_mkm {ty : TypeId} (h : SR w0 g H w) : Sim P w0 g H w (Instr.makeMap ty none) (.map H.length) (H ++ [.map []]) := by
  obtain ⟨le, sr⟩ := h.newmap (H' := H ++ [.map []]) (b := H.length) (get_tail _ _) (h.noφ (Nat.le_refl _)) (fun b' x e hx => get_tail_ne e hx) (by simp)
  refine ⟨.map (some w.heap.size), _, _, ?_, le, sr, .map (r := w.heap.size) (o := 0) (q := 0) (by simp [Ctx.at]), by simp, fun b x a _ d => ⟨get_old a, ?_⟩⟩
  · simp [Instr.makeMap]
  · have := (List.getElem?_eq_some_iff.1 a).1
    simp only [Ctx.at, Ctx.row]; rw [if_neg (by omega)]; exact d
end
end Go.Rmp
end

section
namespace Go.Rmp
section
variable {P : Program} {w0 w : World} {g : Ctx} {H : Heap}
theorem set_get {H : Heap} {b b' : Nat} {x y : B} (hlt : b < H.length) (h : (H.set b x)[b']? = some y) : (b' = b ∧ y = x) ∨ (b' ≠ b ∧ H[b']? = some y) := by
  rw [List.getElem?_set] at h
  split at h
  · rename_i e; subst e; simp [hlt] at h; exact .inl ⟨rfl, h.symm⟩
  · rename_i e; exact .inr ⟨fun e' => e e'.symm, h⟩
theorem set_ne {H : Heap} {b b' : Nat} {x y : B} (h : H[b']? = some y) (hne : b' ≠ b) : (H.set b x)[b']? = some y := by
  rw [List.getElem?_set, if_neg (fun e => hne e.symm)]; exact h
theorem SR.store {b off r o q : Nat} {cs ts : List T} {vs : List Value} (h : SR w0 g H w) (hb : H[b]? = some (.cells cs)) (hφ : g.φ b = some (r, o, q)) (hle : off + ts.length ≤ cs.length) (hv : VRs g w ts vs) (ho : ones ts) :
    Le g w g (w.setCells r (o + off) vs) ∧ SR w0 g (H.set b (.cells (cs.take off ++ ts ++ cs.drop (off + ts.length)))) (w.setCells r (o + off) vs) := by
  have hbl : b < H.length := (List.getElem?_eq_some_iff.1 hb).1
  obtain ⟨h1, h2, h3⟩ := h.blk b _ hb r o q hφ
  have hl := hv.1
  have hs : ∀ j, o + off ≤ j → j < o + off + vs.length → (w.cell? ⟨r, j, none⟩).isSome = true := fun j a c => (h2 j (by omega) (by omega)).2.2
  have tr := Tr.setCells w r (o + off) vs hs
  have hS : ∀ r' j, inRow r (o + off) vs.length r' j → g.κ r' j = .mut b := by
    rintro r' j ⟨rfl, a, c⟩; exact (h2 j (by omega) (by omega)).1
  have le : Le g w g (w.setCells r (o + off) vs) := Le.of_tr tr (fun _ _ h => h) (fun _ _ h => h) (fun _ _ _ h => h) (fun r' j hs' e => by rw [hS r' j hs'] at e; cases e)
  refine ⟨le, h.step (fun b' => b' = b) tr le (fun r' j hs' => .inr (.inl ⟨b, hS r' j hs', rfl⟩)) (fun _ hm => hm.elim) (fun r' j hr => h.fresh r' j (by rwa [size_setCells] at hr)) (fun b' x hx => by rw [List.length_set]; exact h.dom b' x hx)
    (fun t e x hx => by rw [List.length_set]; exact h.domt t e x hx) (fun _ _ _ => rfl) (fun _ _ _ _ => ⟨id, id⟩) (fun _ _ _ _ => rfl) (fun b' x hx => ?_)⟩
  rcases set_get hbl hx with ⟨rfl, rfl⟩ | ⟨hne, hx'⟩
  · right
    intro r' o' q' hφ'
    rw [hφ] at hφ'; cases hφ'
    have hlen : (cs.take off ++ ts ++ cs.drop (off + ts.length)).length = cs.length := by simp; omega
    refine ⟨by rw [hlen]; exact h1, fun j a c => ⟨(h2 j a c).1, fun j0 => by rw [World.frozen?_setCells]; exact (h2 j a c).2.1 j0, tr.keep r j ?_ (h2 j a c).2.2⟩, fun i t hi => ?_⟩
    · obtain ⟨x, hx⟩ := Option.isSome_iff_exists.1 (h2 j a c).2.2; exact cell_lt hx
    · have hi' : i < cs.length := by rw [← hlen]; exact (List.getElem?_eq_some_iff.1 hi).1
      by_cases hin : off ≤ i ∧ i < off + ts.length
      · have ht : ts[i - off]? = some t := by
          rw [List.append_assoc, List.getElem?_append_right (by simp; omega), List.getElem?_append_left (by simp; omega)] at hi
          rw [← hi]; congr 1; simp; omega
        have hlt : i - off < vs.length := by omega
        refine ⟨ho t (List.mem_of_getElem? ht), vs[i - off], ?_, (hv.2 _ t _ ht (List.getElem?_eq_getElem hlt)).mono le⟩
        have := cell_setCells_in r vs (o + off) w hs (i - off) _ (List.getElem?_eq_getElem hlt)
        rwa [show o + off + (i - off) = o + i by omega] at this
      · have ht : cs[i]? = some t := by
          by_cases hlt : i < off
          · rw [List.append_assoc, List.getElem?_append_left (by simp; omega), List.getElem?_take, if_pos hlt] at hi; exact hi
          · rw [List.getElem?_append_right (by simp; omega), List.getElem?_drop] at hi
            rw [← hi]; congr 1; simp; omega
        obtain ⟨a, v, hv1, hv2⟩ := h3 i t ht
        refine ⟨a, v, ?_, hv2.mono le⟩
        rw [cell_setCells r vs (o + off) w r (o + i) (by omega)]; exact hv1
  · exact .inl ⟨hne, hx'⟩
theorem run_storeVar {ty : TypeId} {i : TypeInfo} {v : Value} {r o : Nat} (hi : P.info? ty = some i) (hsz : v.cells.size = i.size) (hc : ∀ j, j < v.cells.toList.length → (w.cell? ⟨r, o + j, none⟩).isSome = true)
    (hf : ∀ j, j < v.cells.toList.length → w.frozen? ⟨r, o + j, none⟩ = false) (h1 : ∀ x ∈ v.cells.toList, x.oneCell' = true) :
    (storeVar ty ⟨r, o, none⟩ v).run P w = .ok () (w.setCells r o v.cells.toList) := by
  have := run_storeCells_cells (P := P) r o v.cells.toList 0 w (by simpa using hc) (by simpa using hf) h1
  simp [storeVar, sizeOf, run_ti hi, hsz]
  simpa using this
theorem sim_st {ty : TypeId} {i : TypeInfo} {p x : T} {vp vx : Value} {ts : List T} {H' : Heap} (hi : P.info? ty = some i) (h : SR w0 g H w) (hp : VR g w p vp) (hx : VR g w x vx) (hc : x.cells? = some ts) (hn : ts.length = i.size) (he : stc H ts p = some H') :
    ∃ w' g', (Instr.storeAt ty vp vx).run P w = .ok () w' ∧ Le g w g' w' ∧ SR w0 g' H' w' ∧ Fr g H g' H' := by
  obtain ⟨hv, ho⟩ := cells?_ok hx hc
  cases hp <;> simp only [stc] at he <;> (try (simp at he; done))
  rename_i b off r o q hφ
  cases hb : H[b]? with
  | none => simp [hb] at he
  | some y =>
    cases y <;> simp only [hb] at he <;> (try (simp at he; done))
    rename_i cs
    split at he
    · rename_i hle
      simp only [Option.some.injEq] at he; subst he
      have hbl : b < H.length := (List.getElem?_eq_some_iff.1 hb).1
      obtain ⟨h1, h2, h3⟩ := h.blk b _ hb r o q hφ
      obtain ⟨le, sr⟩ := h.store hb hφ hle hv ho
      have hl := hv.1
      refine ⟨_, g, ?_, le, sr, by simp, fun b' y' a _ d => ⟨set_ne a ?_, d⟩⟩
      · have := run_storeVar (P := P) (w := w) (ty := ty) (r := r) (o := o + off) hi (v := vx) (by rw [← hn, hl]; simp) (fun j hj => (h2 _ (by omega) (by omega)).2.2) (fun j hj => (h2 (o + off + j) (by omega) (by omega)).2.1 _) (hv.oneCell ho)
        simpa [Instr.storeAt, Instr.sureAddr] using this
      · rintro rfl; rw [hφ] at d; cases d
    · simp at he
def World.putObj' (w : World) (r : Nat) (o : Obj) : World := { w with heap := w.heap.setIfInBounds r o }
theorem put_ne (w : World) {r r' : Nat} (o : Obj) (h : r' ≠ r) : (World.putObj' w r o).heap[r']? = w.heap[r']? := by
  unfold World.putObj'; simp only [Array.getElem?_setIfInBounds]; rw [if_neg (fun e => h e.symm)]
theorem put_same (w : World) {r : Nat} (o : Obj) (h : r < w.heap.size) : (World.putObj' w r o).heap[r]? = some o := by
  unfold World.putObj'; simp [h]
theorem put_cell (w : World) {r : Nat} {x x' : Obj} (hs : solid x = true) (hs' : solid x' = true) (h : w.heap[r]? = some x) (a : Addr) : (World.putObj' w r x').cell? a = w.cell? a := by
  have hlt : r < w.heap.size := (Array.getElem?_eq_some_iff.1 h).1
  unfold World.cell?
  by_cases e : a.block = r
  · rw [e, put_same w _ hlt, h]
    cases x <;> simp [solid] at hs <;> cases x' <;> simp [solid] at hs' <;> rfl
  · rw [put_ne w _ e]
theorem put_frozen (w : World) {r : Nat} {x x' : Obj} (hs : solid x = true) (hs' : solid x' = true) (h : w.heap[r]? = some x) (a : Addr) : (World.putObj' w r x').frozen? a = w.frozen? a := by
  have hlt : r < w.heap.size := (Array.getElem?_eq_some_iff.1 h).1
  unfold World.frozen?
  by_cases e : a.block = r
  · rw [e, put_same w _ hlt, h]
    cases x <;> simp [solid] at hs <;> cases x' <;> simp [solid] at hs' <;> rfl
  · rw [put_ne w _ e]
theorem Tr.setobj (w : World) (r : Nat) {x x' : Obj} (hs : solid x = true) (hs' : solid x' = true) (h : w.heap[r]? = some x) : Tr w (World.putObj' w r x') none2 (fun r' => r' = r) where
  size := by simp [World.putObj']
  cell r' j _ _ := put_cell w hs hs' h _
  frz r' j _ := put_frozen w hs hs' h _
  keep r' j _ hk := by rw [put_cell w hs hs' h]; exact hk
  maps r' x hm _ hk := by rw [put_ne w _ hm]; exact hk
  old r' _ hm _ := put_ne w _ hm
  env := ⟨rfl, rfl⟩
theorem SR.setmap {b r o q : Nat} {es es' : List (T × T)} {ents ents' : Array MapEntry} {c c' : Nat} (h : SR w0 g H w) (hb : H[b]? = some (.map es)) (hφ : g.φ b = some (r, o, q)) (hr : w.heap[r]? = some (.map ents c)) (hE : EntsOk g w es' ents') (hB : BornOk ents' c') :
    Le g w g (World.putObj' w r (.map ents' c')) ∧ SR w0 g (H.set b (.map es')) (World.putObj' w r (.map ents' c')) ∧ Fr g H g (H.set b (.map es')) := by
  have hbl : b < H.length := (List.getElem?_eq_some_iff.1 hb).1
  obtain ⟨h1, _⟩ := h.blk b _ hb r o q hφ
  have tr := Tr.setobj w r (x := .map ents c) (x' := .map ents' c') rfl rfl hr
  have le : Le g w g (World.putObj' w r (.map ents' c')) := Le.of_tr tr (fun _ _ h => h) (fun _ _ h => h) (fun _ _ _ h => h) (fun _ _ hs => hs.elim)
  refine ⟨le, h.step (fun b' => b' = b) tr le (fun _ _ hs => hs.elim) (fun r' hm => ⟨b, by rw [hm]; exact h1, rfl⟩) (fun r' j hr' => h.fresh r' j (by simpa [World.putObj'] using hr')) (fun b' x hx => by rw [List.length_set]; exact h.dom b' x hx)
    (fun t e x hx => by rw [List.length_set]; exact h.domt t e x hx) (fun _ _ _ => rfl) (fun _ _ _ _ => ⟨id, id⟩) (fun _ _ _ _ => rfl) (fun b' x hx => ?_), by simp, fun b' x a _ d => ⟨set_ne a (by rintro rfl; rw [hφ] at d; cases d), d⟩⟩
  rcases set_get hbl hx with ⟨rfl, rfl⟩ | ⟨hne, hx'⟩
  · right
    intro r' o' q' hφ'
    rw [hφ] at hφ'; cases hφ'
    refine ⟨h1, ents', c', ?_, hE.mono le, hB⟩
    have hlt : r < w.heap.size := (Array.getElem?_eq_some_iff.1 hr).1
    simp [World.putObj', hlt]
  · exact .inl ⟨hne, hx'⟩
theorem eqSc_same {n : Nat} {a b : T} {va vb : Value} (ha : VR g w a va) (hb : VR g w b vb) (he : eqSc a b = some true) : Instr.sameBits n va vb = true := by
  cases ha <;> cases hb <;> simp [eqSc] at he
  · obtain ⟨rfl, rfl⟩ := he; cases n <;> simp [Instr.sameBits]
  · subst he; cases n <;> simp [Instr.sameBits]
  · rename_i s1 s2
    have e : (s1 == s2) = true := by rw [beq_toListBytes]; exact he
    cases n <;> exact e
theorem eqCells_same {n : Nat} : ∀ (aq bs : List T) (xs ys : List Value), VRs g w aq xs → VRs g w bs ys → eqCells aq bs = some true → xs.length = ys.length ∧ (xs.zip ys).all (fun (x, y) => Instr.sameBits n x y) = true
  | [], [], xs, ys, hx, hy, _ => by
    have a := hx.1; have b := hy.1
    simp at a b
    have e1 : xs = [] := List.eq_nil_of_length_eq_zero (by omega)
    have e2 : ys = [] := List.eq_nil_of_length_eq_zero (by omega)
    subst e1; subst e2; simp
  | a :: aq, b :: bs, xs, ys, hx, hy, he => by
    cases xs with
    | nil => have := hx.1; simp at this
    | cons x xs =>
      cases ys with
      | nil => have := hy.1; simp at this
      | cons y ys =>
        simp only [eqCells] at he
        cases e1 : eqSc a b with
        | none => simp [e1] at he
        | some r1 =>
          cases e2 : eqCells aq bs with
          | none => simp [e1, e2] at he
          | some r2 =>
            simp [e1, e2] at he
            obtain ⟨rfl, rfl⟩ := he
            obtain ⟨h1, h2⟩ := eqCells_same aq bs xs ys hx.tail hy.tail e2
            exact ⟨by simp [h1], by simp [eqSc_same hx.head hy.head e1]; simpa using h2⟩
  | [], _ :: _, _, _, _, _, he => by simp [eqCells] at he
  | _ :: _, [], _, _, _, _, he => by simp [eqCells] at he
theorem keyEq_same {a b : T} {va vb : Value} (ha : VR g w a va) (hb : VR g w b vb) (he : keyEq a b = some true) : Instr.sameBits 10000 va vb = true := by
  by_cases h : ∃ aq bs, a = .agg aq ∧ b = .agg bs
  · obtain ⟨aq, bs, rfl, rfl⟩ := h
    obtain ⟨xs, rfl, hx, _⟩ := ha.agg_inv
    obtain ⟨ys, rfl, hy, _⟩ := hb.agg_inv
    obtain ⟨h1, h2⟩ := eqCells_same (n := 9999) aq bs xs ys hx hy he
    show Instr.sameBits (9999 + 1) _ _ = true
    rw [Instr.sameBits]
    simp [h1]
    simpa using h2
  · have : eqSc a b = some true := by
      cases a <;> first | exact he | (cases b <;> first | exact he | exact absurd ⟨_, _, rfl, rfl⟩ h)
    exact eqSc_same ha hb this
theorem mfind_lt : ∀ (k : T) (es : List (T × T)) (i : Nat), mfind k es = some (some i) → ∃ e, es[i]? = some e ∧ keyEq k e.1 = some true
  | k, [], i, h => by simp [mfind] at h
  | k, e :: es, i, h => by
    simp only [mfind] at h
    cases hk : keyEq k e.1 with
    | none => simp [hk] at h
    | some b =>
      cases b with
      | true => simp [hk] at h; subst h; exact ⟨e, rfl, hk⟩
      | false =>
        simp only [hk, Option.map_eq_some_iff] at h
        obtain ⟨r, h1, h2⟩ := h
        cases r with
        | none => simp at h2
        | some j =>
          simp at h2; subst h2
          obtain ⟨e', h3, h4⟩ := mfind_lt k es j h1
          exact ⟨e', by simpa using h3, h4⟩
theorem EntsOk.set {es : List (T × T)} {ents : Array MapEntry} (h : EntsOk g w es ents) {k v : T} {vk vv : Value} (hk : VR g w k vk) (hv : VR g w v vv) (i : Nat) :
    EntsOk g w (es.set i (k, v)) (ents.modify i fun e => { e with key := vk, val := vv }) := by
  refine ⟨by simp [h.1], fun j e m a b => ?_⟩
  rw [List.getElem?_set] at a
  rw [Array.getElem?_modify] at b
  split at a
  · rename_i e'
    rw [if_pos e'] at b
    subst e'
    split at a
    · simp at a b
      obtain ⟨m', _, rfl⟩ := b
      subst a
      exact ⟨hk, hv⟩
    · cases a
  · rename_i e'
    rw [if_neg e'] at b
    exact h.2 j e m a b
theorem EntsOk.push {es : List (T × T)} {ents : Array MapEntry} (h : EntsOk g w es ents) {k v : T} {vk vv : Value} (hk : VR g w k vk) (hv : VR g w v vv) (c : Nat) :
    EntsOk g w (es ++ [(k, v)]) (ents.push { key := vk, val := vv, born := c }) := by
  refine ⟨by simp [h.1], fun j e m a b => ?_⟩
  rw [Array.getElem?_push, h.1] at b
  rw [List.getElem?_append] at a
  split at b
  · rename_i e'
    subst e'
    simp at a b
    subst a; subst b
    exact ⟨hk, hv⟩
  · rename_i e'
    split at a
    · exact h.2 j e m a b
    · have : j < ents.size := (Array.getElem?_eq_some_iff.1 b).1
      rw [h.1] at this; omega
theorem EntsOk.erase {es : List (T × T)} {ents : Array MapEntry} (h : EntsOk g w es ents) (i : Nat) (hi : i < es.length) : EntsOk g w (es.eraseIdx i) (ents.eraseIdxIfInBounds i) := by
  have hsz : i < ents.size := by rw [h.1]; exact hi
  have e1 : (ents.eraseIdxIfInBounds i).toList = ents.toList.eraseIdx i := by simp [Array.eraseIdxIfInBounds, hsz]
  refine ⟨by rw [← Array.length_toList, e1, List.length_eraseIdx, List.length_eraseIdx, if_pos hi, Array.length_toList, if_pos hsz, h.1], fun j e m a b => ?_⟩
  have b' : (ents.toList.eraseIdx i)[j]? = some m := by rw [← e1, Array.getElem?_toList]; exact b
  rw [List.getElem?_eraseIdx] at a b'
  split at a
  · rename_i hlt; rw [if_pos hlt] at b'; exact h.2 j e m a (by simpa using b')
  · rename_i hlt; rw [if_neg hlt] at b'; exact h.2 _ e m a (by simpa using b')
theorem BornOk.set {ents : Array MapEntry} {c : Nat} (h : BornOk ents c) (k v : Value) (i : Nat) : BornOk (ents.modify i fun e => { e with key := k, val := v }) c := by
  have e : (ents.modify i fun e => { e with key := k, val := v }).toList.map (·.born) = ents.toList.map (·.born) := by
    apply List.ext_getElem?
    intro j
    simp only [List.getElem?_map, Array.getElem?_toList, Array.getElem?_modify]
    split
    · cases ents[j]? <;> rfl
    · rfl
  refine ⟨fun m hm => ?_, by rw [e]; exact h.2⟩
  have := List.mem_map_of_mem (f := fun m : MapEntry => m.born) hm
  rw [e] at this
  obtain ⟨m', h1, h2⟩ := List.mem_map.1 this
  rw [← h2]; exact h.1 m' h1
theorem BornOk.push {ents : Array MapEntry} {c : Nat} (h : BornOk ents c) (k v : Value) : BornOk (ents.push { key := k, val := v, born := c }) (c + 1) := by
  refine ⟨fun m hm => ?_, ?_⟩
  · rw [Array.toList_push, List.mem_append] at hm
    rcases hm with hm | hm
    · exact Nat.lt_succ_of_lt (h.1 m hm)
    · simp at hm; subst hm; exact Nat.lt_succ_self _
  · rw [Array.toList_push, List.map_append, List.nodup_append]
    refine ⟨h.2, by simp, fun a ha b hb => ?_⟩
    simp at hb
    subst hb
    obtain ⟨m, hm, rfl⟩ := List.mem_map.1 ha
    exact Nat.ne_of_lt (h.1 m hm)
theorem BornOk.erase {ents : Array MapEntry} {c : Nat} (h : BornOk ents c) (i : Nat) : BornOk (ents.eraseIdxIfInBounds i) c := by
  by_cases hsz : i < ents.size
  · have e1 : (ents.eraseIdxIfInBounds i).toList = ents.toList.eraseIdx i := by simp [Array.eraseIdxIfInBounds, hsz]
    exact ⟨fun m hm => h.1 m (by rw [e1] at hm; exact (List.eraseIdx_sublist _ _).subset hm), by rw [e1]; exact h.2.sublist ((List.eraseIdx_sublist _ _).map _)⟩
  · have e1 : ents.eraseIdxIfInBounds i = ents := by simp [Array.eraseIdxIfInBounds, hsz]
    rw [e1]; exact h
theorem sim_upm {ty key elem : TypeId} {kt : KT} {b : Nat} {k v : T} {vm vk vv : Value} {es : List (T × T)} {r : Option Nat} (hu : P.underlying ty = some (.map key elem)) (hkt : ktOk P key kt = true)
    (h : SR w0 g H w) (hm : VR g w (.map b) vm) (hk : VR g w k vk) (hv : VR g w v vv) (hhk : k.hasK kt = true) (hb : H[b]? = some (.map es)) (hr : mfind k es = some r) :
    ∃ w' g', (Instr.mapUpdate ty vm vk vv).run P w = .ok () w' ∧ Le g w g' w' ∧ SR w0 g' (H.set b (.map (match r with | some i => es.set i (k, v) | none => es ++ [(k, v)]))) w' ∧ Fr g H g' (H.set b (.map (match r with | some i => es.set i (k, v) | none => es ++ [(k, v)]))) := by
  cases hm with
  | @map _ rr o q hφ =>
    obtain ⟨h1, ents, c, h2, hE, hB⟩ := h.blk b _ hb rr o q hφ
    have hf := find_ok hkt hk hhk es ents.toList (by simpa using hE.1) (fun i e m a b => hE.2 i e m a (by simpa using b)) hr
    have hc := checkKey_ok (P := P) (w := w) (e := false) hkt hk hhk
    cases r with
    | none =>
      obtain ⟨le, sr, fr⟩ := h.setmap (c' := c + 1) hb hφ h2 (hE.push hk hv c) (hB.push _ _)
      refine ⟨_, g, ?_, le, sr, fr⟩
      simp at hf
      simp [Instr.mapUpdate, run_underlying hu, getObj, setObj, Sem.run, h2, hc, hf, World.putObj']
    | some i =>
      obtain ⟨e, he, hke⟩ := mfind_lt k es i hr
      have hlt : i < ents.size := by rw [hE.1]; exact (List.getElem?_eq_some_iff.1 he).1
      have hm' : ents[i]? = some ents[i] := Array.getElem?_eq_getElem hlt
      have hkk := (hE.2 i e _ he hm').1
      have hsb := keyEq_same hk hkk hke
      have hsb' : Instr.sameBits 10000 ents[i].key vk = true := by
        have : keyEq e.1 k = some true ∨ True := .inr trivial
        by_cases h' : ∃ aq bs, k = .agg aq ∧ e.1 = .agg bs
        · obtain ⟨aq, bs, rfl, e2⟩ := h'
          have eqc : ∀ (aq bs : List T), eqCells aq bs = some true → eqCells bs aq = some true := by
            intro aq
            induction aq with
            | nil => intro bs hbs; cases bs <;> simp [eqCells] at hbs ⊢
            | cons a aq ih =>
              intro bs hbs
              cases bs with
              | nil => simp [eqCells] at hbs
              | cons b bs =>
                simp only [eqCells] at hbs ⊢
                cases e1 : eqSc a b with
                | none => simp [e1] at hbs
                | some r1 =>
                  cases e2 : eqCells aq bs with
                  | none => simp [e1, e2] at hbs
                  | some r2 =>
                    simp [e1, e2] at hbs
                    obtain ⟨rfl, rfl⟩ := hbs
                    have : eqSc b a = some true := by
                      cases a <;> cases b <;> simp [eqSc, strEq] at e1 ⊢
                      · exact ⟨e1.1.symm, e1.2.symm⟩
                      · exact e1.symm
                      · exact e1.symm
                    simp [this, ih bs e2]
          rw [e2] at hkk hke
          exact keyEq_same hkk hk (eqc _ _ hke)
        · have e1 : eqSc k e.1 = some true := by
            generalize e.1 = d at *
            cases k <;> first | exact hke | (cases d <;> first | exact hke | exact absurd ⟨_, _, rfl, rfl⟩ h')
          have e2 : eqSc e.1 k = some true := by
            generalize e.1 = d at *
            cases k <;> cases d <;> simp [eqSc, strEq] at e1 ⊢
            · exact ⟨e1.1.symm, e1.2.symm⟩
            · exact e1.symm
            · exact e1.symm
          exact eqSc_same hkk hk e2
      obtain ⟨le, sr, fr⟩ := h.setmap (c' := c) hb hφ h2 (hE.set hk hv i) (hB.set _ _ i)
      refine ⟨_, g, ?_, le, sr, fr⟩
      have hx : ((some i : Option Nat).bind fun i => (ents.toList[i]?).map fun m => (i, m.val)) = some (i, ents[i].val) := by simp [hlt]
      rw [hx] at hf
      have hks : (Instr.keyThatStays ents[i].key vk).run P w = .ok vk w := by simp [Instr.keyThatStays, hsb']
      simp [Instr.mapUpdate, run_underlying hu, getObj, setObj, Sem.run, h2, hc, hf, hlt, hks, World.putObj']
theorem sim_del {ty key elem xt rt : TypeId} {kt : KT} {b : Nat} {k : T} {vm vk : Value} {es : List (T × T)} {r : Option Nat} (hu : P.underlying ty = some (.map key elem)) (hkt : ktOk P key kt = true)
    (h : SR w0 g H w) (hm : VR g w (.map b) vm) (hk : VR g w k vk) (hhk : k.hasK kt = true) (hb : H[b]? = some (.map es)) (hr : mfind k es = some r) :
    Sim P w0 g H w (Builtin.delete_ #[ty, xt] rt #[vm, vk]) (.tup []) (match r with | some i => H.set b (.map (es.eraseIdx i)) | none => H) := by
  cases hm with
  | @map _ rr o q hφ =>
    obtain ⟨h1, ents, c, h2, hE, hB⟩ := h.blk b _ hb rr o q hφ
    have hf := find_ok hkt hk hhk es ents.toList (by simpa using hE.1) (fun i e m a b => hE.2 i e m a (by simpa using b)) hr
    have hc := checkKey_ok (P := P) (w := w) (e := ents.isEmpty) hkt hk hhk
    cases r with
    | none =>
      obtain ⟨le, sr, fr⟩ := h.setmap (c' := c) hb hφ h2 hE hB
      have hH : H.set b (.map es) = H := by
        apply List.ext_getElem?
        intro j
        rw [List.getElem?_set]
        split
        · rename_i e; subst e; rw [if_pos (List.getElem?_eq_some_iff.1 hb).1, hb]
        · rfl
      rw [hH] at sr fr
      refine ⟨.tuple #[], _, g, ?_, le, sr, .tup rfl (by simp), fr⟩
      simp at hf
      simp [Builtin.delete_, run_underlying hu, getObj, setObj, Sem.run, h2, hc, hf, World.putObj']
    | some i =>
      obtain ⟨e, he, hke⟩ := mfind_lt k es i hr
      have hli : i < es.length := (List.getElem?_eq_some_iff.1 he).1
      have hlt : i < ents.size := by rw [hE.1]; exact hli
      obtain ⟨le, sr, fr⟩ := h.setmap (c' := c) hb hφ h2 (hE.erase i hli) (hB.erase i)
      refine ⟨.tuple #[], _, g, ?_, le, sr, .tup rfl (by simp), fr⟩
      have hx : ((some i : Option Nat).bind fun i => (ents.toList[i]?).map fun m => (i, m.val)) = some (i, ents[i].val) := by simp [hlt]
      rw [hx] at hf
      simp [Builtin.delete_, run_underlying hu, getObj, setObj, Sem.run, h2, hc, hf, World.putObj']
end
end Go.Rmp
end

section
namespace Go.Rmp
section
variable {P : Program} {w0 w : World} {g : Ctx} {H : Heap}
theorem flatten_get {n : Nat} : ∀ (es : List (List T)), (∀ c ∈ es, c.length = n) → ∀ (i j : Nat) (c : List T) (t : T), es[i]? = some c → c[j]? = some t → es.flatten[i * n + j]? = some t
  | [], _, i, j, c, t, h, _ => by simp at h
  | d :: es, hn, i, j, c, t, h, hj => by
    have hd := hn d (by simp)
    cases i with
    | zero =>
      simp at h; subst h
      have hlt : j < d.length := (List.getElem?_eq_some_iff.1 hj).1
      simp only [List.flatten_cons, Nat.zero_mul, Nat.zero_add]
      rw [List.getElem?_append_left hlt]; exact hj
    | succ i =>
      have ih := flatten_get es (fun c hc => hn c (by simp [hc])) i j c t (by simpa using h) hj
      simp only [List.flatten_cons]
      rw [List.getElem?_append_right (by rw [hd, Nat.succ_mul]; omega)]
      rw [show (i + 1) * n + j - d.length = i * n + j by rw [hd, Nat.succ_mul]; omega]; exact ih
theorem flatten_len {n : Nat} (es : List (List T)) (hn : ∀ c ∈ es, c.length = n) : es.flatten.length = es.length * n := by
  induction es with
  | nil => simp
  | cons d es ih => simp only [List.flatten_cons, List.length_append, List.length_cons, Nat.succ_mul, hn d (by simp), ih (fun c hc => hn c (by simp [hc]))]; omega
theorem VR.of_row {k : SK} {es : List (List T)} {r o cap n : Nat} {vs : List Value} (hn : ∀ c ∈ es, c.length = n) (hv : VRs g w es.flatten vs) (ho : ones es.flatten) (hc : es.length ≤ cap) (hk : KOk g k r o es.length cap n)
    (hi : ∀ (j : Nat) (v : Value), vs[j]? = some v → Imm g w r (o + j) v) : VR g w (.sl k es) (.slice (some ⟨r, o, none⟩) es.length cap) := by
  have key : ∀ (i j : Nat) (c : List T) (t : T), es[i]? = some c → c[j]? = some t → es.flatten[i * n + j]? = some t ∧ vs[i * n + j]? = some (vs.getD (i * n + j) undef) := by
    intro i j c t a b
    have h1 := flatten_get es hn i j c t a b
    have hlt : i * n + j < vs.length := by rw [← hv.1]; exact (List.getElem?_eq_some_iff.1 h1).1
    exact ⟨h1, by rw [List.getElem?_eq_getElem hlt, List.getD_eq_getElem?_getD, List.getElem?_eq_getElem hlt, Option.getD_some]⟩
  refine .sl (n := n) (fun i j => vs.getD (i * n + j) undef) hk hc hn (fun i j c t a b => ?_) (fun i j c t a b => ?_)
  · obtain ⟨h1, h2⟩ := key i j c t a b
    exact ⟨ho t (List.mem_of_getElem? h1), by rw [Nat.add_assoc]; exact hi _ _ h2⟩
  · obtain ⟨h1, h2⟩ := key i j c t a b
    exact hv.2 _ t _ h1 h2
theorem flatten_map_erase (es : List (List T)) : (es.map (·.map T.erase)).flatten = es.flatten.map T.erase := by
  induction es with
  | nil => rfl
  | cons c es ih => simp only [List.map_cons, List.flatten_cons, List.map_append, ih]
theorem VRs.erase {ts : List T} {vs : List Value} (h : VRs g w ts vs) : VRs g w (ts.map T.erase) vs :=
  ⟨by simp [h.1], fun i t v a b => by
    rw [List.getElem?_map] at a
    obtain ⟨t', h1, rfl⟩ := Option.map_eq_some_iff.1 a
    exact (h.2 i t' v h1 b).erase⟩
theorem ones_erase {ts : List T} (h : ones ts) : ones (ts.map T.erase) := by
  intro t ht
  obtain ⟨t', h1, rfl⟩ := List.mem_map.1 ht
  rw [one_erase]; exact h t' h1
theorem src_ok {n : Nat} {y : T} {vy : Value} {new : List (List T)} (h : SR w0 g H w) (hy : VR g w y vy) (he : elemsOf H n y = some new) :
    ∃ vs : List Value, (Builtin.lenOf vy).run P w = .ok new.length w ∧ (Builtin.firstCells n new.length vy).run P w = .ok vs.toArray w ∧ VRs g w new.flatten vs ∧ ones new.flatten ∧ (∀ c ∈ new, c.length = n) ∧ vs.length = new.length * n := by
  by_cases hs : ∃ s, y = .str s
  · obtain ⟨s, rfl⟩ := hs
    cases hy
    simp only [elemsOf] at he
    split at he
    · rename_i hn
      subst hn
      simp at he
      have hlen : new.length = s.size := by rw [← he, List.length_map]; exact Array.length_toList
      have hfl : new.flatten = s.data.toList.map fun c => T.int .u8 c.toNat := by
        rw [← he]
        generalize s.data.toList = l
        induction l with
        | nil => rfl
        | cons c l ih => simp only [List.map_cons, List.flatten_cons, ih]; rfl
      have hex : s.extract 0 s.size = s := by simp
      refine ⟨s.data.toList.map fun c => .int .u8 c.toNat, by simp [Builtin.lenOf, hlen], ?_, ?_, ?_, ?_, ?_⟩
      · rw [hlen]
        simp only [Builtin.firstCells, hex, Sem.run_pure]
        congr 1
        apply Array.ext'; simp
      · rw [hfl]
        refine ⟨by simp, fun i t v a b => ?_⟩
        rw [List.getElem?_map] at a b
        obtain ⟨c, h1, rfl⟩ := Option.map_eq_some_iff.1 a
        rw [h1] at b; simp at b; subst b
        exact .int _ _
      · rw [hfl]; intro t ht
        obtain ⟨c, _, rfl⟩ := List.mem_map.1 ht; rfl
      · rw [← he]; intro c hc
        obtain ⟨_, _, rfl⟩ := List.mem_map.1 hc; rfl
      · rw [hlen, List.length_map, Nat.mul_one]; exact Array.length_toList
    · simp at he
  · obtain ⟨a, cap, vs, rfl, _, h1, h2, h3, h4, h5, h6⟩ := elems_ok h hy he (fun s e => hs ⟨s, e⟩)
    refine ⟨vs, by simp [Builtin.lenOf], ?_, h3, h5, h6, h4⟩
    cases a with
    | none =>
      have := (h1 rfl).1
      subst this
      simp at h4
      simp [Builtin.firstCells, h4]
    | some a =>
      obtain ⟨_, h7⟩ := h2 a rfl
      have := run_loadCells_list (P := P) w a vs h7
      rw [h4] at this
      simpa [Builtin.firstCells] using this
theorem grow_le (need : Nat) : ∀ (k c : Nat), c ≤ need + (need + 768) / 4 → Builtin.growBy need k c ≤ need + (need + 768) / 4
  | 0, c, h => h
  | k + 1, c, h => by
    rw [Builtin.growBy]
    split
    · exact h
    · exact grow_le need k _ (by omega)
theorem next_le {need cap : Nat} (h : cap < need) : Builtin.nextslicecap need cap ≤ need + need / 4 + 512 := by
  unfold Builtin.nextslicecap
  split
  · omega
  · split
    · omega
    · have := grow_le need 4 cap (by omega)
      omega
theorem room_ok {need cap bytes : Nat} (h : cap < need) (hr : roomOk need bytes = true) : ¬ Builtin.nextslicecap need cap * bytes > 2 ^ 48 := by
  have h1 := Nat.mul_le_mul_right bytes (next_le h)
  simp only [roomOk, decide_eq_true_eq] at hr
  omega
structure ElemOk (P : Program) (sT xT elem : TypeId) (ei : TypeInfo) (zv : Value) (n bytes : Nat) : Prop where
  hu : P.underlying sT = some (.slice elem)
  hi : P.info? elem = some ei
  hx : ∃ d, P.underlying xT = some d ∧ ∀ k, d ≠ .int k
  hn : ei.size = n
  hz : ei.zero = some zv
  hzs : zv.cells.size = n
  hb : ei.bytes = bytes
  hb0 : bytes ≠ 0
theorem run_append_in {sT xT elem rt : TypeId} {ei : TypeInfo} {zv x : Value} {n bytes r o len cap m : Nat} {vs : List Value} (E : ElemOk P sT xT elem ei zv n bytes) (hl : (Builtin.lenOf x).run P w = .ok m w) (hf : (Builtin.firstCells n m x).run P w = .ok vs.toArray w)
    (hfit : len + m ≤ cap) (hs : (storeCells ⟨r, o + len * n, none⟩ vs).run P w = .ok () (w.setCells r (o + len * n) vs)) :
    (Builtin.append_ #[sT, xT] rt #[.slice (some ⟨r, o, none⟩) len cap, x]).run P w = .ok (.slice (some ⟨r, o, none⟩) (len + m) cap) (w.setCells r (o + len * n) vs) := by
  obtain ⟨d, h1, h2⟩ := E.hx
  have hz : (match d with | .int _ => true | _ => false) = false := by cases d <;> first | rfl | exact absurd rfl (h2 _)
  simp [Builtin.append_, run_underlying E.hu, run_underlying h1, hz, sizeOf, run_ti E.hi, E.hn, hl, hf, hfit, add_mk, hs]
theorem run_append_in0 {sT xT elem rt : TypeId} {ei : TypeInfo} {zv x : Value} {n bytes : Nat} {base : Option Addr} {len cap : Nat} (E : ElemOk P sT xT elem ei zv n bytes) (hl : (Builtin.lenOf x).run P w = .ok 0 w) (hf : (Builtin.firstCells n 0 x).run P w = .ok #[] w) (hfit : len ≤ cap) :
    (Builtin.append_ #[sT, xT] rt #[.slice base len cap, x]).run P w = .ok (.slice base len cap) w := by
  obtain ⟨d, h1, h2⟩ := E.hx
  have hz : (match d with | .int _ => true | _ => false) = false := by cases d <;> first | rfl | exact absurd rfl (h2 _)
  cases base <;> simp [Builtin.append_, run_underlying E.hu, run_underlying h1, hz, sizeOf, run_ti E.hi, E.hn, hl, hf, hfit, storeCells]
theorem zeroCells_size (zc : Array Value) (n : Nat) : (Builtin.zeroCells zc n).size = n * zc.size := by simp [Builtin.zeroCells]
theorem run_append_out {sT xT elem rt : TypeId} {ei : TypeInfo} {zv x : Value} {n bytes : Nat} {base : Option Addr} {len cap m : Nat} {old vs : List Value} (E : ElemOk P sT xT elem ei zv n bytes) (hl : (Builtin.lenOf x).run P w = .ok m w) (hf : ∀ w' : World, w'.heap = w.heap → (Builtin.firstCells n m x).run P w' = .ok vs.toArray w')
    (ho : ∀ w' : World, w'.heap = w.heap → (Builtin.firstCells n len (.slice base len cap)).run P w' = .ok old.toArray w') (hout : cap < len + m) (hr : roomOk (len + m) bytes = true) :
    ∃ (newCap : Nat) (rest : List Value), len + m ≤ newCap ∧ rest.length = (newCap - (len + m)) * n ∧
      (Builtin.append_ #[sT, xT] rt #[.slice base len cap, x]).run P w = .ok (.slice (some ⟨w.heap.size, 0, none⟩) (len + m) newCap) (w.drew.alloc (.cells (old ++ vs ++ rest).toArray elem)) := by
  obtain ⟨d, h1, h2⟩ := E.hx
  have hz : (match d with | .int _ => true | _ => false) = false := by cases d <;> first | rfl | exact absurd rfl (h2 _)
  have hroom := room_ok hout hr
  have hfit : ¬ len + m ≤ cap := by omega
  let newCap := Question.cut (.appendCap (len + m) cap elem) (w.tape w.drawn (.appendCap (len + m) cap elem))
  have hcap : len + m ≤ newCap := by simp only [newCap, Question.cut]; omega
  refine ⟨newCap, (Builtin.zeroCells zv.cells (newCap - (len + m))).toList, hcap, ?_, ?_⟩
  · rw [Array.length_toList, zeroCells_size, E.hzs]
  · have hf' := hf w.drew rfl
    have ho' := ho w.drew rfl
    have hb0 : ei.bytes ≠ 0 := by rw [E.hb]; exact E.hb0
    simp only [gt_iff_lt, Nat.not_lt] at hroom
    have hroom' : Builtin.nextslicecap (len + m) cap * ei.bytes ≤ 2 ^ 48 := by rw [E.hb]; exact hroom
    simp only [Builtin.append_, List.getElem?_toArray, List.getElem?_cons_zero, List.getElem?_cons_succ, Sem.run_bind, run_underlying E.hu, run_underlying h1, Result.andThen_ok, sizeOf, run_ti E.hi, E.hn, hl, Sem.run_pure, hfit, if_false]
    cases d <;> first
      | exact absurd rfl (h2 _)
      | (simp [hl, hfit, run_ti E.hi, hb0, hroom', Nat.not_lt.2 hroom', run_choose, Question.forced, ho', hf', zeroValue, E.hz, newRow, newCap]; congr 2; apply Array.ext'; simp)
theorem SR.tokIn {t e r p q m : Nat} {vs : List Value} (h : SR w0 g H w) (ht : H[t]? = some (.tok e)) (hp : g.π t e = some (r, p, q)) (hm : 0 < m) (hfit : p + vs.length ≤ q) :
    let g' := ((g.row r fun j => if p ≤ j ∧ j < p + vs.length then .imm else g.κ r j).tok t (e + m) (r, p + vs.length, q))
    Le g w g' (w.setCells r p vs) ∧ SR w0 g' (H.set t (.tok (e + m))) (w.setCells r p vs) ∧ Fr g H g' (H.set t (.tok (e + m))) ∧ ∀ (i : Nat) (v : Value), vs[i]? = some v → Imm g' (w.setCells r p vs) r (p + i) v := by
  intro g'
  have htl : t < H.length := (List.getElem?_eq_some_iff.1 ht).1
  obtain ⟨r1, p1, q1, e1, h2, h3, h4⟩ := h.blk t _ ht
  rw [hp] at e1; cases e1
  have hs : ∀ j, p ≤ j → j < p + vs.length → (w.cell? ⟨r, j, none⟩).isSome = true := fun j a c => (h3 j a (by omega)).2.2
  have tr := Tr.setCells w r p vs hs
  have hS : ∀ r' j, inRow r p vs.length r' j → g.κ r' j = .spare t := by
    rintro r' j ⟨rfl, a, c⟩; exact (h3 j a (by omega)).1
  have hκ : ∀ r' j, g'.κ r' j = if r' = r ∧ p ≤ j ∧ j < p + vs.length then .imm else g.κ r' j := by
    intro r' j
    simp only [g', Ctx.tok, Ctx.row]
    by_cases e : r' = r
    · subst e; simp
    · simp [e]
  have hπ : ∀ t' e', g'.π t' e' = if t' = t ∧ e' = e + m then some (r, p + vs.length, q) else g.π t' e' := fun t' e' => rfl
  have le : Le g w g' (w.setCells r p vs) := Le.of_tr tr (fun _ _ h => h) (fun r' o hk => by rw [hκ]; split; rfl; exact hk)
    (fun t' e' x hx => by rw [hπ]; split; rename_i c; obtain ⟨rfl, rfl⟩ := c; rw [h4 _ (by omega)] at hx; cases hx; exact hx)
    (fun r' j hs' e => by rw [hS r' j hs'] at e; cases e)
  have imm : ∀ (i : Nat) (v : Value), vs[i]? = some v → Imm g' (w.setCells r p vs) r (p + i) v := fun i v hi => by
    have hlt : i < vs.length := (List.getElem?_eq_some_iff.1 hi).1
    exact ⟨by rw [hκ]; simp; omega, cell_setCells_in r vs p w hs i v hi⟩
  refine ⟨le, h.step (fun b' => b' = t) tr le (fun r' j hs' => .inr (.inr ⟨t, hS r' j hs', rfl⟩)) (fun _ hm => hm.elim) (fun r' j hr => ?_) (fun b' x hx => by rw [List.length_set]; exact h.dom b' x hx)
    (fun t' e' x hx => ?_) (fun _ _ _ => rfl) (fun r' j b' hb' => ?_) (fun t' e' _ hb' => ?_) (fun b' x hx => ?_), ⟨by simp, fun b' x a c d => ⟨set_ne a (by rintro rfl; rw [ht] at a; cases a; exact absurd rfl (c e)), d⟩⟩, imm⟩
  · rw [size_setCells] at hr
    rw [hκ]; split
    · rename_i c; obtain ⟨rfl, a, c⟩ := c
      have := h.fresh r' j hr
      rw [(h3 j a (by omega)).1] at this; cases this
    · exact h.fresh r' j hr
  · rw [List.length_set]
    rw [hπ] at hx
    split at hx
    · rename_i c; rw [c.1]; exact htl
    · exact h.domt t' e' x hx
  · constructor <;> intro e' <;> rw [hκ] <;> split
    · rename_i c; obtain ⟨rfl, a, c⟩ := c; rw [(h3 j a (by omega)).1] at e'; cases e'
    · exact e'
    · rename_i c; obtain ⟨rfl, a, c⟩ := c; rw [(h3 j a (by omega)).1] at e'; cases e'; exact absurd rfl hb'
    · exact e'
  · rw [hπ, if_neg (fun c => hb' c.1)]
  · rcases set_get htl hx with ⟨rfl, rfl⟩ | ⟨hne, hx'⟩
    · right
      refine ⟨r, p + vs.length, q, by rw [hπ]; simp, hfit, fun j a c => ⟨?_, ?_, ?_⟩, fun e' he => by rw [hπ, if_neg (by omega)]; exact h4 e' (by omega)⟩
      · rw [hκ, if_neg (by omega)]; exact (h3 j (by omega) c).1
      · intro j0; rw [World.frozen?_setCells]; exact (h3 j (by omega) c).2.1 j0
      · rw [cell_setCells r vs p w r j (by omega)]; exact (h3 j (by omega) c).2.2
    · exact .inl ⟨hne, hx'⟩
theorem SR.tokNew {c : Array Value} {ty : TypeId} {w1 : World} {H' : Heap} {t e k : Nat} (h : SR w0 g H w) (tr : Tr w w1 none2 none1) (hz : w1.heap.size = w.heap.size) (ht : H'[t]? = some (.tok e)) (hk : k ≤ c.size)
    (hnew : ∀ e', e ≤ e' → g.π t e' = none) (hH : ∀ b' x, b' ≠ t → H'[b']? = some x → H[b']? = some x) (hl : H.length ≤ H'.length) (hfr : ∀ (b' : Nat) (x : B), H[b']? = some x → (∀ e : Nat, x ≠ .tok e) → H'[b']? = some x) :
    let g' := ((g.row w.heap.size fun j => if j < k then .imm else .spare t).tok t e (w.heap.size, k, c.size))
    Le g w g' (w1.alloc (.cells c ty)) ∧ SR w0 g' H' (w1.alloc (.cells c ty)) ∧ Fr g H g' H' ∧ (∀ (j : Nat) (v : Value), j < k → c[j]? = some v → Imm g' (w1.alloc (.cells c ty)) w.heap.size j v) ∧ g'.π t e = some (w.heap.size, k, c.size) := by
  intro g'
  have tr' := tr.trans (Tr.alloc w1 (.cells c ty))
  have hne : ∀ r j ow, g.κ r j = ow → ow ≠ .free → r ≠ w.heap.size := by rintro r j ow e hn rfl; exact hn (e ▸ h.fresh _ j (Nat.le_refl _))
  have hπ : ∀ t' e', g'.π t' e' = if t' = t ∧ e' = e then some (w.heap.size, k, c.size) else g.π t' e' := fun t' e' => rfl
  have hκ : ∀ r j, g'.κ r j = if r = w.heap.size then (if j < k then .imm else .spare t) else g.κ r j := fun r j => rfl
  have le : Le g w g' (w1.alloc (.cells c ty)) := Le.of_tr tr' (fun _ _ h => h) (fun r o hk => by rw [hκ, if_neg (hne r o _ hk (by simp))]; exact hk)
    (fun t' e' x hx => by rw [hπ]; split; rename_i c; obtain ⟨rfl, rfl⟩ := c; rw [hnew _ (Nat.le_refl _)] at hx; cases hx; exact hx) (fun _ _ hs => hs.elim)
  refine ⟨le, ?_, ⟨hl, fun b' x a c d => ⟨hfr b' x a c, d⟩⟩, fun j v hj hv => ⟨by rw [hκ]; simp [hj], by rw [← hz, World.cell?_alloc_new]; exact hv⟩, by rw [hπ]; simp⟩
  refine h.step (fun b' => b' = t) tr' le (fun _ _ hs => hs.elim) (fun _ hm => hm.elim) (fun r o hr => ?_) (fun b' x hx => Nat.lt_of_lt_of_le (h.dom b' x hx) hl) (fun t' e' x hx => ?_) (fun _ _ _ => rfl) (fun r j b' hb' => ?_) (fun t' e' _ hb' => ?_) (fun b' x hx => ?_)
  · simp at hr
    rw [hκ, if_neg (by omega)]; exact h.fresh r o (by omega)
  · rw [hπ] at hx
    split at hx
    · rename_i c; rw [c.1]; exact (List.getElem?_eq_some_iff.1 ht).1
    · exact Nat.lt_of_lt_of_le (h.domt t' e' x hx) hl
  · constructor <;> intro e' <;> rw [hκ, if_neg (hne r j _ e' (by simp))] <;> exact e'
  · rw [hπ, if_neg (fun c => hb' c.1)]
  · by_cases e' : b' = t
    · subst e'
      right
      rw [ht] at hx; cases hx
      refine ⟨w.heap.size, k, c.size, by rw [hπ]; simp, hk, fun j a b => ⟨by rw [hκ]; simp; omega, by rw [← hz]; simp, by rw [← hz, World.cell?_alloc_new, Array.getElem?_eq_getElem b]; rfl⟩, fun e'' he => by rw [hπ, if_neg (by omega)]; exact hnew e'' (by omega)⟩
    · exact .inl ⟨e', hH b' x e' hx⟩
theorem drew_tr (w : World) : Tr w w.drew none2 none1 := Tr.drew w
theorem heap_cell {w w' : World} (h : w'.heap = w.heap) (a : Addr) : w'.cell? a = w.cell? a := by unfold World.cell?; rw [h]
theorem src_ok' {n : Nat} {y : T} {vy : Value} {new : List (List T)} (h : SR w0 g H w) (hy : VR g w y vy) (he : elemsOf H n y = some new) :
    ∃ vs : List Value, (Builtin.lenOf vy).run P w = .ok new.length w ∧ (∀ w' : World, w'.heap = w.heap → (Builtin.firstCells n new.length vy).run P w' = .ok vs.toArray w') ∧ VRs g w new.flatten vs ∧ ones new.flatten ∧ (∀ c ∈ new, c.length = n) ∧ vs.length = new.length * n := by
  obtain ⟨vs, h1, h2, h3, h4, h5, h6⟩ := src_ok (P := P) h hy he
  refine ⟨vs, h1, fun w' hw' => ?_, h3, h4, h5, h6⟩
  by_cases hs : ∃ s, y = .str s
  · obtain ⟨s, rfl⟩ := hs
    cases hy
    simp only [Builtin.firstCells, Sem.run_pure, Result.ok.injEq, and_true] at h2 ⊢
    exact h2
  · obtain ⟨a, cap, vs', rfl, _, k1, k2, k3, k4, k5, k6⟩ := elems_ok h hy he (fun s e => hs ⟨s, e⟩)
    cases a with
    | none =>
      simp only [Builtin.firstCells, Sem.run_pure, Result.ok.injEq, and_true] at h2 ⊢
      exact h2
    | some a =>
      obtain ⟨_, h7⟩ := k2 a rfl
      have a1 := run_loadCells_list (P := P) w a vs' h7
      have a2 := run_loadCells_list (P := P) w' a vs' (fun j v hj => by rw [heap_cell hw']; exact h7 j v hj)
      rw [k4] at a1 a2
      simp only [Builtin.firstCells] at h2 ⊢
      rw [a1] at h2
      rw [a2]
      simp at h2
      rw [h2]
theorem sim_app {sT xT elem rt : TypeId} {ei : TypeInfo} {zv : Value} {n bytes : Nat} {k : SK} {es new : List (List T)} {y t : T} {vx vy : Value} {H' : Heap} (E : ElemOk P sT xT elem ei zv n bytes)
    (h : SR w0 g H w) (hx : VR g w (.sl k es) vx) (hy : VR g w y vy) (hall : es.all (·.length == n) = true) (hsrc : elemsOf H n y = some new) (he : appT H bytes k es new = some (t, H')) :
    Sim P w0 g H w (Builtin.append_ #[sT, xT] rt #[vx, vy]) t H' := by
  obtain ⟨vs, s1, s2, s3, s4, s5, s6⟩ := src_ok' (P := P) h hy hsrc
  obtain ⟨a, cap, old, rfl, hcap, x1, x2, x3, x4, x5, x6⟩ := elems_ok (n := n) (es := es) h hx (by simp only [elemsOf, hall, if_true]) (fun s e => by cases e)
  have hcap : es.length ≤ cap := hcap
  cases hnew : new with
  | nil =>
    subst hnew
    simp only [appT, Option.some.injEq, Prod.mk.injEq] at he
    obtain ⟨rfl, rfl⟩ := he
    have hvs : vs = [] := by simpa using s6
    subst hvs
    exact Sim.same h (run_append_in0 E s1 (s2 w rfl) hcap) hx
  | cons c0 new0 =>
    have hlen : 0 < new.length := by rw [hnew]; simp
    rw [hnew] at he
    simp only [appT] at he
    rw [← hnew] at he
    split at he
    · rename_i hroom
      have hns : ∀ c ∈ es ++ new.map (·.map T.erase), c.length = n := by
        intro c hc
        rcases List.mem_append.1 hc with hc | hc
        · exact x6 c hc
        · obtain ⟨c', h1, rfl⟩ := List.mem_map.1 hc
          rw [List.length_map]; exact s5 c' h1
      have hfl : (es ++ new.map (·.map T.erase)).flatten = es.flatten ++ new.flatten.map T.erase := by rw [List.flatten_append, flatten_map_erase]
      have hll : (es ++ new.map (·.map T.erase)).length = es.length + new.length := by simp
      have ho : ones (es ++ new.map (·.map T.erase)).flatten := by
        rw [hfl]; intro t ht
        rcases List.mem_append.1 ht with ht | ht
        · exact x5 t ht
        · exact ones_erase s4 t ht
      have hvl : (old ++ vs).length = (es.length + new.length) * n := by rw [List.length_append, x4, s6, Nat.add_mul]
      have grow : ∀ (t' e' : Nat) (Hn : Heap), cap < es.length + new.length → Hn[t']? = some (.tok e') → (∀ e'', e' ≤ e'' → g.π t' e'' = none) → (∀ b' x, b' ≠ t' → Hn[b']? = some x → H[b']? = some x) → H.length ≤ Hn.length →
          (∀ (b' : Nat) (x : B), H[b']? = some x → (∀ e : Nat, x ≠ .tok e) → Hn[b']? = some x) → Sim P w0 g H w (Builtin.append_ #[sT, xT] rt #[.slice a es.length cap, vy]) (.sl (.own t' e') (es ++ new.map (·.map T.erase))) Hn := by
        intro t' e' Hn hout k1 k2 k3 k4 k5
        have hfo : ∀ w' : World, w'.heap = w.heap → (Builtin.firstCells n es.length (.slice a es.length cap)).run P w' = .ok old.toArray w' := by
          intro w' hw'
          cases a with
          | none =>
            have := (x1 rfl).1
            subst this
            have : old = [] := by simpa using x4
            subst this
            simp [Builtin.firstCells]
          | some a =>
            obtain ⟨_, h7⟩ := x2 a rfl
            have := run_loadCells_list (P := P) w' a old (fun j v hj => by rw [heap_cell hw']; exact h7 j v hj)
            rw [x4] at this
            simpa [Builtin.firstCells] using this
        obtain ⟨newCap, rest, hc1, hc2, hrun⟩ := run_append_out (rt := rt) (w := w) E s1 s2 hfo hout hroom
        have hsz : (old ++ vs ++ rest).toArray.size = newCap * n := by
          simp only [List.size_toArray]
          rw [List.length_append, hvl, hc2, ← Nat.add_mul]; congr 1; omega
        obtain ⟨le, sr, fr, imm, hp⟩ := h.tokNew (c := (old ++ vs ++ rest).toArray) (ty := elem) (k := (es.length + new.length) * n) (drew_tr w) rfl k1 (by rw [hsz]; exact Nat.mul_le_mul_right _ hc1) k2 k3 k4 k5
        refine ⟨_, _, _, hrun, le, sr, ?_, fr⟩
        have hv : VRs g w (es ++ new.map (·.map T.erase)).flatten (old ++ vs) := by rw [hfl]; exact VRs.append x3 s3.erase
        have := VR.of_row (k := .own t' e') (r := w.heap.size) (o := 0) (cap := newCap) hns (hv.mono le) ho (by rw [hll]; exact hc1) ⟨by rw [hp, hll, hsz]; simp, by rw [hll]; omega⟩ (fun j v hj => ?_)
        · rw [hll] at this; exact this
        · have hlt : j < (old ++ vs).length := (List.getElem?_eq_some_iff.1 hj).1
          rw [Nat.zero_add]
          refine imm j v (by omega) ?_
          rw [List.getElem?_toArray, List.getElem?_append_left hlt]; exact hj
      cases k with
      | nil =>
        simp only [Option.some.injEq, Prod.mk.injEq] at he
        obtain ⟨rfl, rfl⟩ := he
        have hc0 : cap < es.length + new.length := by
          cases hx with
          | slnil => simpa using hlen
          | sl vals hk => exact hk.elim
        exact grow H.length _ _ hc0 (get_tail _ _) (fun e'' _ => h.noπ (Nat.le_refl _)) (fun b' x e hx => get_tail_ne e hx) (by simp) (fun b' x hx _ => get_old hx)
      | full =>
        simp only [Option.some.injEq, Prod.mk.injEq] at he
        obtain ⟨rfl, rfl⟩ := he
        have hc0 : cap < es.length + new.length := by
          cases hx with
          | sl vals hk => simp only [KOk] at hk; omega
        exact grow H.length _ _ hc0 (get_tail _ _) (fun e'' _ => h.noπ (Nat.le_refl _)) (fun b' x e hx => get_tail_ne e hx) (by simp) (fun b' x hx _ => get_old hx)
      | arg => cases he
      | own t0 e0 =>
        cases ht : H[t0]? with
        | none => simp [ht] at he
        | some bt =>
          cases bt with
          | tok e1 =>
            simp only [ht] at he
            split at he
            · rename_i hee
              subst hee
              simp only [Option.some.injEq, Prod.mk.injEq] at he
              obtain ⟨rfl, rfl⟩ := he
              have htl : t0 < H.length := (List.getElem?_eq_some_iff.1 ht).1
              obtain ⟨r1, p1, q1, hp1, hpq, hsp, hlast⟩ := h.blk t0 _ ht
              by_cases hfit : es.length + new.length ≤ cap
              · -- in place
                cases hx with
                | @sl _ _ r o _ n' vals hk hc hn h3 h4 =>
                  simp only [KOk] at hk
                  obtain ⟨hk1, hk2⟩ := hk
                  have hnn : n' = n := by
                    cases es with
                    | nil => simp at hk2
                    | cons c es => rw [← hn c (by simp), x6 c (by simp)]
                  subst hnn
                  rw [hp1] at hk1
                  simp only [Option.some.injEq, Prod.mk.injEq] at hk1
                  obtain ⟨rfl, rfl, rfl⟩ := hk1
                  have hroomq : o + es.length * n' + vs.length ≤ o + cap * n' := by
                    rw [s6, Nat.add_assoc, ← Nat.add_mul]
                    exact Nat.add_le_add_left (Nat.mul_le_mul_right _ hfit) _
                  obtain ⟨le, sr, fr, imm⟩ := h.tokIn (m := new.length) (vs := vs) ht hp1 hlen hroomq
                  have hst := run_storeCells_cells (P := P) r1 (o + es.length * n') vs 0 w (fun j hj => by simpa using (hsp (o + es.length * n' + j) (by omega) (by omega)).2.2) (fun j hj => (hsp (o + es.length * n' + j) (by omega) (by omega)).2.1 _) (s3.oneCell s4)
                  rw [Nat.add_zero] at hst
                  have hrun := run_append_in (rt := rt) (cap := cap) E s1 (s2 w rfl) hfit hst
                  refine ⟨_, _, _, hrun, le, sr, ?_, fr⟩
                  have hv : VRs g w (es ++ new.map (·.map T.erase)).flatten (old ++ vs) := by rw [hfl]; exact VRs.append x3 s3.erase
                  have himm0 : ∀ (j : Nat) (v : Value), old[j]? = some v → Imm g w r1 (o + j) v := by
                    intro j v hj
                    have hlt : j < es.length * n' := by rw [← x4]; exact (List.getElem?_eq_some_iff.1 hj).1
                    obtain ⟨_, h7⟩ := x2 _ rfl
                    have hcell := h7 j v hj
                    rw [add_mk] at hcell
                    have hnpos : 0 < n' := by
                      rcases Nat.eq_zero_or_pos n' with e | e
                      · subst e; simp at hlt
                      · exact e
                    have hi : j / n' < es.length := Nat.div_lt_of_lt_mul (by rw [Nat.mul_comm]; exact hlt)
                    have e1 : es[j / n']? = some es[j / n'] := List.getElem?_eq_getElem hi
                    have hm : j % n' < (es[j / n']).length := by rw [x6 _ (List.getElem_mem hi)]; exact Nat.mod_lt _ hnpos
                    have := (h3 (j / n') (j % n') _ _ e1 (List.getElem?_eq_getElem hm)).2
                    have ee : o + j / n' * n' + j % n' = o + j := by rw [Nat.add_assoc, Nat.mul_comm, Nat.div_add_mod]
                    rw [ee] at this
                    exact ⟨this.1, hcell⟩
                  have := VR.of_row (k := .own t0 (e0 + new.length)) (r := r1) (o := o) (cap := cap) hns (hv.mono le) ho (by rw [hll]; exact hfit) ⟨by rw [hll]; simp [Ctx.tok, s6, Nat.add_mul, Nat.add_assoc], by rw [hll]; omega⟩ (fun j v hj => ?_)
                  · rw [hll] at this; exact this
                  · rw [List.getElem?_append] at hj
                    split at hj
                    · exact (himm0 j v hj).mono le
                    · rename_i hge
                      have := imm _ v hj
                      rw [x4] at this hge
                      rwa [show o + es.length * n' + (j - es.length * n') = o + j by omega] at this
              · exact grow t0 (e0 + new.length) _ (by omega) (by simp [htl]) (fun e'' he => hlast e'' (by omega)) (fun b' x hne hx => by
                    rcases set_get htl hx with ⟨e, _⟩ | ⟨_, hx'⟩
                    · exact absurd e hne
                    · exact hx') (by simp) (fun b' x hbx hne => set_ne hbx (by rintro rfl; rw [ht] at hbx; cases hbx; exact absurd rfl (hne e0)))
            · cases he
          | cells _ => simp [ht] at he
          | map _ => simp [ht] at he
          | _ => simp [ht] at he
    · cases he
end
end Go.Rmp
end

section
namespace Go.Rmp
section
variable {P : Program} {w0 w : World} {g : Ctx} {H : Heap}
theorem SR.mutIn {b r o q : Nat} {cs ts : List T} {vs : List Value} (h : SR w0 g H w) (hb : H[b]? = some (.cells cs)) (hφ : g.φ b = some (r, o, q)) (hv : VRs g w ts vs) (ho : ones ts) (hfit : o + cs.length + ts.length ≤ q) :
    let g' := ((g.row r fun j => if o ≤ j ∧ j < q then .mut H.length else g.κ r j).at H.length (r, o, q))
    Le g w g' (w.setCells r (o + cs.length) vs) ∧ SR w0 g' (H.set b .dead ++ [.cells (cs ++ ts)]) (w.setCells r (o + cs.length) vs) ∧ Fr g H g' (H.set b .dead ++ [.cells (cs ++ ts)]) := by
  intro g'
  have hbl : b < H.length := (List.getElem?_eq_some_iff.1 hb).1
  obtain ⟨h1, h2, h3⟩ := h.blk b _ hb r o q hφ
  have hl := hv.1
  have hs : ∀ j, o + cs.length ≤ j → j < o + cs.length + vs.length → (w.cell? ⟨r, j, none⟩).isSome = true := fun j a c => (h2 j (by omega) (by omega)).2.2
  have tr := Tr.setCells w r (o + cs.length) vs hs
  have hS : ∀ r' j, inRow r (o + cs.length) vs.length r' j → g.κ r' j = .mut b := by
    rintro r' j ⟨rfl, a, c⟩; exact (h2 j (by omega) (by omega)).1
  have hκ : ∀ r' j, g'.κ r' j = if r' = r ∧ o ≤ j ∧ j < q then .mut H.length else g.κ r' j := by
    intro r' j
    simp only [g', Ctx.at, Ctx.row]
    by_cases e : r' = r
    · subst e; simp
    · simp [e]
  have hφ' : ∀ b', g'.φ b' = if b' = H.length then some (r, o, q) else g.φ b' := fun b' => rfl
  have le : Le g w g' (w.setCells r (o + cs.length) vs) := Le.of_tr tr
    (fun b' x hx => by rw [hφ']; split; rename_i e; rw [e, h.noφ (Nat.le_refl _)] at hx; cases hx; exact hx)
    (fun r' j hk => by rw [hκ]; split; rename_i c; obtain ⟨rfl, a, c⟩ := c; rw [(h2 j a c).1] at hk; cases hk; exact hk) (fun _ _ _ h => h) (fun r' j hs' e => by rw [hS r' j hs'] at e; cases e)
  refine ⟨le, h.step (fun b' => b' = b ∨ b' = H.length) tr le (fun r' j hs' => .inr (.inl ⟨b, hS r' j hs', .inl rfl⟩)) (fun _ hm => hm.elim) (fun r' j hr => ?_) (fun b' x hx => ?_) (fun t e x hx => ?_) (fun b' hb' hn => ?_) (fun r' j b' hn => ?_) (fun _ _ _ _ => rfl) (fun b' x hx => ?_), ?_, fun b' x a c d => ?_⟩
  · rw [size_setCells] at hr
    rw [hκ]; split
    · rename_i c; obtain ⟨rfl, a, c⟩ := c
      have := h.fresh r' j hr
      rw [(h2 j a c).1] at this; cases this
    · exact h.fresh r' j hr
  · rw [hφ'] at hx
    simp only [List.length_append, List.length_set, List.length_singleton]
    split at hx
    · omega
    · have := h.dom b' x hx; omega
  · simp only [List.length_append, List.length_set, List.length_singleton]
    have := h.domt t e x hx; omega
  · rw [hφ', if_neg (by omega)]
  · constructor <;> intro e <;> rw [hκ] <;> split
    · rename_i c; obtain ⟨rfl, a, c⟩ := c; rw [(h2 j a c).1] at e; cases e; exact absurd (.inl rfl) hn
    · exact e
    · rename_i c; obtain ⟨rfl, a, c⟩ := c; rw [(h2 j a c).1] at e; cases e
    · exact e
  · by_cases e : b' = H.length
    · right
      subst e
      have hx' : x = .cells (cs ++ ts) := by
        have : (H.set b B.dead ++ [.cells (cs ++ ts)])[H.length]? = some (.cells (cs ++ ts)) := by
          rw [List.getElem?_append_right (by simp)]; simp
        rw [this] at hx; cases hx; rfl
      subst hx'
      intro r' o' q' hq
      rw [hφ', if_pos rfl] at hq
      simp only [Option.some.injEq, Prod.mk.injEq] at hq
      obtain ⟨rfl, rfl, rfl⟩ := hq
      refine ⟨by rw [List.length_append]; omega, fun j a c => ⟨by rw [hκ]; simp [a, c], fun j0 => by rw [World.frozen?_setCells]; exact (h2 j a c).2.1 j0, tr.keep r j ?_ (h2 j a c).2.2⟩, fun i t hi => ?_⟩
      · obtain ⟨x, hx⟩ := Option.isSome_iff_exists.1 (h2 j a c).2.2; exact cell_lt hx
      · rw [List.getElem?_append] at hi
        split at hi
        · rename_i hlt
          obtain ⟨a, v, hv1, hv2⟩ := h3 i t hi
          exact ⟨a, v, by rw [cell_setCells r vs _ w r (o + i) (by omega)]; exact hv1, hv2.mono le⟩
        · rename_i hge
          have hlt : i - cs.length < vs.length := by rw [← hl]; exact (List.getElem?_eq_some_iff.1 hi).1
          refine ⟨ho t (List.mem_of_getElem? hi), _, ?_, (hv.2 _ t _ hi (List.getElem?_eq_getElem hlt)).mono le⟩
          have := cell_setCells_in r vs (o + cs.length) w hs (i - cs.length) _ (List.getElem?_eq_getElem hlt)
          rwa [show o + cs.length + (i - cs.length) = o + i by omega] at this
    · have hx1 : (H.set b B.dead)[b']? = some x := get_tail_ne (by simpa using e) hx
      rcases set_get hbl hx1 with ⟨rfl, rfl⟩ | ⟨hne, hx'⟩
      · right; trivial
      · exact .inl ⟨by rintro (h | h); exact hne h; exact e h, hx'⟩
  · simp
  · have hlt : b' < H.length := (List.getElem?_eq_some_iff.1 a).1
    have hne : b' ≠ b := by rintro rfl; rw [hφ] at d; cases d
    exact ⟨get_old (set_ne a hne), by rw [hφ', if_neg (by omega)]; exact d⟩
theorem slice_of {x : T} {vx : Value} (hx : VR g w x vx) (hk : isSlT x = true) : ∃ (a : Option Addr) (l c : Nat), vx = .slice a l c ∧ l ≤ c := by
  cases hx with
  | slnil => exact ⟨_, _, _, rfl, Nat.le_refl _⟩
  | slarg => exact ⟨_, _, _, rfl, Nat.le_refl _⟩
  | sl vals hk' hc hn h1 h2 => exact ⟨_, _, _, rfl, hc⟩
  | msl h hc hq => exact ⟨_, _, _, rfl, hc⟩
  | _ => simp [isSlT] at hk
theorem sim_appm {sT xT elem rt : TypeId} {ei : TypeInfo} {zv : Value} {n bytes : Nat} {x y t : T} {new : List (List T)} {vx vy : Value} {H' : Heap} (E : ElemOk P sT xT elem ei zv n bytes)
    (h : SR w0 g H w) (hx : VR g w x vx) (hy : VR g w y vy) (hsrc : elemsOf H n y = some new) (he : appM H n bytes x new = some (t, H')) :
    Sim P w0 g H w (Builtin.append_ #[sT, xT] rt #[vx, vy]) t H' := by
  obtain ⟨vs, s1, s2, s3, s4, s5, s6⟩ := src_ok' (P := P) h hy hsrc
  have hvl := flatten_len new s5
  cases hnew : new with
  | nil =>
    subst hnew
    simp only [appM] at he
    split at he
    case isFalse => cases he
    rename_i hk
    simp only [Option.some.injEq, Prod.mk.injEq] at he
    obtain ⟨rfl, rfl⟩ := he
    have hvs : vs = [] := by simpa using s6
    subst hvs
    have : ∃ a l c, vx = .slice a l c ∧ l ≤ c := slice_of hx hk
    obtain ⟨a, l, c, rfl, hlc⟩ := this
    exact Sim.same h (run_append_in0 E s1 (s2 w rfl) hlc) hx
  | cons c0 new0 =>
    have hlen : 0 < new.length := by rw [hnew]; simp
    rw [hnew] at he
    simp only [appM] at he
    rw [← hnew] at he
    have empty : ∀ (a : Option Addr), vx = .slice a 0 0 → roomOk (0 + new.length) bytes = true → t = .msl H.length 0 new.length n → H' = H ++ [.cells new.flatten] → Sim P w0 g H w (Builtin.append_ #[sT, xT] rt #[vx, vy]) t H' := by
      rintro a rfl hroom rfl rfl
      have ho0 : ∀ w' : World, w'.heap = w.heap → (Builtin.firstCells n 0 (.slice a 0 0)).run P w' = .ok ([] : List Value).toArray w' := by
        intro w' _
        cases a with
        | none => simp [Builtin.firstCells]
        | some a => simpa [Builtin.firstCells] using run_loadCells_list (P := P) w' a [] (by simp)
      obtain ⟨newCap, rest, hc1, hc2, hrun⟩ := run_append_out (rt := rt) (w := w) E s1 s2 ho0 (by omega) hroom
      have hsz : (([] : List Value) ++ vs ++ rest).toArray.size = newCap * n := by
        simp only [List.size_toArray, List.nil_append]
        rw [List.length_append, s6, hc2, ← Nat.add_mul]; congr 1; omega
      have hcell : ∀ (i : Nat) (t : T), new.flatten[i]? = some t → t.one = true ∧ ∃ v, (([] : List Value) ++ vs ++ rest).toArray[i]? = some v ∧ VR g w t v := by
        intro i t hi
        obtain ⟨v, h1, h2⟩ := s3.get_arr i t hi
        refine ⟨s4 t (List.mem_of_getElem? hi), v, ?_, h2⟩
        simp only [List.nil_append, List.getElem?_toArray] at h1 ⊢
        rw [List.getElem?_append_left (List.getElem?_eq_some_iff.1 h1).1]; exact h1
      obtain ⟨g', le, sr, fr, hφ⟩ := h.fresh_mut (c := ([] ++ vs ++ rest).toArray) (ty := elem) (cs := new.flatten) (drew_tr w) rfl hcell
      refine ⟨_, _, g', hrun, le, sr, ?_, fr⟩
      rw [Nat.zero_add] at hc1 ⊢
      exact .msl (r := w.heap.size) (o := 0) (off := 0) hφ hc1 (by rw [hsz]; simp)
    cases x with
    | sl k es =>
      cases k with
      | nil =>
        simp only at he
        split at he
        · rename_i hc
          obtain ⟨hroom, rfl⟩ := hc
          simp only [Option.some.injEq, Prod.mk.injEq] at he
          cases hx with
          | slnil => exact empty none rfl (by simpa using hroom) he.1.symm he.2.symm
          | sl vals hk => exact hk.elim
        · cases he
      | full =>
        simp only at he
        split at he
        · rename_i hc
          obtain ⟨hroom, rfl⟩ := hc
          simp only [Option.some.injEq, Prod.mk.injEq] at he
          cases hx with
          | sl vals hk =>
            simp only [KOk, List.length_nil] at hk
            subst hk
            exact empty _ rfl (by simpa using hroom) he.1.symm he.2.symm
        · cases he
      | arg => cases he
      | own _ _ => cases he
    | msl b off len n' =>
      simp only at he
      cases hb : H[b]? with
      | none => simp [hb] at he
      | some z =>
        cases z with
        | cells cs =>
          simp only [hb] at he
          split at he
          · rename_i hc
            obtain ⟨rfl, rfl, hcs, hroom⟩ := hc
            simp only [Option.some.injEq, Prod.mk.injEq] at he
            obtain ⟨rfl, rfl⟩ := he
            cases hx with
            | @msl _ _ _ _ r o q cap hφ hcap hq =>
              obtain ⟨h1, h2, h3⟩ := h.blk b _ hb r o q hφ
              have hbl : b < H.length := (List.getElem?_eq_some_iff.1 hb).1
              by_cases hfit : len + new.length ≤ cap
              · have hq' : o + cs.length + new.flatten.length ≤ q := by
                  rw [hvl, ← hcs, ← hq, Nat.add_assoc, ← Nat.add_mul]
                  have := Nat.mul_le_mul_right n' hfit
                  omega
                obtain ⟨le, sr, fr⟩ := h.mutIn hb hφ s3 s4 hq'
                have hvs : vs.length = new.flatten.length := by rw [s6, hvl]
                have hst := run_storeCells_cells (P := P) r (o + 0 + len * n') vs 0 w (fun j hj => by simpa using (h2 (o + len * n' + j) (by omega) (by omega)).2.2) (fun j hj => (h2 (o + len * n' + j) (by omega) (by omega)).2.1 _) (s3.oneCell s4)
                rw [Nat.add_zero] at hst
                have hrun := run_append_in (rt := rt) (cap := cap) E s1 (s2 w rfl) hfit hst
                rw [hcs] at hrun
                refine ⟨_, _, _, hrun, le, sr, ?_, fr⟩
                exact .msl (off := 0) (r := r) (o := o) (q := q) (by simp [Ctx.at]) hfit (by rw [← hq])
              · have hp : ldc H (len * n') (.ptr b 0) = some cs := by simp [ldc, hb, hcs]
                obtain ⟨r', o', old, e1, e2, e3, e4, e5⟩ := ldc_ok h (.ptr hφ) hp
                cases e1
                have hfo : ∀ w' : World, w'.heap = w.heap → (Builtin.firstCells n' len (.slice (some ⟨r, o + 0, none⟩) len cap)).run P w' = .ok old.toArray w' := by
                  intro w' hw'
                  have := run_loadCells_list (P := P) w' ⟨r, o + 0, none⟩ old (fun j v hj => by rw [heap_cell hw', add_mk]; exact e3 j v hj)
                  rw [e2] at this
                  simpa [Builtin.firstCells] using this
                obtain ⟨newCap, rest, hc1, hc2, hrun⟩ := run_append_out (rt := rt) (w := w) E s1 s2 hfo (by omega) hroom
                have hsz : (old ++ vs ++ rest).toArray.size = newCap * n' := by
                  simp only [List.size_toArray]
                  rw [List.length_append, List.length_append, e2, s6, hc2, ← Nat.add_mul, ← Nat.add_mul]; congr 1; omega
                have hvall : VRs g w (cs ++ new.flatten) (old ++ vs) := VRs.append e4 s3
                obtain ⟨le, sr, fr⟩ := h.mut (c := (old ++ vs ++ rest).toArray) (ty := elem) (H' := H.set b .dead ++ [.cells (cs ++ new.flatten)]) (b := H.length) (cs := cs ++ new.flatten) (drew_tr w) rfl
                  (by rw [List.getElem?_append_right (by simp)]; simp) (h.noφ (Nat.le_refl _))
                  (fun b' x hne hx => by
                    have hx1 : (H.set b B.dead)[b']? = some x := get_tail_ne (by simpa using hne) hx
                    rcases set_get hbl hx1 with ⟨_, rfl⟩ | ⟨_, hx'⟩
                    · exact .inr rfl
                    · exact .inl hx') (by simp)
                  (fun b' x a _ d _ => get_old (set_ne a (by rintro rfl; rw [hφ] at d; cases d)))
                  (fun i t hi => by
                    obtain ⟨v, k1, k2⟩ := hvall.get_arr i t hi
                    refine ⟨?_, v, ?_, k2⟩
                    · rcases List.mem_append.1 (List.mem_of_getElem? hi) with hm | hm
                      · exact e5 t hm
                      · exact s4 t hm
                    · simp only [List.getElem?_toArray] at k1 ⊢
                      rw [List.getElem?_append_left (List.getElem?_eq_some_iff.1 k1).1]; exact k1)
                refine ⟨_, _, _, hrun, le, sr, .msl (r := w.heap.size) (o := 0) (off := 0) (q := (old ++ vs ++ rest).toArray.size) (by simp [Ctx.at]) hc1 (by rw [hsz]; simp), by simp, fun b' x a c d => fr b' x a c d (by have := (List.getElem?_eq_some_iff.1 a).1; omega)⟩
          · cases he
        | map _ => simp [hb] at he
        | tok _ => simp [hb] at he
        | _ => simp [hb] at he
    | _ => simp at he
theorem foldl_set : ∀ (vs : List Value) (k off : Nat) (cells : Array Value), off + k + vs.length ≤ cells.size →
    ((vs.zipIdx k).foldl (fun (cs : Array Value) (x : Value × Nat) => cs.setIfInBounds (off + x.2) x.1) cells).toList = cells.toList.take (off + k) ++ vs ++ cells.toList.drop (off + k + vs.length)
  | [], k, off, cells, _ => by simp
  | v :: vs, k, off, cells, h => by
    simp only [List.length_cons] at h
    rw [List.zipIdx_cons, List.foldl_cons, foldl_set vs (k + 1) off _ (by simp; omega)]
    simp only [Array.toList_setIfInBounds, List.length_cons]
    have hlt : off + k < cells.toList.length := by simp; omega
    rw [show off + (k + 1) = off + k + 1 by omega, List.take_add_one]
    rw [show off + k + 1 + vs.length = off + k + (vs.length + 1) by omega]
    rw [List.take_set_of_le (Nat.le_refl _), List.getElem?_set_self hlt, List.drop_set_of_lt (by omega)]
    simp
theorem fill_step {off size : Nat} {v : Value} {cells : Array Value} (hs : v.cells.size = size) (hle : off + size ≤ cells.size) :
    (v.cells.zipIdx.foldl (fun (cs : Array Value) (x : Value × Nat) => cs.setIfInBounds (off + x.2) x.1) cells).toList = cells.toList.take off ++ v.cells.toList ++ cells.toList.drop (off + size) := by
  have := foldl_set v.cells.toList 0 off cells (by simp [hs]; omega)
  rw [← Array.foldl_toList, Array.toList_zipIdx]
  simpa [hs] using this
def placesOf (P : Program) : List Field → List (Nat × Nat)
  | [] => []
  | f :: fs => (f.offset, P.cellsOf f.type) :: placesOf P fs
theorem run_places {fs : List Field} (hi : ∀ f ∈ fs, ∃ i, P.info? f.type = some i) : (fs.mapM fun f => do pure (f.offset, ← sizeOf f.type) : Sem (List (Nat × Nat))).run P w = .ok (placesOf P fs) w := by
  induction fs with
  | nil => simp [placesOf]
  | cons f fs ih =>
    obtain ⟨i, hf⟩ := hi f (by simp)
    have ih := ih (fun f' h' => hi f' (by simp [h']))
    have h0 : (sizeOf f.type).run P w = .ok i.size w := by simp [sizeOf, run_ti hf]
    rw [List.mapM_cons]
    simp only [Sem.run_bind, h0, Result.andThen_ok, Sem.run_pure, ih]
    simp [placesOf, Program.cellsOf, hf]
inductive PV (g : Ctx) (w : World) (R : Regs) : List (Nat × X) → List (Nat × Value) → Prop
  | nil : PV g w R [] []
  | cons {i : Nat} {x : X} {v : Value} {ps : List (Nat × X)} {pv : List (Nat × Value)} (h : VR g w (x.ev R) v) (hs : PV g w R ps pv) : PV g w R ((i, x) :: ps) ((i, v) :: pv)
theorem fill_ok {R : Regs} {place : Nat → Option (Nat × Nat)} {ps : List (Nat × X)} {pv : List (Nat × Value)} (hv : PV g w R ps pv) : ∀ (l : List (Nat × List T)) (z cs : List T) (cells : Array Value), (∀ p ∈ ps, (place p.1).isSome = true) →
    partsT R (ps.map fun p => (((place p.1).getD (0, 0)).1, ((place p.1).getD (0, 0)).2, p.2)) = some l → fillT z l = some cs → VRs g w z cells.toList → ones z →
    ∃ cells', Instr.fill place cells pv = some cells' ∧ VRs g w cs cells'.toList ∧ ones cs ∧ cells'.size = cells.size := by
  induction hv with
  | nil =>
    intro l z cs cells hp hl hf hz ho
    simp [partsT] at hl; subst hl
    simp [fillT] at hf; subst hf
    exact ⟨cells, rfl, hz, ho, rfl⟩
  | @cons i x v ps pv hvx _ ih =>
    intro l z cs cells hp hl hf hz ho
    have hpp := hp (i, x) (by simp)
    cases hpl : place i with
    | none => simp [hpl] at hpp
    | some os =>
      obtain ⟨off, size⟩ := os
      simp only [List.map_cons, hpl, Option.getD_some] at hl
      simp only [partsT] at hl
      cases hc : (x.ev R).cells? with
      | none => simp [hc] at hl
      | some c =>
        cases hr : partsT R (ps.map fun p => (((place p.1).getD (0, 0)).1, ((place p.1).getD (0, 0)).2, p.2)) with
        | none => simp [hc, hr] at hl
        | some l' =>
          simp only [hc, hr] at hl
          split at hl
          · rename_i hcl
            simp at hl; subst hl
            simp only [fillT] at hf
            split at hf
            · rename_i hle
              obtain ⟨hvc, hoc⟩ := cells?_ok hvx hc
              have hsz : v.cells.size = size := by have := hvc.1; simp at this; omega
              have hzl : z.length = cells.size := by have := hz.1; simpa using this
              have hle' : off + size ≤ cells.size := by omega
              have hstep := fill_step hsz hle'
              have hz' : VRs g w (z.take off ++ c ++ z.drop (off + c.length)) (v.cells.zipIdx.foldl (fun (cs : Array Value) (x : Value × Nat) => cs.setIfInBounds (off + x.2) x.1) cells).toList := by
                rw [hstep, hcl]
                exact VRs.append (VRs.append (hz.take off) hvc) (hz.drop (off + size))
              have ho' : ones (z.take off ++ c ++ z.drop (off + c.length)) := by
                intro t ht
                rcases List.mem_append.1 ht with ht | ht
                · rcases List.mem_append.1 ht with ht | ht
                  · exact ho t (List.mem_of_mem_take ht)
                  · exact hoc t ht
                · exact ho t (List.mem_of_mem_drop ht)
              obtain ⟨cells', k1, k2, k3, k4⟩ := ih l' _ cs _ (fun x hx => hp x (by simp [hx])) hr hf hz' ho'
              refine ⟨cells', ?_, k2, k3, ?_⟩
              · simp only [Instr.fill, hpl]
                rw [if_neg]
                · exact k1
                · simp [hsz]; omega
              · rw [k4]
                have := congrArg List.length hstep
                simp only [Array.length_toList, List.length_append, List.length_take, List.length_drop] at this
                omega
            · cases hf
          · cases hl
theorem sim_build {ty : TypeId} {fs : Array Field} {i : TypeInfo} {zv : Value} {R : Regs} {ps : List (Nat × X)} {pv : List (Nat × Value)} {z cs : List T} {l : List (Nat × List T)} (hu : P.underlying ty = some (.struct fs)) (hi : P.info? ty = some i) (hz : i.zero = some zv) (hzc : constL zv.cells.toList = some z)
    (hfs : ∀ f ∈ fs.toList, ∃ i, P.info? f.type = some i) (hp : ∀ p ∈ ps, p.1 < fs.size) (h : SR w0 g H w) (hv : PV g w R ps pv)
    (hl : partsT R (ps.map fun p => ((((placesOf P fs.toList)[p.1]?).getD (0, 0)).1, (((placesOf P fs.toList)[p.1]?).getD (0, 0)).2, p.2)) = some l) (hf : fillT z l = some cs) :
    Sim P w0 g H w (Instr.build ty pv.toArray) (.agg cs) H := by
  obtain ⟨hzv, hzo⟩ := constL_ok (g := g) (w := w) _ _ hzc
  have hlen : ∀ l : List Field, (placesOf P l).length = l.length := by
    intro l; induction l with
    | nil => rfl
    | cons f l ih => simp [placesOf, ih]
  have hp' : ∀ p ∈ ps, ((placesOf P fs.toList)[p.1]?).isSome = true := fun p hpm => by
    have := hp p hpm
    rw [List.getElem?_eq_getElem (by rw [hlen]; simpa using this)]; rfl
  obtain ⟨cells', k1, k2, k3, _⟩ := fill_ok (place := fun (i : Nat) => (placesOf P fs.toList)[i]?) hv l z cs zv.cells hp' hl hf hzv hzo
  refine Sim.same h (v := .agg cells') ?_ (by have := k2.agg k3; simpa using this)
  have hpl : (fs.mapM fun f => do pure (f.offset, ← sizeOf f.type) : Sem (Array (Nat × Nat))).run P w = .ok (placesOf P fs.toList).toArray w := by
    rw [Array.mapM_eq_mapM_toList]
    simp only [Sem.run_map, run_places hfs, Result.andThen_ok]
  simp only [Instr.build, zeroValue, Sem.run_bind, run_ti hi, hz, Result.andThen_ok, Sem.run_pure, run_underlying hu, hpl]
  have e : (fun (x : Nat) => (placesOf P fs.toList).toArray[x]?) = fun (i : Nat) => (placesOf P fs.toList)[i]? := by funext x; simp
  simp [e, k1]
end
end Go.Rmp
end

section
namespace Go.Rmp
section
variable {P : Program} {w0 w : World} {g : Ctx} {H : Heap}
theorem flatten_set {n : Nat} : ∀ (es : List (List T)) (i : Nat) (c : List T), (∀ c ∈ es, c.length = n) → i < es.length → (es.set i c).flatten = es.flatten.take (i * n) ++ c ++ es.flatten.drop (i * n + n)
  | [], i, c, _, h => by simp at h
  | d :: es, 0, c, hn, _ => by
    have hd := hn d (by simp)
    simp [← hd]
  | d :: es, i + 1, c, hn, h => by
    have hd := hn d (by simp)
    have ih := flatten_set es i c (fun c hc => hn c (by simp [hc])) (by simpa using h)
    simp only [List.set_cons_succ, List.flatten_cons, ih]
    have e1 : (d ++ es.flatten).take ((i + 1) * n) = d ++ es.flatten.take (i * n) := by
      rw [List.take_append, hd, Nat.succ_mul]
      rw [List.take_of_length_le (by omega)]
      congr 2; omega
    have e2 : (d ++ es.flatten).drop ((i + 1) * n + n) = es.flatten.drop (i * n + n) := by
      rw [List.drop_append, hd, Nat.succ_mul]
      rw [List.drop_of_length_le (by omega)]
      simp only [List.nil_append]
      congr 1; omega
    rw [e1, e2]; simp
theorem fillE_ok {R : Regs} {n : Nat} {ps : List (Nat × X)} {pv : List (Nat × Value)} (hv : PV g w R ps pv) : ∀ (es fs : List (List T)) (cells : Array Value), fillE n es R ps = some fs → (∀ c ∈ es, c.length = n) → VRs g w es.flatten cells.toList → ones es.flatten →
    ∃ cells', Instr.fill (fun i => some (i * n, n)) cells pv = some cells' ∧ VRs g w fs.flatten cells'.toList ∧ ones fs.flatten ∧ (∀ c ∈ fs, c.length = n) ∧ fs.length = es.length := by
  induction hv with
  | nil =>
    intro es fs cells he hn hz ho
    simp [fillE] at he; subst he
    exact ⟨cells, rfl, hz, ho, hn, rfl⟩
  | @cons i x v ps pv hvx _ ih =>
    intro es fs cells he hn hz ho
    simp only [fillE] at he
    cases hc : (x.ev R).cells? with
    | none => simp [hc] at he
    | some c =>
      simp only [hc] at he
      split at he
      · rename_i hcond
        obtain ⟨hcl, hi⟩ := hcond
        obtain ⟨hvc, hoc⟩ := cells?_ok hvx hc
        have hsz : v.cells.size = n := by have := hvc.1; simp at this; omega
        have hfl := flatten_len es hn
        have hzl : es.flatten.length = cells.size := by have := hz.1; simpa using this
        have hle : i * n + n ≤ cells.size := by
          rw [← hzl, hfl, ← Nat.succ_mul]; exact Nat.mul_le_mul_right _ hi
        have hstep := fill_step hsz hle
        have hset := flatten_set es i (c.map T.erase) hn hi
        have hz' : VRs g w (es.set i (c.map T.erase)).flatten (v.cells.zipIdx.foldl (fun (cs : Array Value) (x : Value × Nat) => cs.setIfInBounds (i * n + x.2) x.1) cells).toList := by
          rw [hstep, hset]
          exact VRs.append (VRs.append (hz.take _) hvc.erase) (hz.drop _)
        have ho' : ones (es.set i (c.map T.erase)).flatten := by
          rw [hset]
          intro t ht
          rcases List.mem_append.1 ht with ht | ht
          · rcases List.mem_append.1 ht with ht | ht
            · exact ho t (List.mem_of_mem_take ht)
            · exact ones_erase hoc t ht
          · exact ho t (List.mem_of_mem_drop ht)
        obtain ⟨cells', k1, k2, k3, k4, k5⟩ := ih _ fs _ he (fun c' hc' => by
          rcases List.mem_or_eq_of_mem_set hc' with h | h
          · exact hn c' h
          · rw [h, List.length_map]; exact hcl) hz' ho'
        refine ⟨cells', ?_, k2, k3, k4, by simpa using k5⟩
        simp only [Instr.fill]
        rw [if_neg]
        · exact k1
        · simp [hsz]; omega
      · cases he
theorem rep_flat {n : Nat} {z : List T} {zc : Array Value} (hz : VRs g w z zc.toList) (hn : z.length = n) (m : Nat) : VRs g w (List.replicate m z).flatten ((Array.range (m * n)).map (fun i => zc[i % zc.size]!)).toList := by
  have hzs : zc.size = n := by have := hz.1; simp at this; omega
  refine ⟨by simp [hn], fun i t v a b => ?_⟩
  have hi : i < m * n := by
    have := (List.getElem?_eq_some_iff.1 b).1
    simpa using this
  have hn0 : 0 < n := by
    rcases Nat.eq_zero_or_pos n with e | e
    · subst e; simp at hi
    · exact e
  have hdm : i / n < m := Nat.div_lt_of_lt_mul (by rw [Nat.mul_comm]; exact hi)
  have hmod : i % n < z.length := by rw [hn]; exact Nat.mod_lt _ hn0
  have e1 : (List.replicate m z)[i / n]? = some z := by simp [hdm]
  have := flatten_get (n := n) (List.replicate m z) (fun c hc => by rw [List.eq_of_mem_replicate hc]; exact hn) (i / n) (i % n) z _ e1 (List.getElem?_eq_getElem hmod)
  rw [show i / n * n + i % n = i by rw [Nat.mul_comm, Nat.div_add_mod]] at this
  rw [this] at a
  simp at a; subst a
  have hlt : i % zc.size < zc.toList.length := by rw [hzs]; simp [hzs]; exact Nat.mod_lt _ hn0
  have e2 : zc.toList[i % zc.size]? = some v := by
    simp [hi] at b
    rw [← b, List.getElem?_eq_getElem hlt]
    have : i % zc.size < zc.size := by simpa using hlt
    simp [this]
  rw [hzs] at e2
  exact hz.2 (i % n) _ v (List.getElem?_eq_getElem hmod) e2
theorem rep_ones {z : List T} (ho : ones z) (m : Nat) : ones (List.replicate m z).flatten := by
  intro t ht
  obtain ⟨c, h1, h2⟩ := List.mem_flatten.1 ht
  rw [List.eq_of_mem_replicate h1] at h2
  exact ho t h2
theorem idTr (w : World) : Tr w w none2 none1 := Tr.refl w
theorem sim_bsl {ty elem : TypeId} {ei : TypeInfo} {zv : Value} {R : Regs} {ps : List (Nat × X)} {pv : List (Nat × Value)} {z : List T} {len : Nat} {fs : List (List T)} (hu : P.underlying ty = some (.slice elem)) (hi : P.info? elem = some ei) (hz : ei.zero = some zv) (hzc : constL zv.cells.toList = some z)
    (hzn : z.length = ei.size) (hsz : len * ei.size ≤ 2 ^ 24) (h : SR w0 g H w) (hv : PV g w R ps pv) (he : fillE z.length (List.replicate len z) R ps = some fs) :
    Sim P w0 g H w (Instr.buildSlice ty len pv.toArray) (.sl .full fs) H := by
  obtain ⟨hzv, hzo⟩ := constL_ok (g := g) (w := w) _ _ hzc
  have hz0 := rep_flat hzv hzn len
  have ho0 := rep_ones hzo len
  rw [hzn] at he
  obtain ⟨cells', k1, k2, k3, k4, k5⟩ := fillE_ok hv _ fs ((Array.range (len * ei.size)).map (fun i => zv.cells[i % zv.cells.size]!)) he (fun c hc => by rw [List.eq_of_mem_replicate hc]; exact hzn) hz0 ho0
  have hlen : fs.length = len := by rw [k5]; simp
  obtain ⟨le, sr, fr, imm⟩ := h.imm (c := cells') (ty := elem) (idTr w) rfl
  refine ⟨.slice (some ⟨w.heap.size, 0, none⟩) len len, _, _, ?_, le, sr, ?_, fr⟩
  · have hsz' : ¬ len * ei.size > 2 ^ 24 := by omega
    by_cases h0 : len * ei.size = 0
    · have e0 : ((Array.range (len * ei.size)).map (fun i => zv.cells[i % zv.cells.size]!)) = ((Array.range (len * ei.size)).map (fun i => (#[] : Array Value)[i % (#[] : Array Value).size]!)) := by
        rw [h0]; simp
      rw [e0] at k1
      simp only [Instr.buildSlice, Sem.run_bind, run_underlying hu, Result.andThen_ok, sizeOf, run_ti hi, Sem.run_pure, hsz', if_false, h0, if_true]
      rw [h0] at k1
      simp at k1
      simp [k1, newRow]
    · simp only [Instr.buildSlice, Sem.run_bind, run_underlying hu, Result.andThen_ok, sizeOf, run_ti hi, Sem.run_pure, hsz', if_false, h0, zeroValue, hz]
      simp [k1, newRow]
  · have := VR.of_row (k := .full) (r := w.heap.size) (o := 0) (cap := fs.length) k4 (k2.mono le) k3 (Nat.le_refl _) rfl (fun j v hj => by rw [Nat.zero_add]; exact imm j v (by simpa using hj))
    rw [hlen] at this; exact this
theorem wrap_i64 {n : Int} (h0 : 0 ≤ n) (h1 : n ≤ 9223372036854775807) : IntKind.i64.wrap n = n := IntWalk.i64_in n (by omega)
theorem run_makeSlice {ty elem : TypeId} {ei : TypeInfo} {zv : Value} {k1 k2 : IntKind} {l c : Int} (hu : P.underlying ty = some (.slice elem)) (hi : P.info? elem = some ei) (hz : ei.zero = some zv) (h0 : 0 ≤ l) (hlc : l ≤ c) (hc : c * ei.bytes ≤ 281474976710656) (hc' : c ≤ 9223372036854775807) :
    (Instr.makeSlice ty (.int k1 l) (.int k2 c)).run P w = .ok (.slice (some ⟨w.heap.size, 0, none⟩) l.toNat c.toNat)
      (w.alloc (.cells ((Array.range (c.toNat * ei.size)).map (fun i => (if c.toNat * ei.size = 0 then (#[] : Array Value) else zv.cells)[i % (if c.toNat * ei.size = 0 then (#[] : Array Value) else zv.cells).size]!)) elem)) := by
  have e1 := wrap_i64 h0 (by omega : l ≤ 9223372036854775807)
  have e2 := wrap_i64 (by omega : 0 ≤ c) hc'
  have t1 : ((decide (c < 0) || decide ((ei.bytes : Int) * c > 2 ^ 48)) || decide (l < 0) || decide (l > c)) = false := by
    have : (ei.bytes : Int) * c = c * ei.bytes := Int.mul_comm _ _
    simp [this]; omega
  simp only [Instr.makeSlice, Sem.run_bind, run_underlying hu, Result.andThen_ok, asInt, asIntOf, Sem.run_pure, run_ti hi, e1, e2, t1]
  by_cases hn : c.toNat * ei.size = 0
  · simp [sizeOf, run_ti hi, hn, newRow]
  · simp [sizeOf, run_ti hi, hn, zeroValue, hz, newRow]
theorem sim_mks {ty elem : TypeId} {ei : TypeInfo} {zv : Value} {mu : Bool} {z : List T} {x y t : T} {l c : Nat} {vx vy : Value} {H' : Heap} (hu : P.underlying ty = some (.slice elem)) (hi : P.info? elem = some ei) (hz : ei.zero = some zv) (hzc : constL zv.cells.toList = some z) (hzn : z.length = ei.size) (hn0 : ei.size ≠ 0)
    (h : SR w0 g H w) (hx : VR g w x vx) (hy : VR g w y vy) (hl : natOf x = some l) (hc : natOf y = some c) (hlc : l ≤ c) (hb : c * ei.bytes ≤ 281474976710656) (hcm : c ≤ 9223372036854775807)
    (he : (if mu then (T.msl H.length 0 l z.length, H ++ [.cells (List.replicate l z).flatten]) else if l = 0 then (.sl .arg [], H) else (.sl (.own H.length l) (List.replicate l z), H ++ [.tok l])) = (t, H')) :
    Sim P w0 g H w (Instr.makeSlice ty vx vy) t H' := by
  obtain ⟨hzv, hzo⟩ := constL_ok (g := g) (w := w) _ _ hzc
  obtain ⟨k1, n1, rfl, a1, b1⟩ := natOf_ok hx hl
  obtain ⟨k2, n2, rfl, a2, b2⟩ := natOf_ok hy hc
  have hrun := run_makeSlice (P := P) (w := w) (k1 := k1) (k2 := k2) hu hi hz a1 (by omega : n1 ≤ n2) (by
    have : (n2.toNat : Int) = n2 := Int.toNat_of_nonneg a2
    rw [← this, b2]; omega) (by omega)
  rw [b1, b2] at hrun
  have hcv := rep_flat hzv hzn c
  have hco := rep_ones hzo c
  have hsplit : (List.replicate c z).flatten = (List.replicate l z).flatten ++ (List.replicate (c - l) z).flatten := by
    rw [← List.flatten_append, List.replicate_append_replicate]; congr 2; omega
  have hlenl : (List.replicate l z).flatten.length = l * ei.size := by rw [flatten_len (n := ei.size) _ (fun c hc => by rw [List.eq_of_mem_replicate hc]; exact hzn), List.length_replicate]
  have harr : (Array.range (c * ei.size)).map (fun i => (if c * ei.size = 0 then (#[] : Array Value) else zv.cells)[i % (if c * ei.size = 0 then (#[] : Array Value) else zv.cells).size]!) = (Array.range (c * ei.size)).map (fun i => zv.cells[i % zv.cells.size]!) := by
    by_cases h0 : c * ei.size = 0
    · rw [h0]; simp
    · simp only [h0, if_false]
  rw [harr] at hrun
  generalize hA : (Array.range (c * ei.size)).map (fun i => zv.cells[i % zv.cells.size]!) = A at hrun hcv
  have hsz : A.size = c * ei.size := by rw [← hA]; simp
  have hcell : ∀ (i : Nat) (t : T), (List.replicate l z).flatten[i]? = some t → t.one = true ∧ ∃ v, A[i]? = some v ∧ VR g w t v := by
    intro i t hi'
    have e : (List.replicate c z).flatten[i]? = some t := by
      rw [hsplit, List.getElem?_append_left (List.getElem?_eq_some_iff.1 hi').1]; exact hi'
    obtain ⟨v, h1, h2⟩ := hcv.get_arr i t e
    exact ⟨hco t (List.mem_of_getElem? e), v, by simpa using h1, h2⟩
  cases mu with
  | true =>
    simp only [if_true, Prod.mk.injEq] at he
    obtain ⟨rfl, rfl⟩ := he
    obtain ⟨g', le, sr, fr, hφ⟩ := h.fresh_mut (c := A) (ty := elem) (idTr w) rfl hcell
    exact ⟨_, _, g', hrun, le, sr, .msl (r := w.heap.size) (o := 0) (off := 0) hφ hlc (by rw [hsz, hzn]; simp), fr⟩
  | false =>
    simp only [Bool.false_eq_true, if_false] at he
    split at he
    · rename_i hl0
      subst hl0
      simp only [Prod.mk.injEq] at he
      obtain ⟨rfl, rfl⟩ := he
      obtain ⟨le, sr, fr, imm⟩ := h.imm (c := A) (ty := elem) (idTr w) rfl
      exact ⟨_, _, _, hrun, le, sr, .sl (n := 0) (fun _ _ => .nilIface) trivial (by simp) (by simp) (by simp) (by simp), fr⟩
    · rename_i hl0
      simp only [Prod.mk.injEq] at he
      obtain ⟨rfl, rfl⟩ := he
      obtain ⟨le, sr, fr, imm, hp⟩ := h.tokNew (c := A) (ty := elem) (t := H.length) (e := l) (k := l * ei.size) (H' := H ++ [.tok l]) (idTr w) rfl (get_tail _ _) (by rw [hsz]; exact Nat.mul_le_mul_right _ hlc) (fun e'' _ => h.noπ (Nat.le_refl _))
        (fun b' x e hx => get_tail_ne e hx) (by simp) (fun b' x hx _ => get_old hx)
      refine ⟨_, _, _, hrun, le, sr, ?_, fr⟩
      have hv : VRs g w (List.replicate l z).flatten (A.toList.take (l * ei.size)) := by
        have := hcv.take (l * ei.size)
        rwa [hsplit, List.take_append_of_le_length (by omega), List.take_of_length_le (by omega)] at this
      have := VR.of_row (k := .own H.length l) (r := w.heap.size) (o := 0) (cap := c) (n := ei.size) (es := List.replicate l z) (fun c hc => by rw [List.eq_of_mem_replicate hc]; exact hzn) (hv.mono le) (rep_ones hzo l) (by simpa using hlc)
        ⟨by rw [hp, hsz]; simp, by simp; omega⟩ (fun j v hj => by
          rw [Nat.zero_add]
          rw [List.getElem?_take] at hj
          split at hj
          · rename_i hlt; exact imm j v hlt (by simpa using hj)
          · cases hj)
      simpa using this
theorem sim_mkf {f : Nat} {caps : List T} {vs : List Value} (h : SR w0 g H w) (hv : VRs g w caps vs) : Sim P w0 g H w (Instr.makeFunc (.func f) #[] vs.toArray) (.fn f caps) H :=
  Sim.same h rfl (.fn (by simp [hv.1]) (fun i t v a b => hv.2 i t v a (by simpa using b)))
end
end Go.Rmp
end

section
namespace Go.Rmp
section
variable {P : Program} {w0 w : World} {g : Ctx} {H : Heap}
theorem VR.fgt {t : T} {v : Value} (h : VR g w t v) : VR g w (fgt t) v := by
  cases h with
  | mslc h hc hq => exact .msl h hc hq
  | msl h hc hq => exact .msl h hc hq
  | int k n => exact .int k n
  | bool b => exact .bool b
  | str s => exact .str s
  | nilp => exact .nilp
  | ptr h => exact .ptr h
  | iptr vals h1 h2 => exact .iptr vals h1 h2
  | nilm => exact .nilm
  | map h => exact .map h
  | slnil => exact .slnil
  | slarg a => exact .slarg a
  | sl vals hk hc hn h1 h2 => exact .sl vals hk hc hn h1 h2
  | nilf => exact .nilf
  | fn hl h => exact .fn hl h
  | yld h => exact .yld h
  | niface => exact .niface
  | agg hl h1 h2 => exact .agg hl h1 h2
  | tup hl h2 => exact .tup hl h2
theorem sim_cap {ty rt : TypeId} {e : TypeId} {b off len n c : Nat} {vx : Value} (hu : P.underlying ty = some (.slice e)) (h : SR w0 g H w) (hx : VR g w (.mslc b off len n c) vx) :
    Sim P w0 g H w (Builtin.cap_ #[ty] rt #[vx]) (.int .i64 (c : Nat)) H := by
  cases hx with
  | mslc hφ hc hq => exact Sim.same h (v := .int .i64 c) (by simp [Builtin.cap_, run_underlying hu, goInt]) (.int _ _)
theorem flat_range (cs : List T) (off n : Nat) : ∀ k, off + k * n ≤ cs.length → ((List.range k).map fun i => (cs.drop (off + i * n)).take n).flatten = (cs.drop off).take (k * n)
  | 0, _ => by simp
  | k + 1, h => by
    have h' : off + k * n ≤ cs.length := by rw [Nat.succ_mul] at h; omega
    rw [List.range_succ, List.map_append, List.flatten_append, flat_range cs off n k h', Nat.succ_mul, List.take_add]
    simp [List.drop_drop]
theorem elemsK_ok {n k : Nat} {y : T} {vy : Value} {new : List (List T)} (h : SR w0 g H w) (hy : VR g w y vy) (he : elemsK H n k y = some new) :
    ∃ r o ly cap vs, vy = .slice (some ⟨r, o, none⟩) ly cap ∧ lenM y = some ly ∧ (∀ (j : Nat) (v : Value), vs[j]? = some v → w.cell? ⟨r, o + j, none⟩ = some v) ∧ VRs g w new.flatten vs ∧ vs.length = k * n ∧ ones new.flatten ∧ new.flatten.length = k * n := by
  have key : ∀ (b off : Nat) (r o q : Nat), g.φ b = some (r, o, q) → (match H[b]? with | some (.cells cs) => if off + k * n ≤ cs.length then some ((List.range k).map fun i => (cs.drop (off + i * n)).take n) else none | _ => none) = some new →
      ∃ vs, (∀ (j : Nat) (v : Value), vs[j]? = some v → w.cell? ⟨r, o + off + j, none⟩ = some v) ∧ VRs g w new.flatten vs ∧ vs.length = k * n ∧ ones new.flatten ∧ new.flatten.length = k * n := by
    intro b off r o q hφ he
    cases hb : H[b]? with
    | none => simp [hb] at he
    | some z =>
      cases z <;> simp only [hb] at he <;> (try (cases he; done))
      rename_i cs
      split at he
      · rename_i hle
        simp only [Option.some.injEq] at he
        have hfl := flat_range cs off n k hle
        rw [he] at hfl
        have hp : ldc H (k * n) (.ptr b off) = some new.flatten := by simp [ldc, hb, hle, hfl]
        obtain ⟨r', o', vs, e1, e2, e3, e4, e5⟩ := ldc_ok h (.ptr hφ) hp
        cases e1
        exact ⟨vs, e3, e4, e2, e5, by rw [hfl, List.length_take, List.length_drop]; omega⟩
      · cases he
  cases hy <;> simp only [elemsK] at he <;> (try (cases he; done))
  · rename_i b off len n' r o q cap hφ hc hq
    obtain ⟨vs, a1, a2, a3, a4, a5⟩ := key b off r o q hφ (by
      cases hb : H[b]? with
      | none => simp [hb] at he
      | some z =>
        cases z <;> simp only [hb] at he ⊢ <;> (try (cases he; done))
        split at he
        · rename_i hcc; rw [if_pos hcc.2]; exact he
        · cases he)
    exact ⟨r, o + off, len, cap, vs, rfl, rfl, a1, a2, a3, a4, a5⟩
  · rename_i b off len n' r o q cap hφ hc hq
    obtain ⟨vs, a1, a2, a3, a4, a5⟩ := key b off r o q hφ (by
      cases hb : H[b]? with
      | none => simp [hb] at he
      | some z =>
        cases z <;> simp only [hb] at he ⊢ <;> (try (cases he; done))
        split at he
        · rename_i hcc; rw [if_pos hcc.2]; exact he
        · cases he)
    exact ⟨r, o + off, len, cap, vs, rfl, rfl, a1, a2, a3, a4, a5⟩
theorem SR.storeX {b off r o q : Nat} {cs ts : List T} {vs : List Value} (h : SR w0 g H w) (hb : H[b]? = some (.cells cs)) (hφ : g.φ b = some (r, o, q)) (hoff : off ≤ cs.length) (hle : o + off + ts.length ≤ q) (hv : VRs g w ts vs) (ho : ones ts) :
    Le g w g (w.setCells r (o + off) vs) ∧ SR w0 g (H.set b (.cells (cs.take off ++ ts ++ cs.drop (off + ts.length)))) (w.setCells r (o + off) vs) := by
  have hbl : b < H.length := (List.getElem?_eq_some_iff.1 hb).1
  obtain ⟨h1, h2, h3⟩ := h.blk b _ hb r o q hφ
  have hl := hv.1
  have hs : ∀ j, o + off ≤ j → j < o + off + vs.length → (w.cell? ⟨r, j, none⟩).isSome = true := fun j a c => (h2 j (by omega) (by omega)).2.2
  have tr := Tr.setCells w r (o + off) vs hs
  have hS : ∀ r' j, inRow r (o + off) vs.length r' j → g.κ r' j = .mut b := by
    rintro r' j ⟨rfl, a, c⟩; exact (h2 j (by omega) (by omega)).1
  have le : Le g w g (w.setCells r (o + off) vs) := Le.of_tr tr (fun _ _ h => h) (fun _ _ h => h) (fun _ _ _ h => h) (fun r' j hs' e => by rw [hS r' j hs'] at e; cases e)
  refine ⟨le, h.step (fun b' => b' = b) tr le (fun r' j hs' => .inr (.inl ⟨b, hS r' j hs', rfl⟩)) (fun _ hm => hm.elim) (fun r' j hr => h.fresh r' j (by rwa [size_setCells] at hr)) (fun b' x hx => by rw [List.length_set]; exact h.dom b' x hx)
    (fun t e x hx => by rw [List.length_set]; exact h.domt t e x hx) (fun _ _ _ => rfl) (fun _ _ _ _ => ⟨id, id⟩) (fun _ _ _ _ => rfl) (fun b' x hx => ?_)⟩
  rcases set_get hbl hx with ⟨rfl, rfl⟩ | ⟨hne, hx'⟩
  · right
    intro r' o' q' hφ'
    rw [hφ] at hφ'; cases hφ'
    have hlen : (cs.take off ++ ts ++ cs.drop (off + ts.length)).length = max cs.length (off + ts.length) := by simp; omega
    refine ⟨by rw [hlen]; omega, fun j a c => ⟨(h2 j a c).1, fun j0 => by rw [World.frozen?_setCells]; exact (h2 j a c).2.1 j0, tr.keep r j ?_ (h2 j a c).2.2⟩, fun i t hi => ?_⟩
    · obtain ⟨x, hx⟩ := Option.isSome_iff_exists.1 (h2 j a c).2.2; exact cell_lt hx
    · have hi' : i < max cs.length (off + ts.length) := by rw [← hlen]; exact (List.getElem?_eq_some_iff.1 hi).1
      by_cases hin : off ≤ i ∧ i < off + ts.length
      · have ht : ts[i - off]? = some t := by
          rw [List.append_assoc, List.getElem?_append_right (by simp; omega), List.getElem?_append_left (by simp; omega)] at hi
          rw [← hi]; congr 1; simp; omega
        have hlt : i - off < vs.length := by omega
        refine ⟨ho t (List.mem_of_getElem? ht), vs[i - off], ?_, (hv.2 _ t _ ht (List.getElem?_eq_getElem hlt)).mono le⟩
        have := cell_setCells_in r vs (o + off) w hs (i - off) _ (List.getElem?_eq_getElem hlt)
        rwa [show o + off + (i - off) = o + i by omega] at this
      · have ht : cs[i]? = some t := by
          by_cases hlt : i < off
          · rw [List.append_assoc, List.getElem?_append_left (by simp; omega), List.getElem?_take, if_pos hlt] at hi; exact hi
          · rw [List.getElem?_append_right (by simp; omega), List.getElem?_drop] at hi
            rw [← hi]; congr 1; simp; omega
        obtain ⟨a, v, hv1, hv2⟩ := h3 i t ht
        refine ⟨a, v, ?_, hv2.mono le⟩
        rw [cell_setCells r vs (o + off) w r (o + i) (by omega)]; exact hv1
  · exact .inl ⟨hne, hx'⟩
theorem run_copyN (w : World) (dT sT ty elem : TypeId) {ei : TypeInfo} (b o dLen dCap : Nat) (a : Addr) (sLen sCap : Nat) (cs : List Value)
    (hu : P.underlying dT = some (.slice elem)) (hi : P.info? elem = some ei) (hn : cs.length = Nat.min sLen dLen * ei.size)
    (hsrc : ∀ (j : Nat) v, cs[j]? = some v → w.cell? (a.add j) = some v) (hc : ∀ j, j < cs.length → (w.cell? ⟨b, o + j, none⟩).isSome = true) (hf : ∀ j, j < cs.length → w.frozen? ⟨b, o + j, none⟩ = false) (h1 : ∀ v ∈ cs, v.oneCell' = true) :
    (Builtin.copy_ #[dT, sT] ty #[.slice (some ⟨b, o, none⟩) dLen dCap, .slice (some a) sLen sCap]).run P w = .ok (goInt (Nat.min sLen dLen : Nat)) (w.setCells b o cs) := by
  have hl := run_loadCells_list (P := P) w a cs hsrc
  have hst := run_storeCells_cells (P := P) b o cs 0 w (by simpa using hc) (by simpa using hf) h1
  rw [hn] at hl
  have hq : (typeInfo elem).run P w = .ok ei w := run_ti hi
  simp [Builtin.copy_, run_underlying hu, Builtin.lenOf, Builtin.firstCells, sizeOf, hq, hl, hst]
theorem sim_cpy {dT sT rt elem : TypeId} {ei : TypeInfo} {x y t : T} {vx vy : Value} {H' : Heap} (hu : P.underlying dT = some (.slice elem)) (hi : P.info? elem = some ei)
    (h : SR w0 g H w) (hx : VR g w x vx) (hy : VR g w y vy) (he : cpyT H ei.size x y = some (t, H')) : Sim P w0 g H w (Builtin.copy_ #[dT, sT] rt #[vx, vy]) t H' := by
  have key : ∀ b off len n' r o q cap, g.φ b = some (r, o, q) → len ≤ cap → o + off + cap * n' = q → vx = .slice (some ⟨r, o + off, none⟩) len cap →
      (∀ ly, lenM y = some ly → ∀ cs new, H[b]? = some (.cells cs) → elemsK H ei.size (min ly len) y = some new → n' = ei.size ∧ ei.size ≠ 0 ∧ off ≤ cs.length →
        t = .int .i64 (min ly len : Nat) → H' = H.set b (.cells (cs.take off ++ new.flatten ++ cs.drop (off + (min ly len) * ei.size))) → Sim P w0 g H w (Builtin.copy_ #[dT, sT] rt #[vx, vy]) t H') := by
    rintro b off len n' r o q cap hφ hc hq rfl ly hly cs new hb hK ⟨rfl, hn0, hoff⟩ rfl rfl
    obtain ⟨r2, o2, ly', cap', vs, rfl, hly', a1, a2, a3, a4, a5⟩ := elemsK_ok h hy hK
    rw [hly] at hly'; cases hly'
    have hbl : b < H.length := (List.getElem?_eq_some_iff.1 hb).1
    obtain ⟨h1, h2, h3⟩ := h.blk b _ hb r o q hφ
    have hmul : min ly len * ei.size ≤ cap * ei.size := Nat.mul_le_mul_right _ (by omega)
    have hrun := run_copyN (P := P) w dT sT rt elem r (o + off) len cap ⟨r2, o2, none⟩ ly cap' vs hu hi (by rw [a3]) (fun j v hj => by rw [add_mk]; exact a1 j v hj) (fun j hj => (h2 _ (by omega) (by omega)).2.2) (fun j hj => (h2 (o + off + j) (by omega) (by omega)).2.1 _) (a2.oneCell a4)
    obtain ⟨le, sr⟩ := h.storeX hb hφ hoff (by rw [a5]; omega) a2 a4
    rw [a5] at sr
    refine ⟨_, _, g, hrun, le, sr, by simpa [goInt] using .int _ _, by simp, fun b' y' a _ d => ⟨set_ne a ?_, d⟩⟩
    rintro rfl; rw [hφ] at d; cases d
  unfold cpyT at he
  cases hx <;> simp only [] at he <;> (try (cases he; done))
  all_goals
    rename_i b off len n' r o q cap hφ hc hq
    cases hly : lenM y with
    | none => simp [hly] at he
    | some ly =>
      simp only [hly] at he
      cases hb : H[b]? with
      | none => simp [hb] at he
      | some z =>
        cases hK : elemsK H ei.size (min ly len) y with
        | none => cases z <;> simp [hb, hK] at he
        | some new =>
          cases z <;> simp only [hb, hK] at he <;> (try (cases he; done))
          split at he
          · rename_i hcc
            simp only [Option.some.injEq, Prod.mk.injEq] at he
            exact key b off len n' r o q cap hφ hc hq rfl ly hly _ new hb hK hcc he.1.symm he.2.symm
          · cases he
theorem fillM_ok {R : Regs} {n : Nat} {ps : List (Nat × X)} {pv : List (Nat × Value)} (hv : PV g w R ps pv) : ∀ (es fs : List (List T)) (cells : Array Value), fillM n es R ps = some fs → (∀ c ∈ es, c.length = n) → VRs g w es.flatten cells.toList → ones es.flatten →
    ∃ cells', Instr.fill (fun i => some (i * n, n)) cells pv = some cells' ∧ VRs g w fs.flatten cells'.toList ∧ ones fs.flatten ∧ (∀ c ∈ fs, c.length = n) ∧ fs.length = es.length := by
  induction hv with
  | nil =>
    intro es fs cells he hn hz ho
    simp [fillM] at he; subst he
    exact ⟨cells, rfl, hz, ho, hn, rfl⟩
  | @cons i x v ps pv hvx _ ih =>
    intro es fs cells he hn hz ho
    simp only [fillM] at he
    cases hc : (x.ev R).cells? with
    | none => simp [hc] at he
    | some c =>
      simp only [hc] at he
      split at he
      · rename_i hcond
        obtain ⟨hcl, hi⟩ := hcond
        obtain ⟨hvc, hoc⟩ := cells?_ok hvx hc
        have hsz : v.cells.size = n := by have := hvc.1; simp at this; omega
        have hfl := flatten_len es hn
        have hzl : es.flatten.length = cells.size := by have := hz.1; simpa using this
        have hle : i * n + n ≤ cells.size := by
          rw [← hzl, hfl, ← Nat.succ_mul]; exact Nat.mul_le_mul_right _ hi
        have hstep := fill_step hsz hle
        have hset := flatten_set es i c hn hi
        have hz' : VRs g w (es.set i c).flatten (v.cells.zipIdx.foldl (fun (cs : Array Value) (x : Value × Nat) => cs.setIfInBounds (i * n + x.2) x.1) cells).toList := by
          rw [hstep, hset]
          exact VRs.append (VRs.append (hz.take _) hvc) (hz.drop _)
        have ho' : ones (es.set i c).flatten := by
          rw [hset]
          intro t ht
          rcases List.mem_append.1 ht with ht | ht
          · rcases List.mem_append.1 ht with ht | ht
            · exact ho t (List.mem_of_mem_take ht)
            · exact hoc t ht
          · exact ho t (List.mem_of_mem_drop ht)
        obtain ⟨cells', k1, k2, k3, k4, k5⟩ := ih _ fs _ he (fun c' hc' => by
          rcases List.mem_or_eq_of_mem_set hc' with h | h
          · exact hn c' h
          · rw [h]; exact hcl) hz' ho'
        refine ⟨cells', ?_, k2, k3, k4, by simpa using k5⟩
        simp only [Instr.fill]
        rw [if_neg]
        · exact k1
        · simp [hsz]; omega
      · cases he
theorem SR.fresh_lit {c : Array Value} {ty : TypeId} {cs : List T} (h : SR w0 g H w) (hsz : cs.length = c.size)
    (hc : ∀ (i : Nat) (t : T), cs[i]? = some t → t.one = true ∧ ∃ v, c[i]? = some v ∧ VR g w t v) :
    ∃ g', Le g w g' (w.alloc (.cells c ty)) ∧ SR w0 g' (H ++ [.lit cs]) (w.alloc (.cells c ty)) ∧ Fr g H g' (H ++ [.lit cs]) ∧ g'.φ H.length = some (w.heap.size, 0, c.size) := by
  have tr' := Tr.alloc w (.cells c ty)
  have hne : ∀ r j ow, g.κ r j = ow → ow ≠ .free → r ≠ w.heap.size := by rintro r j ow e hn rfl; exact hn (e ▸ h.fresh _ j (Nat.le_refl _))
  have hnφ := h.noφ (b := H.length) (Nat.le_refl _)
  have hκ : ∀ r j, ((g.row w.heap.size fun j => if j = c.size then .mut H.length else .imm).at H.length (w.heap.size, 0, c.size)).κ r j = if r = w.heap.size then (if j = c.size then .mut H.length else .imm) else g.κ r j := fun r j => rfl
  have le : Le g w ((g.row w.heap.size fun j => if j = c.size then .mut H.length else .imm).at H.length (w.heap.size, 0, c.size)) (w.alloc (.cells c ty)) := Le.of_tr tr'
    (fun b' x hx => by simp only [Ctx.at, Ctx.row]; split; rename_i e; subst e; rw [hnφ] at hx; simp at hx; exact hx)
    (fun r o hk => by rw [hκ, if_neg (hne r o _ hk (by simp))]; exact hk) (fun _ _ _ h => h) (fun _ _ hs => hs.elim)
  refine ⟨_, le, ?_, ⟨by simp, fun b x a _ d => ⟨get_old a, ?_⟩⟩, by simp [Ctx.at]⟩
  · refine h.step (fun b' => b' = H.length) tr' le (fun _ _ hs => hs.elim) (fun _ hm => hm.elim) (fun r o hr => ?_) (fun b' x hx => ?_) (fun t e x hx => by have := h.domt t e x hx; simp; omega) (fun b' _ hb' => ?_) (fun r j b' hb' => ?_) (fun _ _ _ _ => rfl) (fun b' x hx => ?_)
    · simp at hr
      rw [hκ, if_neg (by omega)]; exact h.fresh r o (by omega)
    · simp only [Ctx.at, Ctx.row] at hx
      split at hx
      · rename_i e; subst e; simp
      · have := h.dom b' x hx; simp; omega
    · simp only [Ctx.at, Ctx.row]; rw [if_neg hb']
    · constructor <;> intro e <;> rw [hκ, if_neg (hne r j _ e (by simp))] <;> exact e
    · by_cases e : b' = H.length
      · subst e
        right
        rw [get_tail] at hx; cases hx
        refine ⟨w.heap.size, c.size, by simp [Ctx.at], by rw [hκ]; simp, fun j hj => by rw [hκ, if_pos rfl, if_neg hj], c, ty, by show (w.heap.push _)[w.heap.size]? = _; simp, rfl, hsz, fun i t hi => ?_⟩
        obtain ⟨a, v, b1, b2⟩ := hc i t hi
        exact ⟨a, v, b1, b2.mono le⟩
      · exact .inl ⟨e, get_tail_ne e hx⟩
  · have := (List.getElem?_eq_some_iff.1 a).1
    simp only [Ctx.at, Ctx.row]; rw [if_neg (by omega)]; exact d
theorem SR.fresh_litB {c : Array Value} {ty : TypeId} {cs z : List T} {n : Nat} (h : SR w0 g H w) (hsz : cs.length = c.size)
    (hc : ∀ (i : Nat) (t : T), cs[i]? = some t → t.one = true ∧ ∃ v, c[i]? = some v ∧ VR g w t v) :
    ∃ g', Le g w g' (w.alloc (.cells c ty)) ∧ SR w0 g' (H ++ [litB n z cs]) (w.alloc (.cells c ty)) ∧ Fr g H g' (H ++ [litB n z cs]) ∧ g'.φ H.length = some (w.heap.size, 0, c.size) := by
  unfold litB
  split
  · exact h.fresh_lit hsz hc
  · exact h.fresh_mut (idTr w) rfl hc
theorem sim_bsm {ty elem : TypeId} {ei : TypeInfo} {zv : Value} {R : Regs} {ps : List (Nat × X)} {pv : List (Nat × Value)} {z : List T} {len : Nat} {fs : List (List T)} (hu : P.underlying ty = some (.slice elem)) (hi : P.info? elem = some ei) (hz : ei.zero = some zv) (hzc : constL zv.cells.toList = some z)
    (hzn : z.length = ei.size) (hsz : len * ei.size ≤ 2 ^ 24) (h : SR w0 g H w) (hv : PV g w R ps pv) (he : fillM z.length (List.replicate len z) R ps = some fs) :
    Sim P w0 g H w (Instr.buildSlice ty len pv.toArray) (.msl H.length 0 len z.length) (H ++ [litB len z fs.flatten]) := by
  obtain ⟨hzv, hzo⟩ := constL_ok (g := g) (w := w) _ _ hzc
  have hz0 := rep_flat hzv hzn len
  have ho0 := rep_ones hzo len
  rw [hzn] at he
  obtain ⟨cells', k1, k2, k3, k4, k5⟩ := fillM_ok hv _ fs ((Array.range (len * ei.size)).map (fun i => zv.cells[i % zv.cells.size]!)) he (fun c hc => by rw [List.eq_of_mem_replicate hc]; exact hzn) hz0 ho0
  have hlen : fs.length = len := by rw [k5]; simp
  have hfl : fs.flatten.length = len * ei.size := by rw [flatten_len fs k4, hlen]
  have hcs : cells'.size = len * ei.size := by have := k2.1; simp only [Array.length_toList] at this; omega
  obtain ⟨g', le, sr, fr, hφ⟩ := h.fresh_litB (c := cells') (ty := elem) (cs := fs.flatten) (n := len) (z := z) (by rw [hfl, hcs]) (fun i t hi => by
    obtain ⟨v, a1, a2⟩ := k2.get_arr i t hi
    exact ⟨k3 t (List.mem_of_getElem? hi), v, by simpa using a1, a2⟩)
  refine ⟨.slice (some ⟨w.heap.size, 0, none⟩) len len, _, g', ?_, le, sr, ?_, fr⟩
  · have hsz' : ¬ len * ei.size > 2 ^ 24 := by omega
    by_cases h0 : len * ei.size = 0
    · have e0 : ((Array.range (len * ei.size)).map (fun i => zv.cells[i % zv.cells.size]!)) = ((Array.range (len * ei.size)).map (fun i => (#[] : Array Value)[i % (#[] : Array Value).size]!)) := by
        rw [h0]; simp
      rw [e0] at k1
      simp only [Instr.buildSlice, Sem.run_bind, run_underlying hu, Result.andThen_ok, sizeOf, run_ti hi, Sem.run_pure, hsz', if_false, h0, if_true]
      rw [h0] at k1
      simp at k1
      simp [k1, newRow]
    · simp only [Instr.buildSlice, Sem.run_bind, run_underlying hu, Result.andThen_ok, sizeOf, run_ti hi, Sem.run_pure, hsz', if_false, h0, zeroValue, hz]
      simp [k1, newRow]
  · rw [hzn]
    exact .msl (r := w.heap.size) (o := 0) (off := 0) hφ (Nat.le_refl _) (by rw [hcs]; simp)
theorem sim_apz {sT xT elem rt : TypeId} {ei : TypeInfo} {zv : Value} {z : List T} {kq kn : IntKind} {x t : T} {vx : Value} {k : Nat} {H' : Heap} (hu : P.underlying sT = some (.slice elem)) (hxT : P.underlying xT = some (.int kn)) (hi : P.info? elem = some ei) (hz : ei.zero = some zv) (hzc : constL zv.cells.toList = some z)
    (hb : ei.bytes ≠ 0) (h : SR w0 g H w) (hx : VR g w x vx) (he : apzT H ei.size ei.bytes z x k = some (t, H')) : Sim P w0 g H w (Builtin.append_ #[sT, xT] rt #[vx, .int kq k]) t H' := by
  unfold apzT at he
  cases x <;> simp only [] at he <;> (try (cases he; done))
  rename_i b off len n' c
  cases hK : elemsK H ei.size len (.mslc b off len n' c) with
  | none => simp [hK] at he
  | some es =>
    simp only [hK] at he
    split at he
    · rename_i hcc
      obtain ⟨rfl, hn0, hk0, hcl, hzn, hroom⟩ := hcc
      simp only [Option.some.injEq, Prod.mk.injEq] at he
      obtain ⟨rfl, rfl⟩ := he
      obtain ⟨r, o, ly, cap, vs, rfl, hly, a1, a2, a3, a4, a5⟩ := elemsK_ok h hx hK
      cases hly
      have hcap : cap = c := by cases hx; rfl
      subst hcap
      obtain ⟨hzv, hzo⟩ := constL_ok (g := g) (w := w) _ _ hzc
      have hold : (Builtin.firstCells ei.size len (.slice (some ⟨r, o, none⟩) len cap)).run P w.drew = .ok vs.toArray w.drew := by
        have := run_loadCells_list (P := P) w.drew ⟨r, o, none⟩ vs (fun j v hj => by rw [add_mk]; exact a1 j v hj)
        rw [a3] at this
        simpa [Builtin.firstCells] using this
      have hnb : ¬ Builtin.nextslicecap (len + k) cap * ei.bytes > 2 ^ 48 := room_ok hcl hroom
      have hr := hroom
      simp only [roomOk, decide_eq_true_eq] at hr
      have hneed : (len + k) * ei.bytes ≤ 281474976710656 := Nat.le_trans (Nat.mul_le_mul_right _ (by omega)) hr
      have hneed1 : len + k ≤ 281474976710656 := Nat.le_trans (Nat.le_mul_of_pos_right _ (by omega)) hneed
      have hkb : k * ei.bytes ≤ 281474976710656 := Nat.le_trans (Nat.mul_le_mul_right _ (by omega)) hneed
      have hrun := Go.Lib.run_append_grow_zeros (P := P) w sT xT rt elem ei zv kq kn hu hxT hi hz (some ⟨r, o, none⟩) len cap vs hold k hk0 (by omega) hcl (by omega) hkb (by omega)
      have hzs : zv.cells.toList.length = ei.size := by have := hzv.1; omega
      have hzc2 : zv.cells.size = ei.size := by simpa using hzs
      have hvall : VRs g w (es.flatten ++ (List.replicate k z).flatten) (vs ++ (Builtin.zeroCells zv.cells k).toList) := by
        refine VRs.append a2 ?_
        have := rep_flat hzv hzn k
        simpa [Builtin.zeroCells, hzc2] using this
      have hge := grownCap_ge w (len + k) cap elem
      generalize grownCap w (len + k) cap elem = nc at hrun hge
      have hoall : ones (es.flatten ++ (List.replicate k z).flatten) := fun t ht => by
        rcases List.mem_append.1 ht with ht | ht
        · exact a4 t ht
        · exact rep_ones hzo k t ht
      have hsz : (vs.toArray ++ Builtin.zeroCells zv.cells k ++ Builtin.zeroCells zv.cells (nc - (len + k))).size = nc * ei.size := by
        simp only [Array.size_append, zeroCells_size, List.size_toArray, a3, hzc2]
        rw [← Nat.add_mul, ← Nat.add_mul]; congr 1; omega
      obtain ⟨g', le, sr, fr, hφ⟩ := h.fresh_mut (c := vs.toArray ++ Builtin.zeroCells zv.cells k ++ Builtin.zeroCells zv.cells (nc - (len + k))) (ty := elem) (cs := es.flatten ++ (List.replicate k z).flatten) (drew_tr w) rfl (fun i t hi => by
        obtain ⟨v, b1, b2⟩ := hvall.get_arr i t hi
        refine ⟨hoall t (List.mem_of_getElem? hi), v, ?_, b2⟩
        rw [List.getElem?_toArray] at b1
        have hlt := (List.getElem?_eq_some_iff.1 b1).1
        have e : (vs.toArray ++ Builtin.zeroCells zv.cells k ++ Builtin.zeroCells zv.cells (nc - (len + k))).toList = (vs ++ (Builtin.zeroCells zv.cells k).toList) ++ (Builtin.zeroCells zv.cells (nc - (len + k))).toList := by simp
        rw [← Array.getElem?_toList, e, List.getElem?_append_left hlt]; exact b1)
      refine ⟨_, _, g', hrun, le, sr, ?_, fr⟩
      exact .msl (r := w.heap.size) (o := 0) (off := 0) hφ hge (by rw [hsz]; simp)
    · cases he
end
end Go.Rmp
end

section
namespace Go.Rmp
section
variable {P : Program} {w0 w : World} {g : Ctx} {H : Heap}
theorem run_ovl_apart {params results : Array TypeId} (tS e : TypeId) (hp : params[0]? = some tS) (ht : P.underlying tS = some (.slice e)) (size : Nat) (hz : (Go.sizeOf e).run P w = .ok size w)
    (a b : Addr) (la ca lb cb : Nat) (hne : a.block ≠ b.block) (tA tB : TypeId) (kA kB : Nat)
    (hsa : w.shape? a.block = some (tA, kA)) (hsb : w.shape? b.block = some (tB, kB)) (hkB : kB ≠ 0)
    (hfa : w.frozen? a = false) (hfe : w.frozen? { block := a.block, off := kA } = false) :
    (Extern.SlicesOverlaps.overlaps params results #[.slice (some a) la ca, .slice (some b) lb cb]).run P w = .ok (.bool false) w := by
  have hnb : (a.block != b.block) = true := by simpa using hne
  have hnb' : (a.block == b.block) = false := by simpa using hne
  conv => lhs; arg 2; whnf
  simp only [hp]
  by_cases h0 : la = 0 ∨ lb = 0 ∨ size = 0
  · simp [run_underlying ht, hz, h0]
  · cases kB with
    | zero => exact absurd rfl hkB
    | succ kB =>
      simp [run_underlying ht, hz, h0, hnb, hnb', frozen, noView, viewAt, mayBeOne, stringish, shape, Sem.run, hsa, hsb, hfa, hfe]
theorem run_ovl_same {params results : Array TypeId} (tS e : TypeId) (hp : params[0]? = some tS) (ht : P.underlying tS = some (.slice e)) (size : Nat) (hz : (Go.sizeOf e).run P w = .ok size w)
    (a b : Addr) (la ca lb cb : Nat) (hne : a.block = b.block) (hd : la ≠ 0 → lb ≠ 0 → size ≠ 0 → ¬ (a.off < b.off + lb * size ∧ b.off < a.off + la * size)) :
    (Extern.SlicesOverlaps.overlaps params results #[.slice (some a) la ca, .slice (some b) lb cb]).run P w = .ok (.bool false) w := by
  have hnb : (a.block != b.block) = false := by simpa using hne
  have hnb' : (a.block == b.block) = true := by simpa using hne
  conv => lhs; arg 2; whnf
  simp only [hp]
  by_cases h0 : la = 0 ∨ lb = 0 ∨ size = 0
  · simp [run_underlying ht, hz, h0]
  · have h1 := hd (fun h => h0 (.inl h)) (fun h => h0 (.inr (.inl h))) (fun h => h0 (.inr (.inr h)))
    simp [run_underlying ht, hz, h0, hnb, hnb']
    intro hlt
    have : ¬ b.off < a.off + la * size := fun h => h1 ⟨hlt, h⟩
    omega
theorem run_ovl_zero {params results : Array TypeId} (tS e : TypeId) (hp : params[0]? = some tS) (ht : P.underlying tS = some (.slice e)) (size : Nat) (hz : (Go.sizeOf e).run P w = .ok size w)
    (a b : Addr) (la ca lb cb : Nat) (h0 : la = 0 ∨ size = 0) :
    (Extern.SlicesOverlaps.overlaps params results #[.slice (some a) la ca, .slice (some b) lb cb]).run P w = .ok (.bool false) w := by
  have h0 : la = 0 ∨ lb = 0 ∨ size = 0 := by rcases h0 with h | h; exact .inl h; exact .inr (.inr h)
  conv => lhs; arg 2; whnf
  simp only [hp]
  simp [run_underlying ht, hz, h0]
theorem shape_of {r j : Nat} (h : (w.cell? ⟨r, j, none⟩).isSome = true) : ∃ t k, w.shape? r = some (t, k) ∧ k ≠ 0 := by
  unfold World.cell? at h
  unfold World.shape?
  cases hr : w.heap[r]? with
  | none => simp [hr] at h
  | some x =>
    cases x <;> simp [hr] at h ⊢
    rename_i c t f
    exact ⟨_, _, ⟨rfl, rfl⟩, by omega⟩
theorem sim_ovl {params results : Array TypeId} {tS e : TypeId} {ei : TypeInfo} {x y t : T} {vx vy : Value} {H' : Heap} (hp : params[0]? = some tS) (ht : P.underlying tS = some (.slice e)) (hi : P.info? e = some ei)
    (h : SR w0 g H w) (hx : VR g w x vx) (hy : VR g w y vy) (he : ovlT H ei.size x y = some (t, H')) : Sim P w0 g H w (Extern.SlicesOverlaps.overlaps params results #[vx, vy]) t H' := by
  have hz : (Go.sizeOf e).run P w = .ok ei.size w := by simp [sizeOf, run_ti hi]
  unfold ovlT at he
  cases hx <;> (try (simp only [reduceCtorEq] at he; done)) <;> (try (cases he; done))
  rename_i bv offv lv n1 r' o' q' cap' hφ' hc' hq'
  cases hy <;> (try (simp only [reduceCtorEq] at he; done)) <;> (try (cases he; done))
  rename_i b off len n2 r o q c hφ hc hq
  cases hbv : H[bv]? with
  | none => simp [hbv] at he
  | some zv =>
    cases hb : H[b]? with
    | none => cases zv <;> simp [hbv, hb] at he
    | some z =>
      cases zv <;> cases z <;> simp only [hbv, hb] at he <;> (try (cases he; done))
      rename_i csv cs
      split at he
      · rename_i hcc
        obtain ⟨hne, rfl, hn2, hpos⟩ := hcc
        simp only [Option.some.injEq, Prod.mk.injEq] at he
        obtain ⟨rfl, rfl⟩ := he
        subst hn2
        obtain ⟨a1, a2, a3⟩ := h.blk _ _ hbv r' o' q' hφ'
        obtain ⟨b1, b2, b3⟩ := h.blk _ _ hb r o q hφ
        by_cases hr : r' = r
        · subst hr
          refine Sim.same h (run_ovl_same tS e hp ht _ hz _ _ _ _ _ _ rfl fun hl hl2 hs hh => ?_) (.bool _)
          obtain ⟨h1, h2⟩ := hh
          simp only at h1 h2
          have m1 : lv * ei.size ≤ cap' * ei.size := Nat.mul_le_mul_right _ hc'
          have m2 : len * ei.size ≤ c * ei.size := Nat.mul_le_mul_right _ hc
          have p1 : 0 < lv * ei.size := Nat.mul_pos (by omega) (by omega)
          have p2 : 0 < len * ei.size := Nat.mul_pos (by omega) (by omega)
          have k1 := (a2 (max (o' + offv) (o + off)) (by omega) (by omega)).1
          have k2 := (b2 (max (o' + offv) (o + off)) (by omega) (by omega)).1
          rw [k1] at k2; cases k2; exact hne rfl
        · by_cases hlv : lv = 0
          · subst hlv
            refine Sim.same h ?_ (.bool _)
            exact run_ovl_zero tS e hp ht _ hz _ _ _ _ _ _ (.inl rfl)
          · by_cases hs : ei.size = 0
            · refine Sim.same h ?_ (.bool _)
              exact run_ovl_zero tS e hp ht _ hz _ _ _ _ _ _ (.inr hs)
            · have m1 : lv * ei.size ≤ cap' * ei.size := Nat.mul_le_mul_right _ hc'
              have p1 : 0 < lv * ei.size := Nat.mul_pos (by omega) (by omega)
              have hcv := a2 (o' + offv) (by omega) (by omega)
              have hcb := b2 o (Nat.le_refl _) (by omega)
              have hnew : w0.heap.size ≤ r' := by
                rcases Nat.lt_or_ge r' w0.heap.size with hlt | hge
                · have := h.imm0 r' (o' + offv) hlt; rw [hcv.1] at this; cases this
                · exact hge
              obtain ⟨tA, kA, hsa, _⟩ := shape_of hcv.2.2
              obtain ⟨tB, kB, hsb, hkB⟩ := shape_of hcb.2.2
              exact Sim.same h (run_ovl_apart tS e hp ht _ hz _ _ _ _ _ _ hr tA tB kA kB hsa hsb hkB (hcv.2.1 _) (hcv.2.1 _)) (.bool _)
      · cases he
end
end Go.Rmp
end
