/- Part of a proof of a law of this seat: the machine of plain values, its simulation, and the contracts of the functions that the law reaches. Conditions: none beyond the given row. -/
import Derived.OrdersIn
import Derived.RangeFuncIn
import Derived.Laws.Sem
import Derived.Laws.World
import Derived.Laws.IdiomCopy
import Derived.ChangeKeysEq
import Derived.Laws.StructEq
import Derived.Laws.BytesString
import Derived.IntWalk
import Derived.Lib.AppendZerosOnto
import Derived.Lib.Overlaps
import Derived.Maps.RangeRun
import Derived.RangeFuncRecord
open Int renaming reduceLT → q3, reduceLE → q4, reduceBEq → q5, reduceBNe → q6, reduceEq → q7
open Nat renaming reduceAdd → q8, reduceLeDiff → q9, reduceLT → j1, reduceEqDiff → j2
set_option linter.unusedSimpArgs false
set_option linter.unusedVariables false
set_option linter.unnecessarySimpa false
set_option maxHeartbeats 4000000
section
namespace Go.Rmp
inductive SK where
 | nil|arg|full|own (t e:Nat)
 deriving DecidableEq
inductive T where
 | int (k:IntKind) (n:Int)
 | bool (b:Bool)
 | str (s:ByteArray)
 | bR
 | ptr (b off:Nat)
 | dk (cs:List T)
 | gA
 | map (b:Nat)
 | sl (k:SK) (es:List (List T))
 | ax (b off len n:Nat)
 | ej (b off len n c:Nat)
 | mT
 | fn (f:Nat) (kS:List T)
 | nu (b:Nat)
 | gB
 | agg (cs:List T)
 | bJ (vs:List T)
abbrev av:=Nat→T
def b0:T:=.bJ []
def T.one:T→Bool
 | .agg _ | .bJ _=>false
 | _=>true
def T.cells?:T→Option (List T)
 | .agg cs=>some cs
 | .bJ _=>none
 | v=>some [v]
def T.erase:T→T
 | .sl _ es=>.sl .arg es
 | v=>v
inductive X where
 | r (t:Nat)
 | c (v:T)
def X.ev (R:av):X→T
 | .r t=>R t
 | .c v=>v
def oH (R:av)(d:Nat)(v:T):av:=fun t=>if t=d then v else R t
def bC (R:av)(d:Option Nat)(v:T):av:=match d with|some d=>oH R d v|none=>R
inductive Iv where|ptr|slice|map|func
 deriving DecidableEq
inductive Lc where|str|sl|map
inductive vW where|int|str|bool
 deriving DecidableEq
inductive KT where
 | sc (t:vW)
 | st (l:List vW)
def T.yo:vW→T→Bool
 | .int,.int _ _ | .str,.str _ | .bool,.bool _=>true
 | _,_=>false
def fO:List vW→List T→Bool
 | [],[]=>true
 | t :: ts,v :: vs=>v.yo t&&fO ts vs
 | _,_=>false
def T.jh:KT→T→Bool
 | .sc t,v=>v.yo t
 | .st l,.agg cs=>fO l cs
 | _,_=>false
inductive Bo where
 | ay (x:X)
 | pick (c a b:X)
 | bin (op:BinOp) (x y:X)
 | mU (neg:Bool) (c:Iv) (x y:X)
 | beq (neg:Bool) (x y:X)
 | eqs (neg:Bool) (ks:List vW) (x y:X)
 | un (op:UnOp) (x:X)
 | iC (k:IntKind) (x:X)
 | uC (x:X)
 | cvb (x:X)
 | len (k:Lc) (x:X)
 | alloc (z:List T)
 | box (x:X)
 | build (z:List T) (ps:List (Nat×Nat×X))
 | oI (n:Nat) (z:List T) (ps:List (Nat×X))
 | ld (n:Nat) (ag:Bool) (x:X)
 | st (n:Nat) (a v:X)
 | kT (off:Nat) (x:X)
 | QT (off n:Nat) (ag:Bool) (x:X)
 | eI (st:Nat) (x i:X)
 | MH (n st:Nat) (x i:X)
 | QU (x i:X)
 | VT (n st:Nat) (ag:Bool) (x i:X)
 | QV (x:X) (lo hi:Option X)
 | fX (st:Nat) (x:X) (lo hi mx:Option X)
 | zC
 | nB (kt:KT) (z:T) (ok:Bool) (m k:X)
 | zD (kt:KT) (m k v:X)
 | del (kt:KT) (m k:X)
 | app (st bytes:Nat) (mu:Bool) (x y:X)
 | WW (mu:Bool) (bytes:Nat) (z:List T) (l c:X)
 | Iw (f:Nat) (kS:List X)
 | ext (i:Nat) (x:X)
 | mn (x y:X)
 | mx (x y:X)
 | uD (x:X)
 | cap (x:X)
 | Bg (n:Nat) (x y:X)
 | Qe (n:Nat) (x y:X)
 | MI (x:X)
 | qh (x:X)
 | MJ (x:X)
 | Qf (n:Nat) (z:List T) (x:X)
 | QW (n bytes:Nat) (z:List T) (x k:X)
 | MK (n:Nat) (z:List T) (ps:List (Nat×X))
abbrev Gd:=Option (Nat×Bool)
structure Rd where
 d:Nat
 op:Bo
 g:Gd
inductive Lq where
 | b (op:Bo)
 | call (f:Nat) (as:List X)
 | bD (f:X) (as:List X)
structure O where
 d:Option Nat
 op:Lq
 g:Gd
 Bh:List Rd
inductive C where
 | skip
 | ops (l:List O)
 | seq (a b:C)
 | cond (x:X) (a b:C)
 | block (id:Nat) (a:C)
 | loop (a:C)
 | exit (id:Nat)
 | ret
 | cL (n:Nat) (x:X) (ps:List Nat) (b6 body:C)
inductive Ex where
 | normal|exit (id:Nat)|ret
inductive ML where
 | ready|busy|done
 deriving DecidableEq
inductive B where
 | cells (cs:List T)
 | map (es:List (T×T))
 | tok (e:Nat)
 | loop (st:ML) (fE:Option Ex) (n:Nat) (R:Nat→T) (ps:List Nat) (b6 body:C)
 | zE
 | dead
 /-- a map that is ranged over: the places still to come;the range's block;the place last told -/
 | cT (es:List (T×T)) (ix:List Nat) (bi:Nat) (cur:Option Nat)
 | uE (b:Nat)
abbrev af:=List B
def jx (a b:ByteArray):Bool:=a.toList==b.toList
def strLt (a b:ByteArray):Bool:=Op.bytesLess a.toList b.toList
def cI (op:BinOp):T→T→Option T
 | .int k a,.int k' b =>
  match op with
  | .shl=>if b<0 then none else some (.int k (k.wrap (a*2^(min b.toNat k.bits))))
  | .shr=>if b<0 then none else some (.int k (a.fdiv (2^(min b.toNat k.bits))))
  | op =>
   if k=k' then
    match op with
    | .add=>some (.int k (k.wrap (a+b)))
    | .sub=>some (.int k (k.wrap (a-b)))
    | .mul=>some (.int k (k.wrap (a*b)))
    | .quo=>if b=0 then none else some (.int k (k.wrap (a.tdiv b)))
    | .rem=>if b=0 then none else some (.int k (a.tmod b))
    | .and=>some (.int k (k.wrap (BitVec.ofInt k.bits a &&& BitVec.ofInt k.bits b).toNat))
    | .or=>some (.int k (k.wrap (BitVec.ofInt k.bits a ||| BitVec.ofInt k.bits b).toNat))
    | .xor=>some (.int k (k.wrap (BitVec.ofInt k.bits a ^^^ BitVec.ofInt k.bits b).toNat))
    | .andNot=>some (.int k (k.wrap (BitVec.ofInt k.bits a &&& ~~~ BitVec.ofInt k.bits b).toNat))
    | .eql=>some (.bool (a==b))
    | .neq=>some (.bool (a != b))
    | .lss=>some (.bool (a<b))
    | .leq=>some (.bool (a≤b))
    | .gtr=>some (.bool (a>b))
    | .geq=>some (.bool (a≥b))
    | _=>none
   else none
 | .str a,.str b =>
  match op with
  | .add=>if a.size+b.size≤9223372036854775807 then some (.str (a++b))else none
  | .eql=>some (.bool (jx a b))
  | .neq=>some (.bool (!jx a b))
  | .lss=>some (.bool (strLt a b))
  | .leq=>some (.bool (strLt a b||jx a b))
  | .gtr=>some (.bool (!(strLt a b||jx a b)))
  | .geq=>some (.bool (!strLt a b))
  | _=>none
 | _,_=>none
def Lr (op:UnOp):T→Option T
 | .int k n =>
  match op with
  | .neg=>some (.int k (k.wrap (0-n)))
  | .xor=>some (.int k (k.wrap (BitVec.ofInt k.bits (if k.signed then -1 else k.max) ^^^ BitVec.ofInt k.bits n).toNat))
  | _=>none
 | .bool b=>match op with | .not=>some (.bool !b)|_=>none
 | _=>none
def kv:Iv→T→Option Bool
 | .ptr,.bR=>some true
 | .ptr,.ptr _ _ | .ptr,.dk _=>some false
 | .slice,.sl .nil []=>some true
 | .slice,.sl .full _ | .slice,.sl (.own _ _) _ | .slice,.sl .arg (_ :: _) | .slice,.ax _ _ _ _=>some false
 | .map,.gA=>some true
 | .map,.map _=>some false
 | .func,.mT=>some true
 | .func,.fn _ _=>some false
 | _,_=>none
def dn (c:Iv)(x y:T):Option Bool :=
 match kv c x,kv c y with
 | some true,some b=>some b
 | some b,some true=>some b
 | _,_=>none
def ji:T→T→Option Bool
 | .int k a,.int k' b=>if k=k' then some (a==b)else none
 | .str a,.str b=>some (jx a b)
 | .bool a,.bool b=>some (a==b)
 | _,_=>none
def cd:List T→List T→Option Bool
 | [],[]=>some true
 | a :: as,b :: bs=>match ji a b,cd as bs with
  | some x,some y=>some (x&&y)
  | _,_=>none
 | _,_=>none
def gW:T→T→Option Bool
 | .agg as,.agg bs=>cd as bs
 | a,b=>ji a b
def dp (k:T):List (T×T)→Option (Option Nat)
 | []=>some none
 | e :: es=>match gW k e.1 with
  | some true=>some (some 0)
  | some false=>(dp k es).map (Option.map (·+1))
  | none=>none
def gE (H:af):T→Option (List (T×T))
 | .gA=>some []
 | .map b=>match H[b]? with|some (.map es)=>some es|some (.cT es _ _ _)=>some es|_=>none
 | _=>none
def mG (cells:List T):List (Nat×List T)→Option (List T)
 | []=>some cells
 | (off,vs) :: rest=>if off+vs.length≤cells.length then mG (cells.take off++vs++cells.drop (off+vs.length)) rest else none
def fu (R:av):List (Nat×Nat×X)→Option (List (Nat×List T))
 | []=>some []
 | (off,n,x) :: rest=>match (x.ev R).cells?,fu R rest with
  | some cs,some l=>if cs.length=n then some ((off,cs) :: l)else none
  | _,_=>none
def jy (n:Nat)(es:List (List T))(R:av):List (Nat×X)→Option (List (List T))
 | []=>some es
 | (i,x) :: rest=>match (x.ev R).cells? with
  | some cs=>if cs.length=n∧i<es.length then jy n (es.set i (cs.map T.erase)) R rest else none
  | none=>none
def jz (n:Nat)(es:List (List T))(R:av):List (Nat×X)→Option (List (List T))
 | []=>some es
 | (i,x) :: rest=>match (x.ev R).cells? with
  | some cs=>if cs.length=n∧i<es.length then jz n (es.set i cs) R rest else none
  | none=>none
def nC (H:af)(n:Nat):T→Option (List T)
 | .ptr b off=>match H[b]? with
  | some (.cells cs)=>if off+n≤cs.length then some ((cs.drop off).take n)else none
  | _=>none
 | .dk cs=>if n≤cs.length then some (cs.take n)else none
 | _=>none
def valOf (ag:Bool)(cs:List T):Option T :=
 if ag then some (.agg cs)else match cs with | [v]=>some v|_=>none
def QX (H:af)(vs:List T):T→Option af
 | .ptr b off=>match H[b]? with
  | some (.cells cs)=>if off+vs.length≤cs.length then some (H.set b (.cells (cs.take off++vs++cs.drop (off+vs.length))))else none
  | _=>none
 | _=>none
def wz (off:Nat):T→Option T
 | .ptr b o=>some (.ptr b (o+off))
 | .dk cs=>if off<cs.length then some (.dk (cs.drop off))else none
 | _=>none
def dw (n i:Nat):T→Option T
 | .sl _ es=>match es[i]? with
  | some c=>if c.length=n∧n≠0 then some (.dk c)else none
  | none=>none
 | .ax b off len n'=>if n'=n∧i<len∧n≠0 then some (.ptr b (off+i*n))else none
 | _=>none
def bA (H:af)(n:Nat):T→Option (List (List T))
 | .sl _ es=>if es.all (·.length==n)then some es else none
 | .ax b off len n'=>match H[b]? with
  | some (.cells cs)=>if n'=n∧off+len*n≤cs.length then some ((List.range len).map fun i=>(cs.drop (off+i*n)).take n)else none
  | _=>none
 | .str s=>if n=1 then some (s.data.toList.map fun c=>[.int .u8 c.toNat])else none
 | _=>none
def bytesOf:List (List T)→Option (List UInt8)
 | []=>some []
 | [.int .u8 n] :: es=>(bytesOf es).map (UInt8.ofNat n.toNat :: ·)
 | _=>none
def iH (H:af):Lc→T→Option Nat
 | .str,.str s=>some s.size
 | .sl,.sl _ es=>some es.length
 | .sl,.ax _ _ len _=>some len
 | .sl,.ej _ _ len _ _=>some len
 | .map,.gA=>some 0
 | .map,.map b=>match H[b]? with
  | some (.map es)=>some es.length
  | some (.cT es _ _ _)=>some es.length
  | _=>none
 | _,_=>none
def cq:T→Option Nat
 | .int _ n=>if 0≤n then some n.toNat else none
 | _=>none
def fH (R:av)(d:Nat):Option X→Option Nat
 | none=>some d
 | some x=>cq (x.ev R)
def SK.cut (k:SK)(len lo hi:Nat):SK :=
 match k with
 | .nil=>.nil
 | .arg=>.arg
 | .full=>if hi=len then .full else .arg
 | .own t e=>if hi=len∧lo<len then .own t e else .arg
def cU (jN bytes:Nat):Bool:=(jN+jN/4+512)*bytes≤281474976710656
def gX (H:af)(bytes:Nat)(k:SK)(es new:List (List T)):Option (T×af) :=
 match new with
 | []=>some (.sl k es,H)
 | _ =>
  if cU (es.length+new.length) bytes then
   match k with
   | .nil | .full=>some (.sl (.own H.length (es.length+new.length)) (es++new.map (·.map T.erase)),H++[.tok (es.length+new.length)])
   | .own t e=>match H[t]? with
    | some (.tok e')=>if e=e' then some (.sl (.own t (e+new.length)) (es++new.map (·.map T.erase)),H.set t (.tok (e+new.length)))else none
    | _=>none
   | .arg=>none
  else none
def Db:T→Bool
 | .sl _ _ | .ax _ _ _ _=>true
 | _=>false
def jA (H:af)(n bytes:Nat)(x:T)(new:List (List T)):Option (T×af) :=
 match new with
 | []=>if Db x then some (x,H)else none
 | _ =>
  match x with
  | .sl .nil es | .sl .full es =>
   if cU (es.length+new.length) bytes∧es=[]then some (.ax H.length 0 new.length n,H++[.cells new.flatten])else none
  | .ax b off len n'=>match H[b]? with
   | some (.cells cs) =>
    if n'=n∧off=0∧len*n=cs.length∧cU (len+new.length) bytes then
     some (.ax H.length 0 (len+new.length) n,H.set b .dead++[.cells (cs++new.flatten)])else none
   | _=>none
  | _=>none
def uF:T→T
 | .ej b off len n _=>.ax b off len n
 | t=>t
def gY (H:af)(n k:Nat):T→Option (List (List T))
 | .ax b off _ n' | .ej b off _ n' _=>match H[b]? with
  | some (.cells cs)=>if n'=n∧off+k*n≤cs.length then some ((List.range k).map fun i=>(cs.drop (off+i*n)).take n)else none
  | _=>none
 | _=>none
def Dc:T→Option Nat
 | .ax _ _ len _ | .ej _ _ len _ _=>some len
 | _=>none
def Bi (H:af)(n:Nat)(x y:T):Option (T×af) :=
 match x,Dc y with
 | .ax b off len n',some ly | .ej b off len n' _,some ly =>
  match H[b]?,gY H n (min ly len) y with
  | some (.cells cs),some new =>
   if n'=n∧n≠0∧off≤cs.length then some (.int .i64 (min ly len:Nat),H.set b (.cells (cs.take off++new.flatten++cs.drop (off+(min ly len)*n))))else none
  | _,_=>none
 | _,_=>none
def Dd (H:af)(n bytes:Nat)(z:List T)(x:T)(k:Nat):Option (T×af) :=
 match x with
 | .ej b off len n' c=>match gY H n len x with
  | some es=>if n'=n∧n≠0∧0<k∧c<len+k∧z.length=n∧cU (len+k) bytes then some (.ax H.length 0 (len+k) n,H++[.cells (es.flatten++(List.replicate k z).flatten)])else none
  | none=>none
 | _=>none
def Bj (H:af)(n:Nat)(x y:T):Option (T×af) :=
 match x,y with
 | .ax bv _ _ n1,.ej b _ len n2 _ =>
  match H[bv]?,H[b]? with
  | some (.cells _),some (.cells cs)=>if bv≠b∧n1=n∧n2=n∧0<cs.length then some (.bool false,H)else none
  | _,_=>none
 | _,_=>none
def Ls (R:av)(l:List X):List T:=l.map (X.ev R)
def ar (R:av)(H:af):Bo→Option (T×af)
 | .ay x=>some (x.ev R,H)
 | .pick c a b=>match c.ev R with
  | .bool t=>some (if t then a.ev R else b.ev R,H)
  | _=>none
 | .bin op x y=>(cI op (x.ev R) (y.ev R)).map (·,H)
 | .mU neg c x y=>(dn c (x.ev R) (y.ev R)).map fun b=>(.bool (if neg then !b else b),H)
 | .beq neg x y=>match x.ev R,y.ev R with
  | .bool a,.bool b=>some (.bool (if neg then !(a==b)else a==b),H)
  | _,_=>none
 | .eqs neg ks x y=>match x.ev R,y.ev R with
  | .agg as,.agg bs=>if fO ks as then(cd as bs).map fun b=>(.bool (if neg then !b else b),H)else none
  | _,_=>none
 | .un op x=>(Lr op (x.ev R)).map (·,H)
 | .iC k x=>match x.ev R with
  | .int _ n=>some (.int k (k.wrap n),H)
  | _=>none
 | .uC x=>match bA H 1 (x.ev R)with
  | some es=>match x.ev R with
   | .str _=>none
   | _=>(bytesOf es).map fun l=>(.str ⟨l.toArray⟩,H)
  | none=>none
 | .cvb x=>match x.ev R with
  | .str s=>if s.size=0 then some (.sl .arg [],H)else if s.size≤281474976710656 then some (.sl (.own H.length s.size) (s.data.toList.map fun c=>[.int .u8 c.toNat]),H++[.tok s.size])else none
  | _=>none
 | .len k x=>(iH H k (x.ev R)).map fun (n:Nat)=>(T.int .i64 (n:Int),H)
 | .alloc z=>some (.ptr H.length 0,H++[.cells z])
 | .box x=>(x.ev R).cells?.map fun cs=>(.ptr H.length 0,H++[.cells cs])
 | .build z ps=>match fu R ps with
  | some l=>(mG z l).map fun cs=>(.agg cs,H)
  | none=>none
 | .oI n z ps=>(jy z.length (List.replicate n z) R ps).map fun es=>(.sl .full es,H)
 | .ld n ag x=>match nC H n (x.ev R)with
  | some cs=>(valOf ag cs).map (·,H)
  | none=>none
 | .st n a v=>match (v.ev R).cells? with
  | some vs=>if vs.length=n then(QX H vs (a.ev R)).map (b0,·)else none
  | none=>none
 | .kT off x=>(wz off (x.ev R)).map (·,H)
 | .QT off n ag x=>match x.ev R with
  | .agg cs=>if off+n≤cs.length then(valOf ag ((cs.drop off).take n)).map (·,H)else none
  | _=>none
 | .eI n x i=>(cq (i.ev R)).bind fun i=>(dw n i (x.ev R)).map (·,H)
 | .MH len n x i=>match x.ev R,cq (i.ev R)with
  | .ptr b off,some i=>if i<len then some (.ptr b (off+i*n),H)else none
  | _,_=>none
 | .QU x i=>match x.ev R,cq (i.ev R)with
  | .str s,some i=>(s.data[i]?).map fun c=>(.int .u8 c.toNat,H)
  | _,_=>none
 | .VT len n ag x i=>match x.ev R,cq (i.ev R)with
  | .agg cs,some i=>if i<len∧i*n+n≤cs.length then(valOf ag ((cs.drop (i*n)).take n)).map (·,H)else none
  | _,_=>none
 | .QV x lo hi=>match x.ev R with
  | .str s=>match fH R 0 lo,fH R s.size hi with
   | some l,some h=>if l≤h∧h≤s.size then some (.str (s.extract l h),H)else none
   | _,_=>none
  | _=>none
 | .fX n x lo hi mx=>match x.ev R with
  | .sl k es=>match fH R 0 lo,fH R es.length hi,mx with
   | some l,some h,none=>if l≤h∧h≤es.length∧es.all (·.length==n)then some (.sl (k.cut es.length l h) ((es.take h).drop l),H)else none
   | some l,some h,some m=>match cq (m.ev R)with
    | some m =>
     if l≤h∧h≤m∧m≤es.length∧es.all (·.length==n)then
      some (.sl (if k=.nil then .nil else if es=[]∧k=.arg then .arg else if h=m then .full else .arg) ((es.take h).drop l),H)else none
    | none=>none
   | _,_,_=>none
  | .ax b off len n'=>match fH R 0 lo,fH R len hi,mx with
   | some l,some h,none =>
    if n'=n∧l≤h∧h≤len then some (if l=h then(if l=0 then .ax b off 0 n else .sl .arg [])else .ax b (off+l*n) (h-l) n,H)else none
   | _,_,_=>none
  | .ej b off len n' c=>match fH R 0 lo,fH R len hi,mx with
   | some l,some h,none =>
    if n'=n∧l≤h∧h≤c then some (if l<c∨l=0 then .ej b (off+l*n) (h-l) n (c-l)else .sl .arg [],H)else none
   | _,_,_=>none
  | _=>none
 | .zC=>some (.map H.length,H++[.map []])
 | .nB kt z ok m k =>
  if (k.ev R).jh kt then
   match gE H (m.ev R)with
   | some es=>match dp (k.ev R) es with
    | some (some i)=>match es[i]? with
     | some e=>some (if ok then .bJ [e.2,.bool true]else e.2,H)
     | none=>none
    | some none=>some (if ok then .bJ [z,.bool false]else z,H)
    | none=>none
   | none=>none
  else none
 | .zD kt m k v=>match m.ev R with
  | .map b=>if (k.ev R).jh kt then match H[b]? with
   | some (.map es)=>match dp (k.ev R) es with
    | some (some i)=>some (b0,H.set b (.map (es.set i (k.ev R,v.ev R))))
    | some none=>some (b0,H.set b (.map (es++[(k.ev R,v.ev R)])))
    | none=>none
   | _=>none else none
  | _=>none
 | .del kt m k=>match m.ev R with
  | .map b=>if (k.ev R).jh kt then match H[b]? with
   | some (.map es)=>match dp (k.ev R) es with
    | some (some i)=>some (.bJ [],H.set b (.map (es.eraseIdx i)))
    | some none=>some (.bJ [],H)
    | none=>none
   | _=>none else none
  | _=>none
 | .app n bytes mu x y=>match bA H n (y.ev R)with
  | some new=>if mu then jA H n bytes (uF (x.ev R)) new else match x.ev R with
   | .sl k es=>if es.all (·.length==n)then gX H bytes k es new else none
   | _=>none
  | none=>none
 | .WW mu bytes z l c=>match cq (l.ev R),cq (c.ev R)with
  | some l,some c =>
   if l≤c∧c*bytes≤281474976710656∧c≤9223372036854775807 then
    if mu then some (.ax H.length 0 l z.length,H++[.cells (List.replicate l z).flatten])
    else if l=0 then some (.sl .arg [],H)else some (.sl (.own H.length l) (List.replicate l z),H++[.tok l])
   else none
  | _,_=>none
 | .Iw f kS=>some (.fn f (Ls R kS),H)
 | .ext i x=>match x.ev R with
  | .bJ vs=>(vs[i]?).map (·,H)
  | _=>none
 | .mn x y=>match x.ev R,y.ev R with
  | .int k a,.int _ b=>some (.int k (if b<a then b else a),H)
  | _,_=>none
 | .mx x y=>match x.ev R,y.ev R with
  | .int k a,.int _ b=>some (.int k (if b>a then b else a),H)
  | _,_=>none
 | .uD x=>match x.ev R with
  | .bR | .gB | .mT=>none
  | v=>some (v,H)
 | .cap x=>match x.ev R with
  | .ej _ _ _ _ c=>some (.int .i64 (c:Nat),H)
  | _=>none
 | .Bg n x y=>Bi H n (x.ev R) (y.ev R)
 | .MI x=>match x.ev R with
  | .map b=>(gE H (.map b)).map fun es=>(.ptr H.length 0,H.set b (.cT es (List.range es.length) H.length none)++[.uE b])
  | _=>none
 | .qh _=>none
 | .MJ x=>match x.ev R with
  | .ptr bi 0=>match H[bi]? with
   | some (.uE b)=>match H[b]? with
    | some (.cT es _ QY (some c))=>if QY=bi then(es[c]?).map fun e=>(.bJ [e.1,e.2],H)else none
    | _=>none
   | _=>none
  | _=>none
 | .Qf n z x=>match x.ev R with
  | .ax b off len n'=>match H[b]? with
   | some (.cells cs)=>if n'=n∧z.length=n∧off+len*n≤cs.length then some (b0,H.set b (.cells (cs.take off++(List.replicate len z).flatten++cs.drop (off+len*n))))else none
   | _=>none
  | _=>none
 | .Qe n x y=>Bj H n (x.ev R) (y.ev R)
 | .QW n bytes z x k=>(cq (k.ev R)).bind fun k=>Dd H n bytes z (x.ev R) k
 | .MK n z ps=>(jz z.length (List.replicate n z) R ps).bind fun es=>if z.length≠0 then some (.ax H.length 0 n z.length,H++[.cells es.flatten])else none
def bO (R:av):Gd→Bool
 | none=>true
 | some (t,b)=>match R t with
  | .bool c=>c==b
  | _=>false
inductive Rs where
 | t (r:Nat)
 | cl (r n:Nat) (ag:Bool)
structure Fn where
 n:Nat
 np:Nat
 res:List Rs
 body:C
structure Env where
 fn:Nat→Option Fn
 oO:Nat→List T→af→(T→af→Prop)→Prop
 mono:∀f az H (Q Q':T→af→Prop),oO f az H Q→(∀t H',Q t H'→Q' t H')→oO f az H Q'
inductive J where
 | code (c:C) (R:av)
 | ops (l:List O) (R:av)
 | call (f:Nat) (as:List T)
inductive Out where
 | ex (e:Ex) (R:av)
 | val (v:T)
def C.mz:C→Bool
 | .seq a b | .cond _ a b=>a.mz||b.mz
 | .block _ a | .loop a=>a.mz
 | .cL _ _ _ _ _=>true
 | _=>false
def iP (R:av):List Nat→List T→av
 | p :: ps,v :: vs=>iP (oH R p v) ps vs
 | _,_=>R
def De:T→Option Nat
 | .ptr b 0=>some b
 | _=>none
def qA:List T→Option (List Nat)
 | []=>some []
 | t :: ts=>match De t,qA ts with
  | some b,some bs=>some (b :: bs)
  | _,_=>none
def marks:T→Option (List Nat)
 | .bJ ts=>qA ts
 | _=>none
def nD (t:T)(b:Nat):T:=match t with
 | .bJ ts=>.bJ (.ptr b 0 :: ts)
 | t=>t
def kill (H:af):List Nat→af
 | []=>H
 | b :: bs=>kill (H.set b .dead) bs
def Df:Option Ex→Ex
 | none=>.normal
 | some e=>e
def gF (as:List T):av:=fun t=>as.getD t b0
def yp (R:av)(H:af):Rs→Option T
 | .t r=>some (R r)
 | .cl r n ag=>match nC H n (R r)with
  | some cs=>valOf ag cs
  | none=>none
def sF (R:av)(H:af):List Rs→Option (List T)
 | []=>some []
 | x :: xs=>match yp R H x,sF R H xs with
  | some v,some vs=>some (v :: vs)
  | _,_=>none
def Bl:List T→T
 | [v]=>v
 | l=>.bJ l
def p0 (R:av)(H:af)(l:List Rs):Option T:=(sF R H l).map Bl
def jO (R:av)(H:af)(l:List Rd):Prop:=∀r∈l,bO R r.g=true→ar R H r.op=some (R r.d,H)
def sG (cs:List T)(off len n:Nat):List (List T):=(List.range len).map fun i=>(cs.drop (off+i*n)).take n
def uG (b:Nat)(cs:List T):T→T
 | .ax b' off len n=>if b'=b∧off+len*n≤cs.length then .sl .arg (sG cs off len n)else .ax b' off len n
 | t=>t
def Bm (b:Nat)(cs:List T):T→T
 | .bJ vs=>.bJ (vs.map (uG b cs))
 | t=>uG b cs t
def zF (b:Nat):T→Prop
 | .bJ vs=>∃off len n,T.ax b off len n∈vs
 | .ax b' _ _ _=>b'=b
 | _=>False
def nE (H:af)(b bi:Nat)(es:List (T×T))(ix:List Nat)(t:T)(H':af):Prop :=
 (ix=[]∧t=.bJ [.bool false]∧H'=H.set b (.map es))∨∃i e,i∈ix∧es[i]?=some e∧t=.bJ [.bool true,e.1,e.2]∧H'=H.set b (.cT es (ix.erase i) bi (some i))
inductive W (E:Env):J→af→(Out→af→Prop)→Prop
 | skip {R H Q} (h:Q (.ex .normal R) H):W E (.code .skip R) H Q
 | exit {id R H Q} (h:Q (.ex (.exit id) R) H):W E (.code (.exit id) R) H Q
 | ret {R H Q} (h:Q (.ex .ret R) H):W E (.code .ret R) H Q
 | Qg {l R H Q} (h:W E (.ops l R) H Q):W E (.code (.ops l) R) H Q
 | seq {a b R H Q} (M:Out→af→Prop) (h1:W E (.code a R) H M) (h2:∀R' H',M (.ex .normal R') H'→W E (.code b R') H' Q)
   (h3:∀o H',M o H'→(∀R',o≠.ex .normal R')→Q o H'):W E (.code (.seq a b) R) H Q
 | cond {x a b R H Q} (t:Bool) (hx:x.ev R=.bool t) (h:W E (.code (if t then a else b) R) H Q):W E (.code (.cond x a b) R) H Q
 | block {id a R H Q} (M:Out→af→Prop) (h1:W E (.code a R) H M) (h2:∀R' H',M (.ex (.exit id) R') H'→Q (.ex .normal R') H')
   (h3:∀o H',M o H'→(∀R',o≠.ex (.exit id) R')→Q o H'):W E (.code (.block id a) R) H Q
 | loop {a R H Q} (M:Out→af→Prop) (h1:W E (.code a R) H M) (h2:∀R' H',M (.ex .normal R') H'→W E (.code (.loop a) R') H' Q)
   (h3:∀o H',M o H'→(∀R',o≠.ex .normal R')→Q o H'):W E (.code (.loop a) R) H Q
 | nil {R H Q} (h:Q (.ex .normal R) H):W E (.ops [] R) H Q
 | no {o l R H Q} (hg:bO R o.g=false) (h:W E (.ops l (bC R o.d b0)) H Q):W E (.ops (o :: l) R) H Q
 | op {d b g s l R H Q v H'} (hg:bO R g=true) (he:ar R H b=some (v,H')) (hs:jO R H' s) (h:W E (.ops l (bC R d v)) H' Q):W E (.ops (⟨d,.b b,g,s⟩ :: l) R) H Q
 | call {d f as g s l R H Q} (M:Out→af→Prop) (hg:bO R g=true) (h1:W E (.call f (as.map (X.ev R))) H M)
   (hs:∀v H',M (.val v) H'→jO R H' s) (h2:∀v H',M (.val v) H'→W E (.ops l (bC R d v)) H' Q):W E (.ops (⟨d,.call f as,g,s⟩ :: l) R) H Q
 | bD {d x f cs as g s l R H Q} (M:Out→af→Prop) (hg:bO R g=true) (hf:x.ev R=.fn f cs) (h1:W E (.call f (as.map (X.ev R)++cs)) H M)
   (hs:∀v H',M (.val v) H'→jO R H' s) (h2:∀v H',M (.val v) H'→W E (.ops l (bC R d v)) H' Q):W E (.ops (⟨d,.bD x as,g,s⟩ :: l) R) H Q
 | Bn {d neg c x y s l R H Q} (hs:s=[]) (h:∀b:Bool,W E (.ops l (bC R d (.bool b))) H Q) (hx:x.ev R=.sl .arg []) (hy:y.ev R=.sl .nil []) (hc:c=.slice) :
   W E (.ops (⟨d,.b (.mU neg c x y),none,s⟩ :: l) R) H Q
 | nu {d x b as g s l R H Q n R0 ps b6 body} (M1 M:Out→af→Prop) (hg:bO R g=true) (hf:x.ev R=.nu b) (hb:H[b]?=some (.loop .ready none n R0 ps b6 body)) (hn:as.length=ps.length)
   (h1:W E (.code b6 (iP R0 ps (as.map (X.ev R)))) H M1) (Bp:∀o H',M1 o H'→(∃R1,o=.ex .normal R1)∧H'[b]?=some (.loop .ready none n R0 ps b6 body))
   (h2:∀R1 H1,M1 (.ex .normal R1) H1→W E (.code body R1) (H1.set b (.loop .busy none n R0 ps b6 body)) M) (Bq:∀o H',M o H'→H'[b]?=some (.loop .busy none n R0 ps b6 body))
   (zG:∀R' H',M (.ex .normal R') H'→jO R (H'.set b (.loop .ready none n R0 ps b6 body)) s)
   (h3:∀R' H',M (.ex .normal R') H'→W E (.ops l (bC R d (.bool true))) (H'.set b (.loop .ready none n R0 ps b6 body)) Q)
   (CP:∀e R' H',M (.ex e R') H'→e≠.normal→jO R (H'.set b (.loop .done (some e) n R0 ps b6 body)) s)
   (h4:∀e R' H',M (.ex e R') H'→e≠.normal→W E (.ops l (bC R d (.bool false))) (H'.set b (.loop .done (some e) n R0 ps b6 body)) Q):W E (.ops (⟨d,.bD x as,g,s⟩ :: l) R) H Q
 | cL {n x ps b6 body R H Q f cs} (M:Out→af→Prop) (hx:x.ev R=.fn f cs) (h1:W E (.call f (.nu (H.length+1) :: cs)) (H++[.zE,.loop .ready none n R ps b6 body]) M)
   (h2:∀v H',M (.val v) H'→∃st fE,st≠.busy∧fE≠some .normal∧H'[H.length+1]?=some (.loop st fE n R ps b6 body)∧Q (.ex (Df fE) (oH R n (nD (R n) H.length))) (H'.set (H.length+1) .dead)) :
   W E (.code (.cL n x ps b6 body) R) H Q
 | Qh {f as H Q fn} (M:Out→af→Prop) (hf:E.fn f=some fn) (hn:as.length=fn.np) (h1:W E (.code fn.body (gF as)) H M)
   (h2:∀o H',M o H'→∃R' bs,(o=.ex .normal R'∨o=.ex .ret R')∧marks (R' fn.n)=some bs∧bs.Nodup∧(∀b∈bs,H'[b]?=some .zE)∧∃v,p0 R' (kill H' bs) fn.res=some v∧Q (.val v) (kill H' bs)):W E (.call f as) H Q
 | fn {f as H Q fn} (M:Out→af→Prop) (hf:E.fn f=some fn) (hr:fn.body.mz=false) (hn:as.length=fn.np) (h1:W E (.code fn.body (gF as)) H M)
   (h2:∀o H',M o H'→∃R',(o=.ex .normal R'∨o=.ex .ret R')∧∃v,p0 R' H' fn.res=some v∧Q (.val v) H'):W E (.call f as) H Q
 | Br {f as H Q b off len n} (i:Nat) (M:Out→af→Prop) (hi:as[i]?=some (.ax b off len n)) (h1:∀c,len≤c→W E (.call f (as.set i (.ej b off len n c))) H M) (h2:∀v H',M (.val v) H'→Q (.val (uF v)) H'):W E (.call f as) H Q
 | qa {f as H Q} (M:Out→af→Prop) (h1:W E (.call f as) H M) (h2:∀o H',M o H'→∃v b cs,o=.val v∧zF b v∧H'[b]?=some (.cells cs)∧Q (.val (Bm b cs v)) (H'.set b .dead)):W E (.call f as) H Q
 | qh {d x g s l R H Q b bi es ix cur} (hg:bO R g=true) (hx:x.ev R=.ptr bi 0) (hb:H[b]?=some (.cT es ix bi cur))
   (hs:∀t H',nE H b bi es ix t H'→jO R H' s) (h:∀t H',nE H b bi es ix t H'→W E (.ops l (bC R d t)) H' Q):W E (.ops (⟨d,.b (.qh x),g,s⟩ :: l) R) H Q
 | shr {f as H Q} (M:Out→af→Prop) (h1:W E (.call f as) H M) (h2:∀o H',M o H'→∃v b cs k,o=.val v∧zF b v∧H'[b]?=some (.cells cs)∧Q (.val v) (H'.set b (.cells (cs.take k)))):W E (.call f as) H Q
 | Dg {f as H Q b off len n cs} (i:Nat) (hi:as[i]?=some (.ax b off len n)) (hb:H[b]?=some (.cells cs)) (h:W E (.call f (as.map (Bm b cs))) (H.set b .dead) Q):W E (.call f as) H Q
 | oO {f as H Q} (h:E.oO f as H fun v H'=>Q (.val v) H'):W E (.call f as) H Q
inductive Ow where
 | free|mA|mut (b:Nat)|spare (t:Nat)
 deriving DecidableEq
structure Ctx where
 φ:Nat→Option (Nat×Nat×Nat)
 κ:Nat→Nat→Ow
 π:Nat→Nat→Option (Nat×Nat×Nat)
 ck:Nat→C→Code→Prop
def Bt (g:Ctx)(w:World)(r o:Nat)(v:Value):Prop:=g.κ r o=.mA∧w.cell? ⟨r,o,none⟩=some v
def iD (g:Ctx)(k:SK)(r o len cap n:Nat):Prop :=
 match k with
 | .nil=>False
 | .arg=>True
 | .full=>cap=len
 | .own t e=>g.π t e=some (r,o+len*n,o+cap*n)∧0<len
inductive VR (g:Ctx)(w:World):T→Value→Prop
 | int (k n):VR g w (.int k n) (.int k n)
 | bool (b):VR g w (.bool b) (.bool b)
 | str (s):VR g w (.str s) (.string s)
 | bR:VR g w .bR (.pointer none)
 | ptr {b off r o q} (h:g.φ b=some (r,o,q)):VR g w (.ptr b off) (.pointer (some ⟨r,o+off,none⟩))
 | dk {cs r o} (cV:Nat→Value) (h1:∀(j:Nat) (t:T),cs[j]?=some t→t.one=true∧Bt g w r (o+j) (cV j)) (h2:∀(j:Nat) (t:T),cs[j]?=some t→VR g w t (cV j)) :
   VR g w (.dk cs) (.pointer (some ⟨r,o,none⟩))
 | gA:VR g w .gA (.map none)
 | map {b r o q} (h:g.φ b=some (r,o,q)):VR g w (.map b) (.map (some r))
 | slnil:VR g w (.sl .nil []) (.slice none 0 0)
 | iQ (a:Option Addr):VR g w (.sl .arg []) (.slice a 0 0)
 | sl {k es r o cap n} (cV:Nat→Nat→Value) (hk:iD g k r o es.length cap n) (hc:es.length≤cap) (hn:∀c∈es,c.length=n)
   (h1:∀(i j:Nat) (c:List T) (t:T),es[i]?=some c→c[j]?=some t→t.one=true∧Bt g w r (o+i*n+j) (cV i j))
   (h2:∀(i j:Nat) (c:List T) (t:T),es[i]?=some c→c[j]?=some t→VR g w t (cV i j)) :
   VR g w (.sl k es) (.slice (some ⟨r,o,none⟩) es.length cap)
 | ax {b off len n r o q cap} (h:g.φ b=some (r,o,q)) (hc:len≤cap) (hq:o+off+cap*n=q):VR g w (.ax b off len n) (.slice (some ⟨r,o+off,none⟩) len cap)
 | ej {b off len n r o q c} (h:g.φ b=some (r,o,q)) (hc:len≤c) (hq:o+off+c*n=q):VR g w (.ej b off len n c) (.slice (some ⟨r,o+off,none⟩) len c)
 | mT:VR g w .mT .nilFunc
 | fn {f kS vs} (hl:vs.size=kS.length) (h:∀(i:Nat) (t:T) (v:Value),kS[i]?=some t→vs[i]?=some v→VR g w t v):VR g w (.fn f kS) (.func (.func f) #[] vs)
 | nu {b r o q} (h:g.φ b=some (r,o,q)):VR g w (.nu b) (.func (.yield r) #[] #[])
 | gB:VR g w .gB .nilIface
 | agg {cs vs} (hl:vs.size=cs.length) (h1:∀t∈cs,t.one=true) (h2:∀(i:Nat) (t:T) (v:Value),cs[i]?=some t→vs[i]?=some v→VR g w t v):VR g w (.agg cs) (.agg vs)
 | bJ {cs vs} (hl:vs.size=cs.length) (h2:∀(i:Nat) (t:T) (v:Value),cs[i]?=some t→vs[i]?=some v→VR g w t v):VR g w (.bJ cs) (.tuple vs)
structure Le (g:Ctx)(w:World)(g':Ctx)(w':World):Prop where
 φ:∀b x,g.φ b=some x→g'.φ b=some x
 κ:∀r o,g.κ r o=.mA→g'.κ r o=.mA
 π:∀t e x,g.π t e=some x→g'.π t e=some x
 cell:∀r o v,g.κ r o=.mA→w.cell? ⟨r,o,none⟩=some v→w'.cell? ⟨r,o,none⟩=some v
 ck:g'.ck=g.ck
theorem Le.refl (g:Ctx)(w:World):Le g w g w:=⟨fun _ _ h=>h,fun _ _ h=>h,fun _ _ _ h=>h,fun _ _ _ _ h=>h,rfl⟩
theorem Le.trans {g g' QZ:Ctx}{w w' Q0:World}(h:Le g w g' w')(h':Le g' w' QZ Q0):Le g w QZ Q0 :=
 ⟨fun b x e=>h'.φ b x (h.φ b x e),fun r o e=>h'.κ r o (h.κ r o e),fun t e x k=>h'.π t e x (h.π t e x k),fun r o v k e=>h'.cell r o v (h.κ r o k) (h.cell r o v k e),h'.ck.trans h.ck⟩
theorem Bt.mono {g g':Ctx}{w w':World}(le:Le g w g' w'){r o:Nat}{v:Value}(h:Bt g w r o v):Bt g' w' r o v:=⟨le.κ _ _ h.1,le.cell _ _ _ h.1 h.2⟩
theorem iD.mono {g g':Ctx}{w w':World}(le:Le g w g' w'){k:SK}{r o len cap n:Nat}(h:iD g k r o len cap n):iD g' k r o len cap n:=by
 cases k with
 | nil=>exact h
 | arg=>exact h
 | full=>exact h
 | own t e=>exact⟨le.π _ _ _ h.1,h.2⟩
theorem VR.mono {g g':Ctx}{w w':World}(le:Le g w g' w'){t:T}{v:Value}(h:VR g w t v):VR g' w' t v:=by
 induction h with
 | int k n=>exact .int k n
 | bool b=>exact .bool b
 | str s=>exact .str s
 | bR=>exact .bR
 | ptr h=>exact .ptr (le.φ _ _ h)
 | dk cV h1 _ ih=>exact .dk cV (fun j t e=>⟨(h1 j t e).1,(h1 j t e).2.mono le⟩) ih
 | gA=>exact .gA
 | map h=>exact .map (le.φ _ _ h)
 | slnil=>exact .slnil
 | iQ a=>exact .iQ a
 | sl cV hk hc hn h1 _ ih=>exact .sl cV (hk.mono le) hc hn (fun i j c t a b=>⟨(h1 i j c t a b).1,(h1 i j c t a b).2.mono le⟩) ih
 | ax h hc hq=>exact .ax (le.φ _ _ h) hc hq
 | ej h hc hq=>exact .ej (le.φ _ _ h) hc hq
 | mT=>exact .mT
 | fn hl _ ih=>exact .fn hl ih
 | nu h=>exact .nu (le.φ _ _ h)
 | gB=>exact .gB
 | agg hl h1 _ ih=>exact .agg hl h1 ih
 | bJ hl _ ih=>exact .bJ hl ih
theorem VR.erase {g:Ctx}{w:World}{t:T}{v:Value}(h:VR g w t v):VR g w t.erase v:=by
 cases h with
 | sl cV hk hc hn h1 h2=>exact .sl cV trivial hc hn h1 h2
 | slnil=>exact .iQ none
 | iQ a=>exact .iQ a
 | int k n=>exact .int k n
 | bool b=>exact .bool b
 | str s=>exact .str s
 | bR=>exact .bR
 | ptr h=>exact .ptr h
 | dk cV h1 h2=>exact .dk cV h1 h2
 | gA=>exact .gA
 | map h=>exact .map h
 | ax h hc hq=>exact .ax h hc hq
 | ej h hc hq=>exact .ej h hc hq
 | mT=>exact .mT
 | fn hl h=>exact .fn hl h
 | nu h=>exact .nu h
 | gB=>exact .gB
 | agg hl h1 h2=>exact .agg hl h1 h2
 | bJ hl h2=>exact .bJ hl h2
theorem Bu (t:T):t.erase.one=t.one:=by cases t<;>rfl
theorem VR.iR {g:Ctx}{w:World}{t:T}{v:Value}(h:VR g w t v)(ho:t.one=true):v.oneCell'=true:=by
 cases h<;>simp_all [T.one,Value.oneCell']
def qi (g:Ctx)(w:World)(b:Nat)(cs:List T)(r o q:Nat):Prop :=
 o+cs.length≤q∧(∀j,o≤j→j<q→g.κ r j=.mut b∧w.frozen? ⟨r,j,none⟩=false∧(w.cell? ⟨r,j,none⟩).isSome=true) ∧
 ∀(i:Nat) (t:T),cs[i]?=some t→t.one=true∧∃v,w.cell? ⟨r,o+i,none⟩=some v∧VR g w t v
def eo (g:Ctx)(w:World)(es:List (T×T))(aA:Array MapEntry):Prop :=
 aA.size=es.length∧∀(i:Nat) (e:T×T) (m:MapEntry),es[i]?=some e→aA[i]?=some m→VR g w e.1 m.key∧VR g w e.2 m.val
def fv (aA:Array MapEntry)(clock:Nat):Prop:=(∀m∈aA.toList,m.born<clock)∧(aA.toList.map (·.born)).Nodup
def Ix (aA:Array MapEntry)(seen:Array Nat)(ix:List Nat)(cur:Option Nat):Prop :=
 ix.Nodup∧(∀i,i∈ix↔∃m,aA[i]?=some m∧m.born∉seen)∧∀c,cur=some c→∃m,aA[c]?=some m∧seen.back?=some m.born
def Q1 (g:Ctx)(w:World)(t e:Nat):Prop :=
 ∃r p q,g.π t e=some (r,p,q)∧p≤q∧(∀j,p≤j→j<q→g.κ r j=.spare t∧w.frozen? ⟨r,j,none⟩=false∧(w.cell? ⟨r,j,none⟩).isSome=true)∧∀e',e<e'→g.π t e'=none
def ML.real:ML→LoopState
 | .ready=>.ready
 | .busy=>.busy
 | .done=>.done
def wB:Option Ex→Option Code
 | some .ret=>some .ret
 | some (.exit id)=>some (.exit id)
 | _=>none
def uH (g:Ctx)(w:World)(st:ML)(fE:Option Ex)(n:Nat)(R:Nat→T)(ps:List Nat)(b6 body:C)(rec:Loop):Prop :=
 rec.state=st.real∧rec.pending=wB fE∧rec.params.toList=ps∧rec.tmps.size=n∧(∀t,t<n→VR g w (R t) (rec.tmps.getD t undef))∧(∀p∈ps,p<n)∧g.ck n b6 rec.assign∧g.ck n body rec.body
def zH (g:Ctx)(w:World)(b:Nat):B→Prop
 | .cells cs=>∀r o q,g.φ b=some (r,o,q)→qi g w b cs r o q
 | .map es=>∀r o q,g.φ b=some (r,o,q)→g.κ r 0=.mut b∧∃aA clock,w.heap[r]?=some (.map aA clock)∧eo g w es aA∧fv aA clock
 | .tok e=>Q1 g w b e
 | .loop st fE n R ps b6 body=>∀r o q,g.φ b=some (r,o,q)→g.κ r 0=.mut b∧∃rec,w.heap[r]?=some (.loop rec)∧uH g w st fE n R ps b6 body rec
 | .zE=>∀r o q,g.φ b=some (r,o,q)→g.κ r 0=.mut b∧w.heap[r]?=some (.deferred (some []))
 | .dead=>True
 | .cT es ix bi cur=>∃r o q,g.φ b=some (r,o,q)∧g.κ r 0=.mut b∧∃aA clock,w.heap[r]?=some (.map aA clock)∧eo g w es aA∧fv aA clock ∧
   ∃ri q' seen,g.φ bi=some (ri,0,q')∧g.κ ri 0=.mut b∧w.heap[ri]?=some (.mapIter (some r) clock seen clock)∧Ix aA seen ix cur
 | .uE _=>True
structure SR (w0:World)(g:Ctx)(H:af)(w:World):Prop where
 size:w0.heap.size≤w.heap.size
 jP:∀r,r<w0.heap.size→w.heap[r]?=w0.heap[r]?
 Bv:∀r o,r<w0.heap.size→g.κ r o=.mA
 fresh:∀r o,w.heap.size≤r→g.κ r o=.free
 sH:∀b x,g.φ b=some x→b<H.length
 jj:∀t e x,g.π t e=some x→t<H.length
 eg:∀b x,H[b]?=some x→zH g w b x
 qa:∀r j,w0.heap.size≤r→w.frozen? ⟨r,j,none⟩=false
 env:w.os=w0.os∧w.output=w0.output
def fw:Obj→Bool
 | .map _ _ | .loop _ | .deferred _ | .mapIter _ _ _ _=>true
 | _=>false
structure Tr (w w':World)(S:Nat→Nat→Prop)(M:Nat→Prop):Prop where
 size:w.heap.size≤w'.heap.size
 cell:∀r j,r<w.heap.size→¬S r j→w'.cell? ⟨r,j,none⟩=w.cell? ⟨r,j,none⟩
 qa:∀r j,r<w.heap.size→w'.frozen? ⟨r,j,none⟩=w.frozen? ⟨r,j,none⟩
 dQ:∀r j,r<w.heap.size→(w.cell? ⟨r,j,none⟩).isSome=true→(w'.cell? ⟨r,j,none⟩).isSome=true
 maps:∀r x,¬M r→fw x=true→w.heap[r]?=some x→w'.heap[r]?=some x
 jP:∀r,r<w.heap.size→¬M r→(∀j,¬S r j)→w'.heap[r]?=w.heap[r]?
 yq:∀r j,w.heap.size≤r→w'.frozen? ⟨r,j,none⟩=false
 env:w'.os=w.os∧w'.output=w.output
theorem dz {w:World}{r j:Nat}(h:w.heap.size≤r):w.frozen? ⟨r,j,none⟩=false:=by
 unfold World.frozen?
 rw[Array.getElem?_eq_none h]
theorem jQ {w:World}{r j:Nat}{v:Value}(h:w.cell? ⟨r,j,none⟩=some v):r<w.heap.size:=by
 unfold World.cell? at h
 cases hr:w.heap[r]? with
 | none=>simp[hr]at h
 | some x=>exact(Array.getElem?_eq_some_iff.1 hr).1
theorem qi.mono {g g':Ctx}{w w':World}{b:Nat}{cs:List T}{r o q:Nat}(h:qi g w b cs r o q)(le:Le g w g' w')
  (hκ:∀j,o≤j→j<q→g'.κ r j=.mut b) (hf:∀j,o≤j→j<q→w'.frozen? ⟨r,j,none⟩=w.frozen? ⟨r,j,none⟩∧w'.cell? ⟨r,j,none⟩=w.cell? ⟨r,j,none⟩):qi g' w' b cs r o q:=by
 obtain⟨h1,h2,h3⟩:=h
 refine⟨h1,fun j hj hq=>⟨hκ j hj hq,by rw[(hf j hj hq).1];exact(h2 j hj hq).2.1,by rw[(hf j hj hq).2];exact(h2 j hj hq).2.2⟩,fun i t hi=>?_⟩
 have aw:i<cs.length:=(List.getElem?_eq_some_iff.1 hi).1
 obtain⟨h4,v,h5,h6⟩:=h3 i t hi
 exact⟨h4,v,by rw[(hf (o+i) (by omega) (by omega)).2];exact h5,h6.mono le⟩
theorem eo.mono {g g':Ctx}{w w':World}{es:List (T×T)}{aA:Array MapEntry}(h:eo g w es aA)(le:Le g w g' w'):eo g' w' es aA :=
 ⟨h.1,fun i e m a b=>⟨(h.2 i e m a b).1.mono le,(h.2 i e m a b).2.mono le⟩⟩
theorem uH.mono {g g':Ctx}{w w':World}{st:ML}{fE:Option Ex}{n:Nat}{R:Nat→T}{ps:List Nat}{b6 body:C}{rec:Loop}(h:uH g w st fE n R ps b6 body rec)(le:Le g w g' w'):uH g' w' st fE n R ps b6 body rec:=by
 obtain⟨h1,h2,h3,h4,h5,h6,h7,h8⟩:=h
 exact⟨h1,h2,h3,h4,fun t ht=>(h5 t ht).mono le,h6,by rw[le.ck];exact h7,by rw[le.ck];exact h8⟩
theorem SR.step {w0 w w':World}{g g':Ctx}{H H':af}(h:SR w0 g H w)(MM:Nat→Prop){S:Nat→Nat→Prop}{M:Nat→Prop}(tr:Tr w w' S M)(le:Le g w g' w')
  (hS:∀r j,S r j→g.κ r j=.free∨(∃b,g.κ r j=.mut b∧MM b)∨∃b,g.κ r j=.spare b∧MM b) (hM:∀r,M r→∃b,g.κ r 0=.mut b∧MM b)
  (MN:∀r o,w'.heap.size≤r→g'.κ r o=.free) (WX:∀b x,g'.φ b=some x→b<H'.length) (Q2:∀t e x,g'.π t e=some x→t<H'.length)
  (kφ:∀b,b<H.length→¬MM b→g'.φ b=g.φ b) (kκ:∀r j b,¬MM b→(g.κ r j=.mut b→g'.κ r j=.mut b)∧(g.κ r j=.spare b→g'.κ r j=.spare b))
  (kπ:∀t e,t<H.length→¬MM t→g'.π t e=g.π t e)
  (hb:∀b x,H'[b]?=some x→(¬MM b∧H[b]?=some x)∨zH g' w' b x):SR w0 g' H' w':=by
 have nS:∀r j,r<w0.heap.size→¬S r j:=by
  intro r j hr hs
  have:=h.Bv r j hr
  rcases hS r j hs with e|⟨b,e,_⟩|⟨b,e,_⟩<;>simp[this]at e
 have nM:∀r,r<w0.heap.size→¬M r:=by
  intro r hr hm
  have:=h.Bv r 0 hr
  obtain⟨b,e,_⟩:=hM r hm
  simp[this]at e
 refine⟨Nat.le_trans h.size tr.size,fun r hr=>?_,fun r o hr=>le.κ _ _ (h.Bv r o hr),MN,WX,Q2,fun b x hx=>?_,fun r j hr=>(by
  by_cases hw:r<w.heap.size
  ·rw[tr.qa r j hw];exact h.qa r j hr
  ·exact tr.yq r j (by omega)),tr.env.1.trans h.env.1,tr.env.2.trans h.env.2⟩
 ·rw[tr.jP r (Nat.lt_of_lt_of_le hr h.size) (nM r hr) (fun j=>nS r j hr)]
  exact h.jP r hr
 ·rcases hb b x hx with⟨nt,jM⟩|qj
  ·have aw:b<H.length:=(List.getElem?_eq_some_iff.1 jM).1
   have hk:=h.eg b x jM
   have nSm:∀r j,g.κ r j=.mut b∨g.κ r j=.spare b→¬S r j:=by
    intro r j hm hs
    rcases hS r j hs with e|⟨b',e,ht⟩|⟨b',e,ht⟩<;>rcases hm with hm|hm<;>simp[hm]at e
    ·exact nt (e▸ht)
    ·exact nt (e▸ht)
   cases x with
   | cells cs =>
    intro r o q hφ
    have kM:g.φ b=some (r,o,q):=by rw[←kφ b aw nt];exact hφ
    have hc:=hk r o q kM
    refine hc.mono le (fun j a c=>(kκ r j b nt).1 (hc.2.1 j a c).1) fun j a c=>?_
    have hh:=hc.2.1 j a c
    have hr:r<w.heap.size:=by
     cases hv:w.cell? ⟨r,j,none⟩with
     | none=>simp[hv]at hh
     | some v=>exact jQ hv
    exact⟨tr.qa r j hr,tr.cell r j hr (nSm r j (.inl hh.1))⟩
   | map es =>
    intro r o q hφ
    have kM:g.φ b=some (r,o,q):=by rw[←kφ b aw nt];exact hφ
    obtain⟨h1,aA,c,h2,h3⟩:=hk r o q kM
    refine⟨(kκ r 0 b nt).1 h1,aA,c,tr.maps r _ (fun hm=>?_) rfl h2,h3.1.mono le,h3.2⟩
    obtain⟨b',e,ht⟩:=hM r hm
    rw[h1]at e;cases e;exact nt ht
   | cT es ix bi cur =>
    obtain⟨r,o,q,hφ,h1,aA,c,h2,h3,h4,ri,q',seen,h5,h6,h7,h8⟩:=hk
    refine⟨r,o,q,le.φ _ _ hφ,(kκ r 0 b nt).1 h1,aA,c,tr.maps r _ (fun hm=>?_) rfl h2,h3.mono le,h4,ri,q',seen,le.φ _ _ h5,(kκ ri 0 b nt).1 h6,tr.maps ri _ (fun hm=>?_) rfl h7,h8⟩
    ·obtain⟨b',e,ht⟩:=hM r hm
     rw[h1]at e;cases e;exact nt ht
    ·obtain⟨b',e,ht⟩:=hM ri hm
     rw[h6]at e;cases e;exact nt ht
   | uE _=>trivial
   | tok e =>
    obtain⟨r,p,q,h1,h2,h3,h4⟩:=hk
    refine⟨r,p,q,le.π _ _ _ h1,h2,fun j a c=>?_,fun e' he=>by rw[kπ b e' aw nt];exact h4 e' he⟩
    have hh:=h3 j a c
    have hr:r<w.heap.size:=by
     cases hv:w.cell? ⟨r,j,none⟩with
     | none=>simp[hv]at hh
     | some v=>exact jQ hv
    exact⟨(kκ r j b nt).2 hh.1,by rw[tr.qa r j hr];exact hh.2.1,by rw[tr.cell r j hr (nSm r j (.inr hh.1))];exact hh.2.2⟩
   | loop st fE n R ps b6 body =>
    intro r o q hφ
    have kM:g.φ b=some (r,o,q):=by rw[←kφ b aw nt];exact hφ
    obtain⟨h1,rec,h2,h3⟩:=hk r o q kM
    refine⟨(kκ r 0 b nt).1 h1,rec,tr.maps r _ (fun hm=>?_) rfl h2,h3.mono le⟩
    obtain⟨b',e,ht⟩:=hM r hm
    rw[h1]at e;cases e;exact nt ht
   | zE =>
    intro r o q hφ
    have kM:g.φ b=some (r,o,q):=by rw[←kφ b aw nt];exact hφ
    obtain⟨h1,h2⟩:=hk r o q kM
    refine⟨(kκ r 0 b nt).1 h1,tr.maps r _ (fun hm=>?_) rfl h2⟩
    obtain⟨b',e,ht⟩:=hM r hm
    rw[h1]at e;cases e;exact nt ht
   | dead=>trivial
  ·exact qj
def Fr (g:Ctx)(H:af)(g':Ctx)(H':af):Prop :=
 H.length≤H'.length∧∀b x,H[b]?=some x→(∀e,x≠.tok e)→g.φ b=none→H'[b]?=some x∧g'.φ b=none
theorem Fr.refl (g:Ctx)(H:af):Fr g H g H:=⟨Nat.le_refl _,fun _ _ h _ k=>⟨h,k⟩⟩
theorem Fr.trans {g g' QZ:Ctx}{H H' wC:af}(h:Fr g H g' H')(h':Fr g' H' QZ wC):Fr g H QZ wC :=
 ⟨Nat.le_trans h.1 h'.1,fun b x a c d=>let ⟨e,f⟩:=h.2 b x a c d;h'.2 b x e c f⟩
def b8 (P:Program)(w0:World)(g:Ctx)(H:af)(w:World)(s:Sem Value)(t:T)(H':af):Prop :=
 ∃v w' g',s.run P w=.ok v w'∧Le g w g' w'∧SR w0 g' H' w'∧VR g' w' t v∧Fr g H g' H'
theorem b8.same {P:Program}{w0:World}{g:Ctx}{H:af}{w:World}{s:Sem Value}{t:T}{v:Value}(h:SR w0 g H w)(hr:s.run P w=.ok v w)(hv:VR g w t v):b8 P w0 g H w s t H :=
 ⟨v,w,g,hr,.refl _ _,h,hv,.refl _ _⟩
def bF (g:Ctx)(w:World)(ts:List T)(vs:List Value):Prop:=ts.length=vs.length∧∀(i:Nat) (t:T) (v:Value),ts[i]?=some t→vs[i]?=some v→VR g w t v
theorem bF.mono {g g':Ctx}{w w':World}(le:Le g w g' w'){ts:List T}{vs:List Value}(h:bF g w ts vs):bF g' w' ts vs:=⟨h.1,fun i t v a b=>(h.2 i t v a b).mono le⟩
theorem bF.nil {g:Ctx}{w:World}:bF g w [] []:=⟨rfl,fun i t v h=>by simp at h⟩
theorem bF.cons {g:Ctx}{w:World}{t:T}{v:Value}{ts:List T}{vs:List Value}(h:VR g w t v)(hs:bF g w ts vs):bF g w (t :: ts) (v :: vs) :=
 ⟨by simp[hs.1],fun i a b ha hb=>by
  cases i with
  | zero=>simp at ha hb;subst ha;subst hb;exact h
  | succ i=>exact hs.2 i a b (by simpa using ha) (by simpa using hb)⟩
theorem bF.head {g:Ctx}{w:World}{t:T}{v:Value}{ts:List T}{vs:List Value}(h:bF g w (t :: ts) (v :: vs)):VR g w t v:=h.2 0 t v rfl rfl
theorem bF.tail {g:Ctx}{w:World}{t:T}{v:Value}{ts:List T}{vs:List Value}(h:bF g w (t :: ts) (v :: vs)):bF g w ts vs :=
 ⟨by have:=h.1;simpa using this,fun i a b ha hb=>h.2 (i+1) a b (by simpa using ha) (by simpa using hb)⟩
theorem bF.append {g:Ctx}{w:World}{ts MO:List T}{vs Qi:List Value}(h:bF g w ts vs)(h':bF g w MO Qi):bF g w (ts++MO) (vs++Qi):=by
 refine⟨by simp[h.1,h'.1],fun i t v ha hb=>?_⟩
 rw[List.getElem?_append]at ha hb
 rw[←h.1]at hb
 split at ha
 ·rename_i hi;rw[if_pos hi]at hb;exact h.2 i t v ha hb
 ·rename_i hi;rw[if_neg hi]at hb;exact h'.2 _ t v ha hb
theorem bF.take {g:Ctx}{w:World}{ts:List T}{vs:List Value}(n:Nat)(h:bF g w ts vs):bF g w (ts.take n) (vs.take n) :=
 ⟨by simp[h.1],fun i t v ha hb=>by
  rw[List.getElem?_take]at ha hb
  split at ha
  ·rename_i hi;rw[if_pos hi]at hb;exact h.2 i t v ha hb
  ·simp at ha⟩
theorem bF.drop {g:Ctx}{w:World}{ts:List T}{vs:List Value}(n:Nat)(h:bF g w ts vs):bF g w (ts.drop n) (vs.drop n) :=
 ⟨by simp[h.1],fun i t v ha hb=>by
  rw[List.getElem?_drop]at ha hb
  exact h.2 _ t v ha hb⟩
def cB (cs:List T):Prop:=∀t∈cs,t.one=true
theorem bF.iR {g:Ctx}{w:World}{ts:List T}{vs:List Value}(h:bF g w ts vs)(ho:cB ts):∀v∈vs,v.oneCell'=true:=by
 intro v hv
 obtain⟨i,hi,rfl⟩:=List.getElem_of_mem hv
 have jR:i<ts.length:=by rw[h.1];exact hi
 exact(h.2 i ts[i] vs[i] (List.getElem?_eq_getElem jR) (List.getElem?_eq_getElem hi)).iR (ho _ (List.getElem_mem jR))
theorem dr (r o j:Nat):(⟨r,o,none⟩:Addr).add j=⟨r,o+j,none⟩:=by
 unfold Addr.add;split<;>simp_all
theorem qB {w:World}{r o:Nat}:∀(n:Nat) (f:Nat→Value),(∀j,j<n→w.cell? ⟨r,o+j,none⟩=some (f j))→∀(j:Nat) (v:Value),((List.range n).map f)[j]?=some v→w.cell? ⟨r,o+j,none⟩=some v:=by
 intro n f h j v hv
 have hj:j<n:=by
  have:=(List.getElem?_eq_some_iff.1 hv).1
  simpa using this
 rw[h j hj]
 simp[hj]at hv
 rw[hv]
theorem oP {w0 w:World}{g:Ctx}{H:af}{n:Nat}{p:T}{vp:Value}{cs:List T}(h:SR w0 g H w)(hv:VR g w p vp)(he:nC H n p=some cs) :
  ∃r o vs,vp=.pointer (some ⟨r,o,none⟩)∧vs.length=n∧(∀(j:Nat) (v:Value),vs[j]?=some v→w.cell? ⟨r,o+j,none⟩=some v)∧bF g w cs vs∧cB cs:=by
 cases hv with
 | @ptr b off r o q hφ =>
  simp only[nC]at he
  cases hb:H[b]? with
  | none=>simp[hb]at he
  | some x =>
   cases x with
   | cells Lt =>
    simp only[hb]at he
    split at he
    ·rename_i hle
     simp at he
     subst he
     obtain⟨h1,h2,h3⟩:=h.eg b _ hb r o q hφ
     have key:∀j,j<n→∃t v,Lt[off+j]?=some t∧t.one=true∧w.cell? ⟨r,o+off+j,none⟩=some v∧VR g w t v:=by
      intro j hj
      have aw:off+j<Lt.length:=by omega
      obtain⟨a,v,b',c⟩:=h3 (off+j) Lt[off+j] (List.getElem?_eq_getElem aw)
      exact⟨_,v,List.getElem?_eq_getElem aw,a,by rw[Nat.add_assoc];exact b',c⟩
     refine⟨r,o+off,(List.range n).map (fun j=>(w.cell? ⟨r,o+off+j,none⟩).getD undef),rfl,by simp,qB n _ (fun j hj=>?_),⟨by simp;omega,fun i t v ha jt=>?_⟩,fun t ht=>?_⟩
     ·obtain⟨t,v,_,_,e,_⟩:=key j hj
      simp[e]
     ·have hi:i<n:=by
       have:=(List.getElem?_eq_some_iff.1 jt).1
       simpa using this
      obtain⟨t',v',e1,e2,e3,e4⟩:=key i hi
      simp[hi]at jt
      rw[e3]at jt;simp at jt
      rw[List.getElem?_take,if_pos hi,List.getElem?_drop,e1]at ha
      simp at ha
      subst ha;subst jt;exact e4
     ·obtain⟨i,hi,rfl⟩:=List.getElem_of_mem ht
      simp at hi
      obtain⟨t',v',e1,e2,_,_⟩:=key i (by omega)
      have MP:=(List.getElem?_eq_some_iff.1 e1).2
      simp[MP,e2]
    ·simp at he
   | map _=>simp[hb]at he
   | tok _=>simp[hb]at he
   | _=>simp[hb]at he
 | @dk Lt r o cV h1 h2 =>
  simp only[nC]at he
  split at he
  ·rename_i hle
   simp at he
   subst he
   have get:∀i,i<n→∃t,Lt[i]?=some t:=fun i hi=>⟨Lt[i]'(by omega),List.getElem?_eq_getElem _⟩
   refine⟨r,o,(List.range n).map cV,rfl,by simp,qB n _ (fun j hj=>?_),⟨by simp;omega,fun i t v ha hb=>?_⟩,fun t ht=>?_⟩
   ·obtain⟨t,e⟩:=get j hj
    exact(h1 j t e).2.2
   ·have hi:i<n:=by
     have:=(List.getElem?_eq_some_iff.1 hb).1
     simpa using this
    simp[hi]at hb
    rw[List.getElem?_take,if_pos hi]at ha
    rw[←hb];exact h2 i t ha
   ·obtain⟨i,hi,rfl⟩:=List.getElem_of_mem ht
    simp at hi
    have:Lt[i]?=some Lt[i]:=List.getElem?_eq_getElem _
    simp
    exact(h1 i _ this).1
  ·simp at he
 | _=>simp[nC]at he
theorem bF.agg {g:Ctx}{w:World}{cs:List T}{vs:List Value}(h:bF g w cs vs)(ho:cB cs):VR g w (.agg cs) (.agg vs.toArray) :=
 .agg (by simp[h.1]) ho (fun i t v ha hb=>h.2 i t v ha (by simpa using hb))
theorem bF.bJ {g:Ctx}{w:World}{cs:List T}{vs:List Value}(h:bF g w cs vs):VR g w (.bJ cs) (.tuple vs.toArray) :=
 .bJ (by simp[h.1]) (fun i t v ha hb=>h.2 i t v ha (by simpa using hb))
theorem VR.fY {g:Ctx}{w:World}{cs:List T}{v:Value}(h:VR g w (.agg cs) v):∃vs:List Value,v=.agg vs.toArray∧bF g w cs vs∧cB cs:=by
 cases h with
 | @agg _ vs hl h1 h2=>exact⟨vs.toList,by simp,⟨by simp[hl],fun i t v ha hb=>h2 i t v ha (by simpa using hb)⟩,h1⟩
theorem VR.Iy {g:Ctx}{w:World}{cs:List T}{v:Value}(h:VR g w (.bJ cs) v):∃vs:List Value,v=.tuple vs.toArray∧bF g w cs vs:=by
 cases h with
 | @bJ _ vs hl h2=>exact⟨vs.toList,by simp,⟨by simp[hl],fun i t v ha hb=>h2 i t v ha (by simpa using hb)⟩⟩
theorem jB {g:Ctx}{w:World}{t:T}{v:Value}{cs:List T}(h:VR g w t v)(hc:t.cells?=some cs):bF g w cs v.cells.toList∧cB cs:=by
 by_cases ha:∃c,t=.agg c
 ·obtain⟨c,rfl⟩:=ha
  simp[T.cells?]at hc;subst hc
  obtain⟨vs,rfl,h1,h2⟩:=h.fY
  exact⟨by simpa[Value.cells]using h1,h2⟩
 ·by_cases ht:∃c,t=.bJ c
  ·obtain⟨c,rfl⟩:=ht;simp[T.cells?]at hc
  ·have e:cs=[t]:=by cases t<;>simp_all [T.cells?]
   have o:t.one=true:=by cases t<;>simp_all [T.one]
   have ev:v.cells=#[v]:=by
    have:=h.iR o
    cases v<;>simp_all [Value.cells,Value.oneCell']
   subst e
   rw[ev]
   exact⟨bF.cons h bF.nil,by simpa[cB]using o⟩
theorem qD {g:Ctx}{w:World}{cs:List T}{vs:List Value}{ag:Bool}{t:T}(h:bF g w cs vs)(ho:cB cs)(hv:valOf ag cs=some t) :
  (ag=true→VR g w t (.agg vs.toArray))∧(ag=false→∃v,vs=[v]∧VR g w t v):=by
 cases ag with
 | true=>simp[valOf]at hv;subst hv;exact⟨fun _=>h.agg ho,by simp⟩
 | false =>
  refine⟨by simp,fun _=>?_⟩
  cases cs with
  | nil=>simp[valOf]at hv
  | cons c cs =>
   cases cs with
   | nil =>
    simp[valOf]at hv;subst hv
    cases vs with
    | nil=>have:=h.1;simp at this
    | cons v vs =>
     cases vs with
     | nil=>exact⟨v,rfl,h.head⟩
     | cons _ _=>have:=h.1;simp at this
   | cons _ _=>simp[valOf]at hv
theorem bu {P:Program}{w:World}{t:TypeId}{i:TypeInfo}(h:P.info? t=some i):(typeInfo t).run P w=.ok i w:=by
 simp[typeInfo,h]
def et:TypeDesc→Bool
 | .struct _ | .array _ _=>true
 | _=>false
theorem fe {P:Program}{t:TypeId}{d:TypeDesc}(h:P.underlying t=some d)(w:World):(isAgg t).run P w=.ok (et d) w:=by
 simp only[isAgg,Sem.run_bind,run_underlying h,Result.andThen_ok]
 cases d<;>rfl
theorem MQ {P:Program}{w0 w:World}{g:Ctx}{H:af}{n:Nat}{ag:Bool}{p t:T}{vp:Value}{cs:List T}{ty:TypeId}{d:TypeDesc}{i:TypeInfo}
  (hd:P.underlying ty=some d) (hi:P.info? ty=some i) (uI:et d=ag) (hn:ag=true→i.size=n)
  (h:SR w0 g H w) (hv:VR g w p vp) (he:nC H n p=some cs) (ht:valOf ag cs=some t):b8 P w0 g H w (Instr.loadAt ty vp) t H:=by
 obtain⟨r,o,vs,rfl,h1,h2,h3,h4⟩:=oP h hv he
 obtain⟨ha,hb⟩:=qD h3 h4 ht
 cases ag with
 | true =>
  refine b8.same h (v:=.agg vs.toArray) ?_ (ha rfl)
  have:=run_loadCells_list (P:=P) w ⟨r,o,none⟩ vs (fun j v hj=>by rw[dr];exact h2 j v hj)
  simp[Instr.loadAt,Instr.sureAddr,loadVar,fe hd,uI,sizeOf,bu hi,hn rfl,←h1,this]
 | false =>
  obtain⟨v,rfl,fP⟩:=hb rfl
  refine b8.same h (v:=v) ?_ fP
  have:=h2 0 v rfl
  simp at this
  simp[Instr.loadAt,Instr.sureAddr,loadVar,fe hd,uI,run_load,this]
theorem Iz {P:Program}{w0 w:World}{g:Ctx}{H:af}{n:Nat}{ag:Bool}{p t:T}{vp:Value}{cs:List T}{ty:TypeId}{d:TypeDesc}{i:TypeInfo}
  (hd:P.underlying ty=some d) (hi:P.info? ty=some i) (uI:et d=ag) (hn:ag=true→i.size=n)
  (h:SR w0 g H w) (hv:VR g w p vp) (he:nC H n p=some cs) (ht:valOf ag cs=some t):∃v w' g',(Instr.loadAt ty vp).run P w=.ok v w'∧w'=w∧VR g' w t v∧g'=g:=by
 obtain⟨r,o,vs,rfl,h1,h2,h3,h4⟩:=oP h hv he
 obtain⟨ha,hb⟩:=qD h3 h4 ht
 cases ag with
 | true =>
  refine⟨.agg vs.toArray,w,g,?_,rfl,ha rfl,rfl⟩
  have:=run_loadCells_list (P:=P) w ⟨r,o,none⟩ vs (fun j v hj=>by rw[dr];exact h2 j v hj)
  simp[Instr.loadAt,Instr.sureAddr,loadVar,fe hd,uI,sizeOf,bu hi,hn rfl,←h1,this]
 | false =>
  obtain⟨v,rfl,fP⟩:=hb rfl
  refine⟨v,w,g,?_,rfl,fP,rfl⟩
  have:=h2 0 v rfl
  simp at this
  simp[Instr.loadAt,Instr.sureAddr,loadVar,fe hd,uI,run_load,this]
section
variable {P:Program} {w:World} {op:BinOp} {ty:TypeId} {x y:Operand}
theorem sZ {k k':IntKind}{a b:Int}:(eqGuard op ty x y (.int k a) (.int k' b)).run P w=.ok () w:=by cases op<;>rfl
theorem s7 {a b:ByteArray}:(eqGuard op ty x y (.string a) (.string b)).run P w=.ok () w:=by cases op<;>rfl
theorem jS {a b:Bool}:(eqGuard op ty x y (.bool a) (.bool b)).run P w=.ok () w:=by cases op<;>rfl
theorem Bw {a b:Option Addr}:(eqGuard op ty x y (.pointer a) (.pointer b)).run P w=.ok () w:=by cases op<;>rfl
theorem wD {a b:Option Addr}{c d e f:Nat}:(eqGuard op ty x y (.slice a c d) (.slice b e f)).run P w=.ok () w:=by cases op<;>rfl
theorem Bx {a b:Option Nat}:(eqGuard op ty x y (.map a) (.map b)).run P w=.ok () w:=by cases op<;>rfl
theorem Dh {f:Go.Fn}{a b:Array Value}:(eqGuard op ty x y (.func f a b) .nilFunc).run P w=.ok () w:=by cases op<;>rfl
theorem Di {f:Go.Fn}{a b:Array Value}:(eqGuard op ty x y .nilFunc (.func f a b)).run P w=.ok () w:=by cases op<;>rfl
theorem Dj:(eqGuard op ty x y .nilFunc .nilFunc).run P w=.ok () w:=by cases op<;>rfl
end
section
variable {P:Program} {w:World} {ty:TypeId}
theorem s9 (n:Nat)(h:P.underlying ty=some .bool)(a b:Bool):(Op.equalIn (n+1) ty (.bool a) (.bool b)).run P w=.ok (a==b) w:=by
 rw[Op.equalIn];simp only[Sem.run_bind,run_underlying h,Result.andThen_ok];rfl
theorem Dk (n:Nat){k:IntKind}(h:P.underlying ty=some (.int k))(a b:Int)(k':IntKind):(Op.equalIn (n+1) ty (.int k' a) (.int k' b)).run P w=.ok (a==b) w:=by
 rw[Op.equalIn];simp only[Sem.run_bind,run_underlying h,Result.andThen_ok];simp
theorem Dl (n:Nat)(h:P.underlying ty=some .string)(a b:ByteArray):(Op.equalIn (n+1) ty (.string a) (.string b)).run P w=.ok (a==b) w:=by
 rw[Op.equalIn];simp only[Sem.run_bind,run_underlying h,Result.andThen_ok];rfl
theorem gl {x y:Value}{b:Bool}(h:∀n,(Op.equalIn (n+1) ty x y).run P w=.ok b w):(Op.equal ty x y).run P w=.ok b w:=h 9999
theorem qE (h:P.underlying ty=some .bool)(a b:Bool):(Op.equal ty (.bool a) (.bool b)).run P w=.ok (a==b) w:=gl fun n=>s9 n h a b
end
theorem IA {P:Program}{w0 w:World}{g:Ctx}{H:af}{op:BinOp}{x y t:T}{vx vy:Value}{ty:TypeId}{ox oy:Operand}
  (h:SR w0 g H w) (hx:VR g w x vx) (hy:VR g w y vy) (he:cI op x y=some t):b8 P w0 g H w (do eqGuard op ty ox oy vx vy;binOp op ty vx vy) t H:=by
 cases hx<;>cases hy<;>(try (simp[cI]at he;done))
 case int.int k a k' b =>
  have key:∃v,(binOp op ty (.int k a) (.int k' b)).run P w=.ok v w∧VR g w t v:=by
   cases op<;>simp only[cI]at he<;>(repeat' (split at he))<;>(try (simp at he;done)) <;>
    (simp at he;subst he;first
     | (refine⟨_,?_,.int _ _⟩;simp_all [binOp,Op.shift,Op.intArith,Op.intDiv,Op.intBits,Op.intCmp];done)
     | (refine⟨_,?_,.int _ _⟩;rename_i hs;simp only[binOp,Op.shift,if_neg hs,Sem.run_pure];done)
     | (refine⟨_,?_,.bool _⟩;simp_all [binOp,Op.shift,Op.intArith,Op.intDiv,Op.intBits,Op.intCmp];done))
  obtain⟨v,hr,hv⟩:=key
  refine b8.same h (v:=v) ?_ hv
  simp[sZ,s7,jS,hr]
 case str.str a b =>
  have key:∃v,(binOp op ty (.string a) (.string b)).run P w=.ok v w∧VR g w t v:=by
   cases op<;>simp only[cI]at he<;>(repeat' (split at he))<;>(try (simp at he;done)) <;>
    (simp at he;subst he;first
     | (refine⟨_,?_,.str _⟩;rename_i hs;simp[binOp,Op.stringOp,IntKind.max,IntKind.signed,IntKind.bits];omega)
     | (refine⟨_,?_,.bool _⟩;simp[binOp,Op.stringOp,jx,strLt];done))
  obtain⟨v,hr,hv⟩:=key
  refine b8.same h (v:=v) ?_ hv
  simp[sZ,s7,jS,hr]
theorem IB {P:Program}{w0 w:World}{g:Ctx}{H:af}{neg:Bool}{a b:Bool}{vx vy:Value}{ty:TypeId}{ox oy:Operand}(hu:P.underlying ty=some .bool)
  (h:SR w0 g H w) (hx:VR g w (.bool a) vx) (hy:VR g w (.bool b) vy) :
  b8 P w0 g H w (do eqGuard (if neg then .neq else .eql) ty ox oy vx vy;binOp (if neg then .neq else .eql) ty vx vy) (.bool (if neg then !(a==b)else a==b)) H:=by
 cases hx;cases hy
 cases neg
 ·refine b8.same h (v:=.bool (a==b)) ?_ (.bool _)
  simp only[Bool.false_eq_true,if_false,Sem.run_bind,jS,Result.andThen_ok,binOp,qE hu,Sem.run_pure]
 ·refine b8.same h (v:=.bool (!(a==b))) ?_ (.bool _)
  simp only[if_true,Sem.run_bind,jS,Result.andThen_ok,binOp,qE hu,Sem.run_pure]
def Dm:Iv→TypeDesc→Bool
 | .ptr,.pointer _ | .slice,.slice _ | .map,.map _ _ | .func,.func _ _ _=>true
 | _,_=>false
theorem wE {g:Ctx}{w:World}{c:Iv}{x:T}{vx:Value}{b:Bool}(hx:VR g w x vx)(h:kv c x=some b) :
  match c with
  | .ptr=>∃a:Option Addr,vx=.pointer a∧a.isNone=b
  | .slice=>∃(a:Option Addr) (l p:Nat),vx=.slice a l p∧a.isNone=b
  | .map=>∃r:Option Nat,vx=.map r∧r.isNone=b
  | .func=>(b=true∧vx=.nilFunc)∨(b=false∧∃f vs,vx=.func f #[] vs):=by
 cases c<;>cases hx<;>first
  | (change (none:Option Bool)=some b at h;simp at h;done)
  | (change some true=some b at h;simp at h;subst h;simp;done)
  | (change some false=some b at h;simp at h;subst h;simp;done)
  | skip
 case slice.sl k es r o cap n cV hk hc hn h1 h2 =>
  have hb:b=false:=by
   cases k
   ·exact hk.elim
   ·cases es with
    | nil=>change (none:Option Bool)=some b at h;simp at h
    | cons _ _=>change some false=some b at h;simpa using h.symm
   ·change some false=some b at h;simpa using h.symm
   ·change some false=some b at h;simpa using h.symm
  subst hb
  exact⟨_,_,_,rfl,rfl⟩
theorem IC {P:Program}{w0 w:World}{g:Ctx}{H:af}{neg:Bool}{c:Iv}{x y:T}{b:Bool}{vx vy:Value}{ty:TypeId}{ox oy:Operand}{d:TypeDesc}
  (hu:P.underlying ty=some d) (hc:Dm c d=true)
  (h:SR w0 g H w) (hx:VR g w x vx) (hy:VR g w y vy) (he:dn c x y=some b) :
  b8 P w0 g H w (do eqGuard (if neg then .neq else .eql) ty ox oy vx vy;binOp (if neg then .neq else .eql) ty vx vy) (.bool (if neg then !b else b)) H:=by
 have key:(∀op,(eqGuard op ty ox oy vx vy).run P w=.ok () w)∧(Op.equal ty vx vy).run P w=.ok b w∧∀neg:Bool,(binOp (if neg then .neq else .eql) ty vx vy).run P w=((Op.equal ty vx vy).run P w).andThen fun b w'=>.ok (.bool (if neg then !b else b)) w':=by
  unfold dn at he
  cases Dn:kv c x with
  | none=>simp[Dn]at he
  | some bx =>
   cases hny:kv c y with
   | none=>cases bx<;>simp[Dn,hny]at he
   | some bY =>
    have e:b=(bx&&bY)∧(bx=true∨bY=true):=by
     cases bx<;>cases bY<;>simp_all
    obtain⟨rfl,hor⟩:=e
    have h1:=wE hx Dn
    have h2:=wE hy hny
    cases c with
    | ptr =>
     obtain⟨a,rfl,rfl⟩:=h1
     obtain⟨a',rfl,rfl⟩:=h2
     cases d<;>simp[Dm]at hc
     refine⟨fun op=>Bw,gl fun n=>?_,fun neg=>by cases neg<;>simp[binOp]⟩
     rw[Op.equalIn];simp only[Sem.run_bind,run_underlying hu,Result.andThen_ok]
     cases a<;>cases a'<;>simp_all
    | slice =>
     obtain⟨a,l,p,rfl,rfl⟩:=h1
     obtain⟨a',l',p',rfl,rfl⟩:=h2
     cases d<;>simp[Dm]at hc
     refine⟨fun op=>wD,gl fun n=>?_,fun neg=>by cases neg<;>simp[binOp]⟩
     rw[Op.equalIn];simp only[Sem.run_bind,run_underlying hu,Result.andThen_ok]
     cases a<;>cases a'<;>simp_all
    | map =>
     obtain⟨a,rfl,rfl⟩:=h1
     obtain⟨a',rfl,rfl⟩:=h2
     cases d<;>simp[Dm]at hc
     refine⟨fun op=>Bx,gl fun n=>?_,fun neg=>by cases neg<;>simp[binOp]⟩
     rw[Op.equalIn];simp only[Sem.run_bind,run_underlying hu,Result.andThen_ok]
     cases a<;>cases a'<;>simp_all
    | func =>
     cases d<;>simp[Dm]at hc
     rcases h1 with⟨rfl,rfl⟩|⟨rfl,f,vs,rfl⟩<;>rcases h2 with⟨rfl,rfl⟩|⟨rfl,f',Qi,rfl⟩
     ·refine⟨fun op=>Dj,gl fun n=>?_,fun neg=>by cases neg<;>simp[binOp]⟩
      rw[Op.equalIn];simp[run_underlying hu]
     ·refine⟨fun op=>Di,gl fun n=>?_,fun neg=>by cases neg<;>simp[binOp]⟩
      rw[Op.equalIn];simp[run_underlying hu]
     ·refine⟨fun op=>Dh,gl fun n=>?_,fun neg=>by cases neg<;>simp[binOp]⟩
      rw[Op.equalIn];simp[run_underlying hu]
     ·simp at hor
 obtain⟨k1,k2,k3⟩:=key
 refine b8.same h (v:=.bool (if neg then !b else b)) ?_ (.bool _)
 simp only[Sem.run_bind,k1,Result.andThen_ok,k3,k2]
section
variable {P:Program} {w0 w:World} {g:Ctx} {H:af}
def HL:vW→TypeDesc→Bool
 | .int,.int _ | .str,.string | .bool,.bool=>true
 | _,_=>false
def flat (P:Program):List Field→Nat→List vW→Bool
 | [],_,[]=>true
 | f :: fs,off,k :: ks=>f.offset==off&&f.name != "_"&&(match P.underlying f.type with | some d=>HL k d | none=>false)&&flat P fs (off+1) ks
 | _,_,_=>false
theorem zI {n:Nat}{ty:TypeId}{d:TypeDesc}{k:vW}(hu:P.underlying ty=some d)(hk:HL k d=true){a b:T}{va vb:Value}{r:Bool}(ha:VR g w a va)(hb:VR g w b vb)(h1:a.yo k=true)(he:ji a b=some r) :
  (Op.equalIn (n+1) ty va vb).run P w=.ok r w:=by
 cases k<;>cases d<;>simp[HL]at hk<;>cases ha<;>simp[T.yo]at h1<;>cases hb<;>simp[ji]at he
 ·obtain⟨rfl,rfl⟩:=he
  rw[Dk n hu]
 ·subst he
  rw[Dl n hu,beq_toListBytes];rfl
 ·subst he
  rw[s9 n hu]
theorem oQ {ty:TypeId}{d:TypeDesc}{k:vW}(hu:P.underlying ty=some d)(hk:HL k d=true){xs:Array Value}{off:Nat}{v:Value}(h:xs[off]?=some v):(part ty xs off).run P w=.ok v w:=by
 have:et d=false:=by cases k<;>cases d<;>simp_all [HL,et]
 simp[part,fe hu,this,h]
theorem pJ {n:Nat}:∀(fs:List Field) (off:Nat) (ks:List vW) (cs ds:List T) (xs ys:Array Value) (r:Bool),flat P fs off ks=true→fO ks cs=true →
  (∀(i:Nat) (t:T),cs[i]?=some t→∃v,xs[off+i]?=some v∧VR g w t v)→(∀(i:Nat) (t:T),ds[i]?=some t→∃v,ys[off+i]?=some v∧VR g w t v)→cd cs ds=some r →
  (Op.eqFields (n+1) xs ys fs).run P w=.ok r w
 | [],off,ks,cs,ds,xs,ys,r,hf,hk,hc,hd,he=>by
  cases ks with
  | nil =>
   cases cs with
   | nil=>cases ds<;>simp[cd]at he;subst he;rfl
   | cons _ _=>simp[fO]at hk
  | cons _ _=>simp[flat]at hf
 | f :: fs,off,ks,cs,ds,xs,ys,r,hf,hk,hc,hd,he=>by
  cases ks with
  | nil=>simp[flat]at hf
  | cons k ks =>
   cases cs with
   | nil=>simp[fO]at hk
   | cons c cs =>
    cases ds with
    | nil=>simp[cd]at he
    | cons d ds =>
     simp only[flat,Bool.and_eq_true,beq_iff_eq,bne_iff_ne]at hf
     obtain⟨⟨⟨Bz,Dp⟩,HM⟩,fI⟩:=hf
     simp only[fO,Bool.and_eq_true]at hk
     cases hu:P.underlying f.type with
     | none=>simp[hu]at HM
     | some de =>
      simp[hu]at HM
      obtain⟨va,CQ,BA⟩:=hc 0 c rfl
      obtain⟨vb,kO,kQ⟩:=hd 0 d rfl
      simp only[Nat.add_zero]at CQ kO
      simp only[cd]at he
      cases e1:ji c d with
      | none=>simp[e1]at he
      | some r1 =>
       cases e2:cd cs ds with
       | none=>simp[e1,e2]at he
       | some r2 =>
        simp[e1,e2]at he;subst he
        have ih:=pJ (n:=n) fs (off+1) ks cs ds xs ys r2 fI hk.2 (fun i t hi=>by have:=hc (i+1) t (by simpa using hi);rwa[show off+1+i=off+(i+1) by omega])
         (fun i t hi=>by have:=hd (i+1) t (by simpa using hi);rwa[show off+1+i=off+(i+1) by omega]) e2
        simp only[Op.eqFields,Dp,ne_eq,not_false_eq_true,if_true,Sem.run_bind,Bz,oQ hu HM CQ,oQ hu HM kO,Result.andThen_ok,zI hu HM BA kQ hk.1 e1]
        cases r1
        ·simp
        ·simp[ih]
theorem bF.fZ {ts:List T}{vs:List Value}(h:bF g w ts vs)(i:Nat)(t:T)(hi:ts[i]?=some t):∃v,vs.toArray[i]?=some v∧VR g w t v:=by
 have aw:i<vs.length:=by rw[←h.1];exact(List.getElem?_eq_some_iff.1 hi).1
 exact⟨vs[i],by simp[aw],h.2 i t _ hi (List.getElem?_eq_getElem aw)⟩
theorem ta {ty:TypeId}{fs:Array Field}{ks:List vW}(hu:P.underlying ty=some (.struct fs))(hf:flat P fs.toList 0 ks=true)(hp:P.stoodInHeld ty=false){cs ds:List T}{xs ys:List Value}{r:Bool}
  (hk:fO ks cs=true) (hx:bF g w cs xs) (hy:bF g w ds ys) (he:cd cs ds=some r) (n:Nat):(Op.equalIn (n+1+1) ty (.agg xs.toArray) (.agg ys.toArray)).run P w=.ok r w:=by
 have Qj:P.fieldsOf ty=fs:=by simp[Program.fieldsOf,hu]
 rw[run_equalIn_struct w (n+1) ty _ _ (by rw[Qj];exact hu) hp,Qj]
 exact pJ _ 0 ks cs ds _ _ r hf hk (fun i t hi=>by simpa using hx.fZ i t hi) (fun i t hi=>by simpa using hy.fZ i t hi) he
theorem ID {neg:Bool}{ks:List vW}{cs ds:List T}{r:Bool}{vx vy:Value}{ty:TypeId}{ox oy:Operand}{fs:Array Field}
  (hu:P.underlying ty=some (.struct fs)) (hf:flat P fs.toList 0 ks=true) (hp:P.stoodInHeld ty=false) (hg:P.eqGuardType P.depth ty=false)
  (h:SR w0 g H w) (hx:VR g w (.agg cs) vx) (hy:VR g w (.agg ds) vy) (hk:fO ks cs=true) (he:cd cs ds=some r) :
  b8 P w0 g H w (do eqGuard (if neg then .neq else .eql) ty ox oy vx vy;binOp (if neg then .neq else .eql) ty vx vy) (.bool (if neg then !r else r)) H:=by
 obtain⟨xs,rfl,HN,_⟩:=hx.fY
 obtain⟨ys,rfl,Qk,_⟩:=hy.fY
 have e:(Op.equalIn 10000 ty (.agg xs.toArray) (.agg ys.toArray)).run P w=.ok r w:=ta hu hf hp hk HN Qk he 9998
 refine b8.same h (v:=.bool (if neg then !r else r)) ?_ (.bool _)
 cases neg
 ·simp only[Bool.false_eq_true,if_false,Sem.run_bind,run_eqGuard_agg w _ _ _ _ _ _ hg,Result.andThen_ok,run_eql_struct,e]
 ·simp only[if_true,Sem.run_bind,run_eqGuard_agg w _ _ _ _ _ _ hg,Result.andThen_ok,run_neq_struct,e]
theorem MR {op:UnOp}{x t:T}{vx:Value}(h:SR w0 g H w)(hx:VR g w x vx)(he:Lr op x=some t):b8 P w0 g H w (Op.unary op vx) t H:=by
 cases hx<;>(try (simp[Lr]at he;done))<;>cases op<;>simp[Lr]at he<;>subst he
 ·exact b8.same h (by simp[Op.unary,Op.intArith]) (.int _ _)
 ·exact b8.same h (by simp[Op.unary,Op.intBits]) (.int _ _)
 ·exact b8.same h (by simp[Op.unary]) (.bool _)
theorem IE {src dst:TypeId}{ds:TypeDesc}{k k0:IntKind}{n:Int}{vx:Value}(hs:P.underlying src=some ds)(hd:P.underlying dst=some (.int k))(h:SR w0 g H w)(hx:VR g w (.int k0 n) vx) :
  b8 P w0 g H w (convert src dst vx) (.int k (k.wrap n)) H:=by
 cases hx
 exact b8.same h (by simp[convert,run_underlying hs,run_underlying hd,Conv.intToInt]) (.int _ _)
theorem Dq {c:Bool}{x y:T}{vc vx vy:Value}(h:SR w0 g H w)(hc:VR g w (.bool c) vc)(hx:VR g w x vx)(hy:VR g w y vy) :
  b8 P w0 g H w (do pure (if ←asBool vc then vx else vy)) (if c then x else y) H:=by
 cases hc
 refine b8.same h (v:=if c then vx else vy) (by simp[asBool]) ?_
 cases c<;>simpa
def WY:Lc→TypeDesc→Bool
 | .str,.string | .sl,.slice _ | .map,.map _ _=>true
 | _,_=>false
theorem IG {ty rt:TypeId}{d:TypeDesc}{k:Lc}{x:T}{vx:Value}{n:Nat}(hu:P.underlying ty=some d)(hd:WY k d=true)
  (h:SR w0 g H w) (hx:VR g w x vx) (he:iH H k x=some n):b8 P w0 g H w (Builtin.len_ #[ty] rt #[vx]) (.int .i64 n) H:=by
 refine b8.same h (v:=.int .i64 n) ?_ (.int _ _)
 cases k<;>cases d<;>(first|(simp[WY]at hd;done)|skip)<;>cases hx<;>simp[iH]at he
 ·subst he;simp[Builtin.len_,run_underlying hu,goInt]
 ·subst he;simp[Builtin.len_,run_underlying hu,goInt]
 ·subst he;simp[Builtin.len_,run_underlying hu,goInt]
 ·subst he;simp[Builtin.len_,run_underlying hu,goInt]
 ·subst he;simp[Builtin.len_,run_underlying hu,goInt]
 ·subst he;simp[Builtin.len_,run_underlying hu,goInt]
 ·subst he;simp[Builtin.len_,run_underlying hu,goInt]
 ·rename_i b r o q hφ
  cases hb:H[b]? with
  | none=>simp[hb]at he
  | some y =>
   cases y<;>simp[hb]at he
   ·rename_i es
    obtain⟨_,aA,c,h2,h3,_⟩:=h.eg b _ hb r o q hφ
    subst he
    simp[Builtin.len_,run_underlying hu,goInt,getObj,Sem.run,h2,h3.1]
   ·rename_i es _ _ _
    obtain⟨r',o',q',kM,_,aA,c,h2,h3,_⟩:=h.eg b _ hb
    rw[hφ]at kM;cases kM
    subst he
    simp[Builtin.len_,run_underlying hu,goInt,getObj,Sem.run,h2,h3.1]
theorem nG {n:Nat}{x:T}{vx:Value}{es:List (List T)}(h:SR w0 g H w)(hx:VR g w x vx)(he:bA H n x=some es)(hs:∀s,x≠.str s) :
  ∃(a:Option Addr) (cap:Nat) (vs:List Value),vx=.slice a es.length cap∧es.length≤cap∧(a=none→es=[]∧cap=0)∧(∀a',a=some a'→(es≠[]→a'.spot=none)∧∀(j:Nat) (v:Value),vs[j]?=some v→w.cell? (a'.add j)=some v) ∧
   bF g w es.flatten vs∧vs.length=es.length*n∧cB es.flatten∧∀c∈es,c.length=n:=by
 cases hx with
 | slnil=>simp[bA]at he;subst he;exact⟨none,0,[],rfl,Nat.le_refl _,fun _=>⟨rfl,rfl⟩,(by simp),bF.nil,by simp,by simp[cB],by simp⟩
 | iQ a=>simp[bA]at he;subst he;exact⟨a,0,[],rfl,Nat.le_refl _,fun _=>⟨rfl,rfl⟩,(by simp),bF.nil,by simp,by simp[cB],by simp⟩
 | @sl k CR r o cap n' cV hk hc hn h1 h2 =>
  simp only[bA]at he
  split at he
  ·rename_i cJ
   simp at he;subst he
   have mH:∀c∈CR,c.length=n:=by simpa using cJ
   have key:∀(i j:Nat),i<CR.length→j<n→∃c t,CR[i]?=some c∧c[j]?=some t∧t.one=true∧w.cell? ⟨r,o+i*n+j,none⟩=some (cV i j)∧VR g w t (cV i j):=by
    intro i j hi hj
    have e1:CR[i]?=some CR[i]:=List.getElem?_eq_getElem hi
    have l1:(CR[i]).length=n:=mH _ (List.getElem_mem hi)
    have l2:(CR[i]).length=n':=hn _ (List.getElem_mem hi)
    have e2:(CR[i])[j]?=some ((CR[i])[j]'(by omega)):=List.getElem?_eq_getElem _
    have a:=h1 i j _ _ e1 e2
    have uJ:n'=n:=by omega
    exact⟨_,_,e1,e2,a.1,by rw[←uJ];exact a.2.2,h2 i j _ _ e1 e2⟩
   have build:∀(l:List (List T)) (k:Nat),(∀i c,l[i]?=some c→CR[k+i]?=some c)→∃vs:List Value,vs.length=l.length*n∧bF g w l.flatten vs∧cB l.flatten ∧
     ∀(j:Nat) (v:Value),vs[j]?=some v→w.cell? ⟨r,o+k*n+j,none⟩=some v:=by
    intro l
    induction l with
    | nil=>intro k _;exact⟨[],by simp,bF.nil,by simp[cB],by simp⟩
    | cons c l ih =>
     intro k hk
     have mV:=hk 0 c rfl
     simp only[Nat.add_zero]at mV
     have MS:k<CR.length:=(List.getElem?_eq_some_iff.1 mV).1
     have lR:c.length=n:=mH c (List.mem_of_getElem? mV)
     obtain⟨vs,a1,a2,a3,a4⟩:=ih (k+1) (fun i c' hi=>by have:=hk (i+1) c' (by simpa using hi);rwa[show k+1+i=k+(i+1) by omega])
     refine⟨(List.range n).map (cV k)++vs,by simp[a1,Nat.succ_mul];omega,?_,?_,fun j v hj=>?_⟩
     ·rw[List.flatten_cons]
      refine bF.append ⟨by simp[lR],fun i t v hi hv=>?_⟩ a2
      have aw:i<n:=by have:=(List.getElem?_eq_some_iff.1 hv).1;simpa using this
      obtain⟨c',t',e1,e2,_,_,e5⟩:=key k i MS aw
      rw[mV]at e1;cases e1
      rw[hi]at e2;cases e2
      simp[aw]at hv
      rw[←hv];exact e5
     ·rw[List.flatten_cons]
      intro t ht
      rcases List.mem_append.1 ht with ht|ht
      ·obtain⟨i,hi,rfl⟩:=List.getElem_of_mem ht
       obtain⟨c',t',e1,e2,e3,_,_⟩:=key k i MS (by omega)
       rw[mV]at e1;cases e1
       rw[List.getElem?_eq_getElem hi]at e2;cases e2
       exact e3
      ·exact a3 t ht
     ·rw[List.getElem?_append]at hj
      split at hj
      ·rename_i aw
       simp at aw
       simp[aw]at hj
       obtain⟨c',t',_,_,_,e4,_⟩:=key k j MS aw
       rw[←hj];exact e4
      ·rename_i eu
       simp at eu hj
       have:=a4 _ v hj
       rwa[show o+(k+1)*n+(j-n)=o+k*n+j by rw[Nat.succ_mul];omega]at this
   obtain⟨vs,a1,a2,a3,a4⟩:=build CR 0 (fun i c h=>by simpa using h)
   refine⟨some ⟨r,o,none⟩,cap,vs,rfl,hc,by simp,fun a' ha=>?_,a2,a1,a3,mH⟩
   cases ha
   exact⟨fun _=>rfl,fun j v hj=>by rw[dr];simpa using a4 j v hj⟩
  ·simp at he
 | @ax b off len n' r o q cap hφ hc hq =>
  simp only[bA]at he
  cases hb:H[b]? with
  | none=>simp[hb]at he
  | some y =>
   cases y with
   | cells cs =>
    simp only[hb]at he
    split at he
    ·rename_i cF
     obtain⟨rfl,hle⟩:=cF
     simp at he
     obtain⟨h1,h2,h3⟩:=h.eg b _ hb r o q hφ
     have hlen:es.length=len:=by rw[←he];simp
     have hn:∀c∈es,c.length=n':=by
      rw[←he]
      intro c iS
      obtain⟨i,hi,rfl⟩:=List.mem_map.1 iS
      simp at hi
      have:i*n'+n'≤len*n':=by rw[←Nat.succ_mul];exact Nat.mul_le_mul_right _ hi
      simp;omega
     have qk:∀m,m≤len→((List.range m).map fun i=>(cs.drop (off+i*n')).take n').flatten=(cs.drop off).take (m*n'):=by
      intro m
      induction m with
      | zero=>intro _;simp
      | succ m ih =>
       intro hm
       rw[List.range_succ,List.map_append,List.flatten_append,ih (by omega)]
       simp only[List.map_cons,List.map_nil,List.flatten_cons,List.flatten_nil,List.append_nil]
       rw[Nat.succ_mul,List.take_add,List.drop_drop]
     have Lu:es.flatten=(cs.drop off).take (len*n'):=by rw[←he];exact qk len (Nat.le_refl _)
     have hp:nC H (len*n') (.ptr b off)=some ((cs.drop off).take (len*n')):=by simp[nC,hb,hle]
     obtain⟨r',o',vs,e1,e2,e3,e4,e5⟩:=oP h (.ptr hφ) hp
     cases e1
     refine⟨some ⟨r,o+off,none⟩,cap,vs,by rw[hlen],by omega,by simp,fun a' ha=>?_,by rw[Lu];exact e4,by rw[e2,hlen],by rw[Lu];exact e5,hn⟩
     cases ha
     exact⟨fun _=>rfl,fun j v hj=>by rw[dr];exact e3 j v hj⟩
    ·simp at he
   | map _=>simp[hb]at he
   | tok _=>simp[hb]at he
   | _=>simp[hb]at he
 | str s=>exact absurd rfl (hs s)
 | _=>simp[bA]at he
theorem qF:∀(es:List (List T)) (l:List UInt8),bytesOf es=some l→∃ns:List Int,es=ns.map (fun n=>[T.int .u8 n])∧l=ns.map (fun n=>UInt8.ofNat n.toNat)
 | [],l,h=>⟨[],rfl,by simpa[bytesOf]using h.symm⟩
 | [.int .u8 n] :: es,l,h=>by
  simp only[bytesOf,Option.map_eq_some_iff]at h
  obtain⟨l',h1,rfl⟩:=h
  obtain⟨ns,rfl,rfl⟩:=qF es l' h1
  exact⟨n :: ns,rfl,rfl⟩
 | [] :: es,l,h=>by simp[bytesOf]at h
 | (_ :: _ :: _) :: es,l,h=>by simp[bytesOf]at h
 | [.int .i8 n] :: es,l,h=>by simp[bytesOf]at h
 | [.int .i16 n] :: es,l,h=>by simp[bytesOf]at h
 | [.int .i32 n] :: es,l,h=>by simp[bytesOf]at h
 | [.int .i64 n] :: es,l,h=>by simp[bytesOf]at h
 | [.int .u16 n] :: es,l,h=>by simp[bytesOf]at h
 | [.int .u32 n] :: es,l,h=>by simp[bytesOf]at h
 | [.int .u64 n] :: es,l,h=>by simp[bytesOf]at h
 | [.bool _] :: es,l,h=>by simp[bytesOf]at h
 | [.str _] :: es,l,h=>by simp[bytesOf]at h
 | [.bR] :: es,l,h=>by simp[bytesOf]at h
 | [.ptr _ _] :: es,l,h=>by simp[bytesOf]at h
 | [.dk _] :: es,l,h=>by simp[bytesOf]at h
 | [.gA] :: es,l,h=>by simp[bytesOf]at h
 | [.map _] :: es,l,h=>by simp[bytesOf]at h
 | [.sl _ _] :: es,l,h=>by simp[bytesOf]at h
 | [.ax _ _ _ _] :: es,l,h=>by simp[bytesOf]at h
 | [.mT] :: es,l,h=>by simp[bytesOf]at h
 | [.fn _ _] :: es,l,h=>by simp[bytesOf]at h
 | [.gB] :: es,l,h=>by simp[bytesOf]at h
 | [.agg _] :: es,l,h=>by simp[bytesOf]at h
 | [.bJ _] :: es,l,h=>by simp[bytesOf]at h
theorem foldl_push (ns:List Int):∀(b:ByteArray),ns.foldl (fun r n=>r.push (UInt8.ofNat n.toNat)) b=⟨b.data++(ns.map (fun n=>UInt8.ofNat n.toNat)).toArray⟩:=by
 induction ns with
 | nil=>intro b;simp
 | cons n ns ih=>intro b;rw[List.foldl_cons,ih];cases b;simp[ByteArray.push]
theorem Q3 (ns:List Int):(ns.map fun n=>[T.int .u8 n]).flatten=ns.map (T.int .u8):=by
 induction ns with
 | nil=>rfl
 | cons n ns ih=>simp only[List.map_cons,List.flatten_cons,ih];rfl
theorem IH {src dst e:TypeId}{x:T}{vx:Value}{es:List (List T)}{l:List UInt8}(hs:P.underlying src=some (.slice e))(hb:P.underlying e=some (.int .u8))(hd:P.underlying dst=some .string)
  (h:SR w0 g H w) (hx:VR g w x vx) (he:bA H 1 x=some es) (hn:∀s,x≠.str s) (hl:bytesOf es=some l):b8 P w0 g H w (convert src dst vx) (.str ⟨l.toArray⟩) H:=by
 obtain⟨a,cap,vs,rfl,_,h1,h2,h3,h4,h5,_⟩:=nG h hx he hn
 obtain⟨ns,rfl,rfl⟩:=qF es l hl
 refine b8.same h ?_ (.str _)
 rw[run_convert_bytes_string w src dst e a _ cap hs hb hd]
 cases a with
 | none =>
  have:=h1 rfl
  have Lv:ns=[]:=by simpa using this.1
  subst Lv
  simp[Conv.bytesToString];rfl
 | some a =>
  obtain⟨_,h6⟩:=h2 a rfl
  have iI:vs=ns.map (Value.int .u8):=by
   apply List.ext_getElem?
   intro i
   have hlen:vs.length=ns.length:=by simpa using h4
   by_cases hi:i<ns.length
   ·have hv:vs[i]?=some vs[i]:=List.getElem?_eq_getElem (by omega)
    have ht:((ns.map fun n=>[T.int .u8 n]).flatten)[i]?=some (T.int .u8 ns[i]):=by
     rw[Q3];simp[hi]
    have:=h3.2 i _ _ ht hv
    rw[hv]
    simp only[List.getElem?_map,List.getElem?_eq_getElem hi,Option.map_some]
    congr 1
    generalize vs[i]=vv at this
    cases this;rfl
   ·rw[List.getElem?_eq_none (by omega),List.getElem?_eq_none (by simpa using hi)]
  have:=run_loadCells_list (P:=P) w a vs h6
  rw[h4]at this
  have hl:(ns.map fun n=>[T.int .u8 n]).length*1=(ns.map fun n=>[T.int .u8 n]).length:=Nat.mul_one _
  rw[hl]at this
  rw[run_bytesToString w a _ cap ns (by rw[this,iI]),foldl_push]
  show Result.ok (Value.string ⟨#[]++_⟩) w=_
  simp
end
section
variable {P:Program} {w0 w:World} {g:Ctx} {H:af}
def qG:Value→Option T
 | .int k n=>some (.int k n)
 | .bool b=>some (.bool b)
 | .string s=>some (.str s)
 | .pointer none=>some .bR
 | .slice none 0 0=>some (.sl .nil [])
 | .map none=>some .gA
 | .nilFunc=>some .mT
 | .nilIface=>some .gB
 | _=>none
def ff:List Value→Option (List T)
 | []=>some []
 | v :: vs=>match qG v,ff vs with
  | some t,some ts=>some (t :: ts)
  | _,_=>none
def mW:Value→Option T
 | .agg cs=>(ff cs.toList).map .agg
 | .tuple cs=>if cs.size=0 then some (.bJ [])else none
 | v=>qG v
theorem te {v:Value}{t:T}(h:qG v=some t):VR g w t v∧t.one=true:=by
 unfold qG at h
 split at h<;>simp at h<;>subst h
 ·exact⟨.int _ _,rfl⟩
 ·exact⟨.bool _,rfl⟩
 ·exact⟨.str _,rfl⟩
 ·exact⟨.bR,rfl⟩
 ·exact⟨.slnil,rfl⟩
 ·exact⟨.gA,rfl⟩
 ·exact⟨.mT,rfl⟩
 ·exact⟨.gB,rfl⟩
theorem dL:∀(vs:List Value) (ts:List T),ff vs=some ts→bF g w ts vs∧cB ts
 | [],ts,h=>by simp[ff]at h;subst h;exact⟨bF.nil,by simp[cB]⟩
 | v :: vs,ts,h=>by
  simp only[ff]at h
  cases h1:qG v with
  | none=>simp[h1]at h
  | some t =>
   cases h2:ff vs with
   | none=>simp[h1,h2]at h
   | some MO =>
    simp[h1,h2]at h;subst h
    obtain⟨a,b⟩:=te (g:=g) (w:=w) h1
    obtain⟨c,d⟩:=dL vs MO h2
    exact⟨bF.cons a c,by intro x hx;rcases List.mem_cons.1 hx with rfl|hx;exact b;exact d x hx⟩
theorem lS {v:Value}{t:T}(h:mW v=some t):VR g w t v:=by
 unfold mW at h
 split at h
 ·rename_i cs
  simp only[Option.map_eq_some_iff]at h
  obtain⟨ts,h1,rfl⟩:=h
  obtain⟨a,b⟩:=dL (g:=g) (w:=w) _ _ h1
  have:=a.agg b
  simpa using this
 ·rename_i cs
  split at h
  ·rename_i hs
   simp at h;subst h
   have:cs=#[]:=Array.eq_empty_of_size_eq_zero hs
   subst this
   exact .bJ rfl (by simp)
  ·simp at h
 ·exact(te h).1
theorem ew {x:T}{vx:Value}{i:Nat}(hx:VR g w x vx)(h:cq x=some i):∃(k:IntKind) (n:Int),vx=.int k n∧0≤n∧n.toNat=i:=by
 cases hx<;>simp[cq]at h
 exact⟨_,_,rfl,h.1,h.2⟩
theorem BB {cs:List T}{r o off:Nat}(h:VR g w (.dk cs) (.pointer (some ⟨r,o,none⟩))):VR g w (.dk (cs.drop off)) (.pointer (some ⟨r,o+off,none⟩)):=by
 cases h with
 | dk cV h1 h2 =>
  refine .dk (fun j=>cV (off+j)) (fun j t e=>?_) (fun j t e=>?_)
  ·rw[List.getElem?_drop]at e
   have:=h1 (off+j) t e
   exact⟨this.1,by rw[Nat.add_assoc];exact this.2⟩
  ·rw[List.getElem?_drop]at e
   exact h2 (off+j) t e
theorem II {ty:TypeId}{fs:Array Field}{i:Nat}{f:Field}{fi:TypeInfo}{x t:T}{vx:Value}(hu:P.underlying ty=some (.struct fs))(hf:fs[i]?=some f)(hi:P.info? f.type=some fi)(hz:fi.size≠0)
  (h:SR w0 g H w) (hx:VR g w x vx) (he:wz f.offset x=some t) :
  b8 P w0 g H w (Instr.fieldAt ty vx i) t H:=by
 cases hx<;>simp[wz]at he
 case ptr b off r o q hφ =>
  subst he
  refine b8.same h (v:=.pointer (some ⟨r,o+(off+f.offset),none⟩)) ?_ (.ptr hφ)
  simp[Instr.fieldAt,Instr.sureAddr,run_underlying hu,hf,fieldPlace,sizeOf,bu hi,hz,dr,Nat.add_assoc]
 case dk cs r o cV h1 h2 =>
  obtain⟨_,rfl⟩:=he
  refine b8.same h (v:=.pointer (some ⟨r,o+f.offset,none⟩)) ?_ (BB (.dk cV h1 h2))
  simp[Instr.fieldAt,Instr.sureAddr,run_underlying hu,hf,fieldPlace,sizeOf,bu hi,hz,dr]
theorem wF {ty:TypeId}{d:TypeDesc}{i:TypeInfo}{ag:Bool}{n off:Nat}{cs:List T}{vs:List Value}{t:T}(hd:P.underlying ty=some d)(hi:P.info? ty=some i)(uI:et d=ag)(hn:i.size=n)
  (hv:bF g w cs vs) (ho:cB cs) (hle:off+n≤cs.length) (he:valOf ag ((cs.drop off).take n)=some t):∃v,(part ty vs.toArray off).run P w=.ok v w∧VR g w t v:=by
 have h1:=(hv.drop off).take n
 have h2:cB ((cs.drop off).take n):=fun x hx=>ho x (List.mem_of_mem_drop (List.mem_of_mem_take hx))
 obtain⟨ha,hb⟩:=qD h1 h2 he
 cases ag with
 | true =>
  refine⟨_,?_,ha rfl⟩
  simp[part,fe hd,uI,sizeOf,bu hi,hn]
 | false =>
  obtain⟨v,h3,h4⟩:=hb rfl
  refine⟨v,?_,h4⟩
  have h5:vs[off]?=some v:=by
   have:((vs.drop off).take n)[0]?=some v:=by rw[h3];rfl
   rw[List.getElem?_take]at this
   split at this
   ·rw[List.getElem?_drop]at this;simpa using this
   ·simp at this
  simp[part,fe hd,uI,h5]
theorem IJ {ty:TypeId}{fs:Array Field}{i:Nat}{f:Field}{fi:TypeInfo}{d:TypeDesc}{cs:List T}{t:T}{vx:Value}{ag:Bool}(hu:P.underlying ty=some (.struct fs))(hf:fs[i]?=some f)(hd:P.underlying f.type=some d)(hi:P.info? f.type=some fi)
  (uI:et d=ag) (h:SR w0 g H w) (hx:VR g w (.agg cs) vx) (hle:f.offset+fi.size≤cs.length) (he:valOf ag ((cs.drop f.offset).take fi.size)=some t):b8 P w0 g H w (Instr.field ty vx i) t H:=by
 obtain⟨vs,rfl,h1,h2⟩:=hx.fY
 obtain⟨v,hr,hv⟩:=wF (P:=P) hd hi uI rfl h1 h2 hle he
 exact b8.same h (by simp[Instr.field,run_underlying hu,hf,asAgg,hr]) hv
theorem IK {ty elem:TypeId}{ei:TypeInfo}{x ix t:T}{i:Nat}{vx vi:Value}(hu:P.underlying ty=some (.slice elem))(hi:P.info? elem=some ei)
  (h:SR w0 g H w) (hx:VR g w x vx) (wG:VR g w ix vi) (hn:cq ix=some i) (he:dw ei.size i x=some t):b8 P w0 g H w (Instr.indexAt ty vx vi) t H:=by
 obtain⟨k,m,rfl,zJ,CS⟩:=ew wG hn
 cases hx<;>simp[dw]at he
 case sl k' es r o cap n cV hk hc BC h1 h2 =>
  cases iE:es[i]? with
  | none=>simp[iE]at he
  | some c =>
   simp[iE]at he
   obtain⟨⟨lR,bK⟩,rfl⟩:=he
   have aw:i<es.length:=(List.getElem?_eq_some_iff.1 iE).1
   have hcn:c.length=n:=BC c (List.mem_of_getElem? iE)
   have uJ:n=ei.size:=by omega
   subst uJ
   refine b8.same h (v:=.pointer (some ⟨r,o+i*ei.size,none⟩)) ?_ (.dk (cV i) (fun j t e=>h1 i j c t iE e) (fun j t e=>h2 i j c t iE e))
   have yr:m<es.length:=by omega
   simp[Instr.indexAt,asIntOf,run_underlying hu,zJ,yr,sizeOf,bu hi,dr,CS]
 case ax b off len n r o q cap hφ hc hq =>
  obtain⟨⟨rfl,aw,bK⟩,rfl⟩:=he
  refine b8.same h (v:=.pointer (some ⟨r,o+(off+i*ei.size),none⟩)) ?_ (.ptr hφ)
  have yr:m<len:=by omega
  simp[Instr.indexAt,asIntOf,run_underlying hu,zJ,yr,sizeOf,bu hi,dr,CS,Nat.add_assoc]
theorem IL {ty elem:TypeId}{len:Nat}{ei:TypeInfo}{ix:T}{b off i:Nat}{vx vi:Value}(hu:P.underlying ty=some (.array len elem))(hi:P.info? elem=some ei)
  (h:SR w0 g H w) (hx:VR g w (.ptr b off) vx) (wG:VR g w ix vi) (hn:cq ix=some i) (aw:i<len):b8 P w0 g H w (Instr.indexAt ty vx vi) (.ptr b (off+i*ei.size)) H:=by
 obtain⟨k,m,rfl,zJ,CS⟩:=ew wG hn
 cases hx with
 | @ptr _ _ r o q hφ =>
  refine b8.same h (v:=.pointer (some ⟨r,o+(off+i*ei.size),none⟩)) ?_ (.ptr hφ)
  have yr:m<len:=by omega
  simp[Instr.indexAt,Instr.sureAddr,asIntOf,run_underlying hu,zJ,yr,sizeOf,bu hi,dr,CS,Nat.add_assoc]
theorem IM {ty:TypeId}{ix:T}{s:ByteArray}{i:Nat}{c:UInt8}{vx vi:Value}(hu:P.underlying ty=some .string)
  (h:SR w0 g H w) (hx:VR g w (.str s) vx) (wG:VR g w ix vi) (hn:cq ix=some i) (hc:s.data[i]?=some c):b8 P w0 g H w (Instr.index ty vx vi) (.int .u8 c.toNat) H:=by
 obtain⟨k,m,rfl,zJ,CS⟩:=ew wG hn
 cases hx
 refine b8.same h ?_ (.int _ _)
 have iS:s[i]?=some c:=by
  have aw:i<s.data.size:=(Array.getElem?_eq_some_iff.1 hc).1
  have h2:=(Array.getElem?_eq_some_iff.1 hc).2
  have BD:i<s.size:=aw
  rw[getElem?_pos s i BD]
  exact congrArg some h2
 simp[Instr.index,asIntOf,run_underlying hu,zJ,CS,iS]
theorem IP {ty elem:TypeId}{len i:Nat}{ei:TypeInfo}{d:TypeDesc}{ag:Bool}{ix t:T}{cs:List T}{vx vi:Value}(hu:P.underlying ty=some (.array len elem))(hd:P.underlying elem=some d)(hi:P.info? elem=some ei)(uI:et d=ag)
  (h:SR w0 g H w) (hx:VR g w (.agg cs) vx) (wG:VR g w ix vi) (hn:cq ix=some i) (aw:i<len) (hle:i*ei.size+ei.size≤cs.length) (he:valOf ag ((cs.drop (i*ei.size)).take ei.size)=some t):b8 P w0 g H w (Instr.index ty vx vi) t H:=by
 obtain⟨k,m,rfl,zJ,CS⟩:=ew wG hn
 obtain⟨vs,rfl,h1,h2⟩:=hx.fY
 obtain⟨v,hr,hv⟩:=wF (P:=P) hd hi uI rfl h1 h2 hle he
 have yr:m<len:=by omega
 exact b8.same h (by simp[Instr.index,asIntOf,run_underlying hu,zJ,yr,sizeOf,bu hi,CS,hr]) hv
def OV (g:Ctx)(w:World)(R:av):Option X→Option Value→Prop
 | none,none=>True
 | some x,some v=>VR g w (x.ev R) v
 | _,_=>False
def MT (l:Nat):Option Value→Prop
 | none=>l=0
 | some v=>∃k n,v=.int k n∧0≤n∧n.toNat=l
theorem run_sliceBound {k:IntKind}{n:Int}{y:Nat}{c:BoundsCode}(h0:0≤n)(hy:n.toNat≤y):(Instr.sliceBound (.int k n) y c).run P w=.ok n.toNat w:=by
 have:n≤y:=by omega
 simp[Instr.sliceBound,asIntOf,h0,this]
theorem gR {R:av}{HO:Bool}{len cap d l hh:Nat}{lo hi:Option X}{kV nv:Option Value}(nw:OV g w R lo kV)
  (yu:OV g w R hi nv) (hl:fH R 0 lo=some l) (tf:fH R d hi=some hh) (hd:hi=none→d=len) (h1:l≤hh) (h2:hh≤cap) :
  (Instr.sliceBounds HO len cap kV nv none).run P w=.ok (l,hh,cap) w:=by
 have eh:∀c,(match nv with|some v=>Instr.sliceBound v cap c|none=>pure len:Sem Nat).run P w=.ok hh w:=by
  intro c
  cases hi with
  | none =>
   cases nv with
   | none=>simp[fH]at tf;simp[←tf,hd rfl]
   | some _=>exact yu.elim
  | some x =>
   cases nv with
   | none=>exact yu.elim
   | some v =>
    obtain⟨k,n,rfl,a,b⟩:=ew yu tf
    subst b
    exact run_sliceBound a h2
 have el:∀c,(match kV with|some v=>Instr.sliceBound v hh c|none=>pure 0:Sem Nat).run P w=.ok l w:=by
  intro c
  cases lo with
  | none =>
   cases kV with
   | none=>simp[fH]at hl;simp[←hl]
   | some _=>exact nw.elim
  | some x =>
   cases kV with
   | none=>exact nw.elim
   | some v =>
    obtain⟨k,n,rfl,a,b⟩:=ew nw hl
    subst b
    exact run_sliceBound a h1
 have eh':=eh (if HO then .sliceAcap else .sliceAlen)
 have el':=el .sliceB
 cases nv<;>cases kV<;>simp_all [Instr.sliceBounds]
theorem IQ {R:av}{ty:TypeId}{s:ByteArray}{l hh:Nat}{lo hi:Option X}{kV nv:Option Value}{vx:Value}(hu:P.underlying ty=some .string)
  (h:SR w0 g H w) (hx:VR g w (.str s) vx) (nw:OV g w R lo kV)
  (yu:OV g w R hi nv) (hl:fH R 0 lo=some l) (tf:fH R s.size hi=some hh) (h1:l≤hh) (h2:hh≤s.size) :
  b8 P w0 g H w (Instr.sliceAt ty vx kV nv none) (.str (s.extract l hh)) H:=by
 cases hx
 refine b8.same h ?_ (.str _)
 have:=gR (P:=P) (HO:=false) nw yu hl tf (fun _=>rfl) h1 h2
 simp[Instr.sliceAt,run_underlying hu,Instr.slice,this]
theorem zK {k k':SK}{es:List (List T)}{r o cap uK n l m:Nat}{a:Option Addr}(cV:Nat→Nat→Value)(hn:∀c∈es,c.length=n)
  (h1:∀(i j:Nat) (c:List T) (t:T),es[i]?=some c→c[j]?=some t→t.one=true∧Bt g w r (o+i*n+j) (cV i j))
  (h2:∀(i j:Nat) (c:List T) (t:T),es[i]?=some c→c[j]?=some t→VR g w t (cV i j))
  (hlm:l≤m) (hm:m≤es.length) (nH:m-l≤uK) (hk:iD g k' r (o+l*n) (m-l) uK n) :
  VR g w (.sl k' ((es.take m).drop l)) (.slice (some ⟨r,o+l*n,none⟩) (m-l) uK):=by
 have hlen:((es.take m).drop l).length=m-l:=by simp;omega
 have get:∀i c,((es.take m).drop l)[i]?=some c→es[l+i]?=some c:=by
  intro i c hi
  rw[List.getElem?_drop,List.getElem?_take]at hi
  split at hi
  ·exact hi
  ·simp at hi
 have:=VR.sl (g:=g) (w:=w) (k:=k') (es:=(es.take m).drop l) (r:=r) (o:=o+l*n) (cap:=uK) (n:=n) (fun i j=>cV (l+i) j) (by rw[hlen];exact hk) (by omega)
  (fun c hc=>hn c (List.mem_of_mem_take (List.mem_of_mem_drop hc)))
  (fun i j c t a b=>⟨(h1 (l+i) j c t (get i c a) b).1,by
   have:=(h1 (l+i) j c t (get i c a) b).2
   rwa[show o+l*n+i*n+j=o+(l+i)*n+j by rw[Nat.add_mul];omega]⟩)
  (fun i j c t a b=>h2 (l+i) j c t (get i c a) b)
 rwa[hlen]at this
theorem IS {R : av}{ty elem : TypeId}{ei : TypeInfo}{k : SK}{es : List (List T)}{l hh : Nat}{lo hi : Option X}{kV nv : Option Value}{vx : Value}(hu : P.underlying ty = some (.slice elem))(jR : P.info? elem = some ei)
    (h : SR w0 g H w) (hx : VR g w (.sl k es) vx) (nw : OV g w R lo kV)
    (yu : OV g w R hi nv) (hl : fH R 0 lo = some l) (tf : fH R es.length hi = some hh) (h1 : l ≤ hh) (h2 : hh ≤ es.length) (cJ : es.all (·.length == ei.size) = true) :
    b8 P w0 g H w (Instr.sliceAt ty vx kV nv none) (.sl (k.cut es.length l hh) ((es.take hh).drop l)) H := by
  have mH : ∀c ∈ es, c.length = ei.size := by simpa using cJ
  cases hx with
  | slnil =>
    simp at h2; subst h2
    have ya : l = 0 := by omega
    subst ya
    have := gR (P := P) (w := w) (g := g) (HO := true) (cap := 0) nw yu hl tf (fun _ => rfl) h1 (Nat.le_refl _)
    simp only[List.length_nil]at this
    exact b8.same h (v := .slice none 0 0) (by simp[Instr.sliceAt, run_underlying hu, Instr.slice, this, sizeOf, bu jR]) (by simpa[SK.cut]using VR.slnil)
  | iQ a =>
    simp at h2; subst h2
    have ya : l = 0 := by omega
    subst ya
    have := gR (P := P) (w := w) (g := g) (HO := true) (cap := 0) nw yu hl tf (fun _ => rfl) h1 (Nat.le_refl _)
    simp only[List.length_nil]at this
    exact b8.same h (v := .slice a 0 0) (by cases a<;>simp[Instr.sliceAt, run_underlying hu, Instr.slice, this, sizeOf, bu jR]) (by simpa[SK.cut]using VR.iQ a)
  | @sl _ _ r o cap n cV hk hc hn h3 h4 =>
    have := gR (P := P) (w := w) (g := g) (HO := true) (cap := cap) nw yu hl tf (fun _ => rfl) h1 (by omega)
    have hr : (Instr.sliceAt ty (.slice (some ⟨r, o, none⟩) es.length cap) kV nv none).run P w = .ok (.slice (some (if cap = l then⟨r, o, none⟩else⟨r, o + l * ei.size, none⟩)) (hh - l) (cap - l)) w := by
      simp[Instr.sliceAt, run_underlying hu, Instr.slice, this, sizeOf, bu jR, dr]
      split<;>rfl
    by_cases he : l<hh
    · -- Ql is left
      have lR : cap ≠ l := by omega
      simp only[lR, if_false]at hr
      have uJ : n = ei.size := by
        cases es with
        | nil => simp at h2; omega
        | cons c es => have a := hn c (by simp); have b := mH c (by simp); omega
      subst uJ
      refine b8.same h hr (zK (k := k) (cap := cap) (a := none) cV hn h3 h4 h1 h2 (by omega) ?_)
      cases k with
      | nil => exact hk.elim
      | arg => trivial
      | full =>
        simp only[SK.cut]; split
        · rename_i e; simp only[iD]at hk ⊢; omega
        · trivial
      | own t e =>
        simp only[SK.cut]; split
        · rename_i e'
          simp only[iD]at hk ⊢
          refine⟨?_, by omega⟩
          rw[hk.1]
          have e1 : o + l * ei.size + (hh - l) * ei.size = o + es.length * ei.size := by
            rw[Nat.add_assoc, ←Nat.add_mul]; congr 2; omega
          have e2 : o + l * ei.size + (cap - l) * ei.size = o + cap * ei.size := by
            rw[Nat.add_assoc, ←Nat.add_mul]; congr 2; omega
          rw[e1, e2]
        · trivial
    · have hle : l = hh := by omega
      subst hle
      have hd : (es.take l).drop l = [] := by simp
      rw[hd]
      have vr : ∀a : Addr, a.spot = none → VR g w (.sl .arg []) (.slice (some a) 0 (cap - l)) := by
        intro a ha
        obtain⟨ab, ao, as⟩ := a
        simp at ha; subst ha
        exact .sl (n := 0) (fun _ _ => .nilIface) trivial (by simp) (by simp) (by simp) (by simp)
      have bL : k.cut es.length l l = .arg ∨ (k.cut es.length l l = .full ∧ cap = l) := by
        cases k with
        | nil => exact hk.elim
        | arg => exact .inl rfl
        | full => simp only[SK.cut]; split
                  · rename_i e; right; simp only[iD]at hk; exact⟨rfl, by omega⟩
                  · exact .inl rfl
        | own t e => simp only[SK.cut]; split
                     · omega
                     · exact .inl rfl
      rcases bL with e|⟨e, lR⟩
      · rw[e]
        refine b8.same h hr ?_
        rw[Nat.sub_self]
        exact vr _ (by split<;>rfl)
      · rw[e]
        refine b8.same h hr ?_
        rw[Nat.sub_self, lR, Nat.sub_self]
        have zL : ∀a : Addr, a.spot = none → VR g w (.sl .full []) (.slice (some a) 0 0) := by
          intro a ha
          obtain⟨ab, ao, as⟩ := a
          simp at ha; subst ha
          exact .sl (n := 0) (fun _ _ => .nilIface) rfl (by simp) (by simp) (by simp) (by simp)
        exact zL _ (by split<;>rfl)
theorem oS {HO:Bool}{len cap l hh m:Nat}{kV:Option Value}{k:IntKind}{nm:Int}{vh:Value}
  (zJ:0≤nm) (WZ:nm.toNat=m) (MU:m≤cap) (tf:∃k n,vh=.int k n∧0≤n∧n.toNat=hh) (h2:hh≤m)
  (hl:MT l kV) (h1:l≤hh) :
  (Instr.sliceBounds HO len cap kV (some vh) (some (.int k nm))).run P w=.ok (l,hh,m) w:=by
 subst WZ
 obtain⟨kh,nh,rfl,a,b⟩:=tf
 subst b
 cases kV with
 | none=>simp only[MT]at hl;subst hl;simp[Instr.sliceBounds,run_sliceBound zJ MU,run_sliceBound a h2]
 | some v =>
  obtain⟨kl,nl,rfl,c,d⟩:=hl
  subst d
  simp[Instr.sliceBounds,run_sliceBound zJ MU,run_sliceBound a h2,run_sliceBound c h1]
theorem Ds {R:av}{ty elem:TypeId}{ei:TypeInfo}{k:SK}{es:List (List T)}{l hh m:Nat}{lo:Option X}{hi mx:X}{kV:Option Value}{nv vm:Value}{vx:Value}(hu:P.underlying ty=some (.slice elem))(jR:P.info? elem=some ei)
  (h:SR w0 g H w) (hx:VR g w (.sl k es) vx) (nw:OV g w R lo kV)
  (yu:VR g w (hi.ev R) nv) (hvm:VR g w (mx.ev R) vm) (hl:fH R 0 lo=some l) (tf:cq (hi.ev R)=some hh) (hm:cq (mx.ev R)=some m) (h1:l≤hh) (h2:hh≤m) (Q4:m≤es.length) (cJ:es.all (·.length==ei.size)=true) :
  b8 P w0 g H w (Instr.sliceAt ty vx kV (some nv) (some vm)) (.sl (if k=.nil then .nil else if es=[]∧k=.arg then .arg else if hh=m then .full else .arg) ((es.take hh).drop l)) H:=by
 have mH:∀c∈es,c.length=ei.size:=by simpa using cJ
 have kx:MT l kV:=by
  cases lo<;>cases kV
  ·simp[fH]at hl;exact hl.symm
  ·exact nw.elim
  ·exact nw.elim
  ·exact ew nw hl
 obtain⟨km,nm,rfl,zJ,WZ⟩:=ew hvm hm
 have hb:∀cap,m≤cap→(Instr.sliceBounds true es.length cap kV (some nv) (some (.int km nm))).run P w=.ok (l,hh,m) w :=
  fun cap hc=>oS zJ WZ hc (ew yu tf) h2 kx h1
 cases hx with
 | slnil =>
  simp at Q4;subst Q4
  obtain rfl:hh=0:=by omega
  obtain rfl:l=0:=by omega
  have:=hb 0 (Nat.le_refl _)
  simp only[List.length_nil]at this
  exact b8.same h (v:=.slice none 0 0) (by simp[Instr.sliceAt,run_underlying hu,Instr.slice,this,sizeOf,bu jR]) (by simpa using VR.slnil)
 | iQ a =>
  simp at Q4;subst Q4
  obtain rfl:hh=0:=by omega
  obtain rfl:l=0:=by omega
  have:=hb 0 (Nat.le_refl _)
  simp only[List.length_nil]at this
  exact b8.same h (v:=.slice a 0 0) (by cases a<;>simp[Instr.sliceAt,run_underlying hu,Instr.slice,this,sizeOf,bu jR]) (by simpa using VR.iQ a)
 | @sl _ _ r o cap n cV hk hc hn h3 h4 =>
  have Q6:k≠.nil:=by rintro rfl;exact hk.elim
  simp only[Q6,if_false]
  have hr:(Instr.sliceAt ty (.slice (some ⟨r,o,none⟩) es.length cap) kV (some nv) (some (.int km nm))).run P w=.ok (.slice (some (if m=l then⟨r,o,none⟩else⟨r,o+l*ei.size,none⟩)) (hh-l) (m-l)) w:=by
   simp[Instr.sliceAt,run_underlying hu,Instr.slice,hb cap (by omega),sizeOf,bu jR,dr]
   split<;>rfl
  by_cases he:l<hh
  ·have lR:m≠l:=by omega
   simp only[lR,if_false]at hr
   have bK:es≠[]:=by rintro rfl;simp at Q4;omega
   have uJ:n=ei.size:=by
    cases es with
    | nil=>exact absurd rfl bK
    | cons c es=>have a:=hn c (by simp);have b:=mH c (by simp);omega
   subst uJ
   simp only[bK,false_and,if_false]
   refine b8.same h hr (zK (k:=k) (cap:=cap) (a:=none) cV hn h3 h4 h1 (by omega) (by omega) ?_)
   split
   ·rename_i e;simp only[iD];omega
   ·trivial
  ·obtain rfl:l=hh:=by omega
   have hd:(es.take l).drop l=[]:=by simp
   rw[hd]
   have zL:∀(a:Addr) (c:Nat) (k':SK),a.spot=none→(k'=.arg∨(k'=.full∧c=0))→VR g w (.sl k' []) (.slice (some a) 0 c):=by
    intro a c k' ha kW
    obtain⟨ab,ao,as⟩:=a
    simp at ha;subst ha
    refine .sl (n:=0) (fun _ _=>.nilIface) ?_ (by simp) (by simp) (by simp) (by simp)
    rcases kW with rfl|⟨rfl,rfl⟩
    ·trivial
    ·rfl
   refine b8.same h hr ?_
   rw[Nat.sub_self]
   refine zL _ _ _ (by split<;>rfl) ?_
   split
   ·exact .inl rfl
   ·split
    ·exact .inr ⟨rfl,by omega⟩
    ·exact .inl rfl
theorem Dt {R:av}{ty elem:TypeId}{ei:TypeInfo}{b off len l hh:Nat}{lo hi:Option X}{kV nv:Option Value}{vx:Value}(hu:P.underlying ty=some (.slice elem))(jR:P.info? elem=some ei)
  (h:SR w0 g H w) (hx:VR g w (.ax b off len ei.size) vx) (nw:OV g w R lo kV)
  (yu:OV g w R hi nv) (hl:fH R 0 lo=some l) (tf:fH R len hi=some hh) (h1:l≤hh) (h2:hh≤len) :
  b8 P w0 g H w (Instr.sliceAt ty vx kV nv none) (if l=hh then(if l=0 then .ax b off 0 ei.size else .sl .arg [])else .ax b (off+l*ei.size) (hh-l) ei.size) H:=by
 cases hx with
 | @ax _ _ _ _ r o q cap hφ hc hq =>
  have:=gR (P:=P) (w:=w) (g:=g) (HO:=true) (cap:=cap) nw yu hl tf (fun _=>rfl) h1 (by omega)
  have hr:(Instr.sliceAt ty (.slice (some ⟨r,o+off,none⟩) len cap) kV nv none).run P w=.ok (.slice (some (if cap=l then⟨r,o+off,none⟩else⟨r,o+off+l*ei.size,none⟩)) (hh-l) (cap-l)) w:=by
   simp[Instr.sliceAt,run_underlying hu,Instr.slice,this,sizeOf,bu jR,dr]
   split<;>rfl
  refine b8.same h hr ?_
  have key:∀a:Addr,a=⟨r,o+(off+l*ei.size),none⟩→(cap≠l∨l=0)→VR g w (.ax b (off+l*ei.size) (hh-l) ei.size) (.slice (some a) (hh-l) (cap-l)):=by
   rintro a rfl lR
   refine .ax hφ (by omega) ?_
   rw[←hq]
   have:l*ei.size+(cap-l)*ei.size=cap*ei.size:=by rw[←Nat.add_mul];congr 1;omega
   omega
  split
  ·rename_i e;subst e
   split
   ·rename_i e;subst e
    have:=key (if cap=0 then⟨r,o+off,none⟩else⟨r,o+off+0*ei.size,none⟩) (by split<;>simp) (.inr rfl)
    simpa using this
   ·rw[Nat.sub_self]
    have zL:∀(a:Addr) (c:Nat),a.spot=none→VR g w (.sl .arg []) (.slice (some a) 0 c):=by
     intro a c ha
     obtain⟨ab,ao,as⟩:=a
     simp at ha;subst ha
     exact .sl (n:=0) (fun _ _=>.nilIface) trivial (by simp) (by simp) (by simp) (by simp)
    exact zL _ _ (by split<;>rfl)
  ·have lR:cap≠l:=by omega
   exact key _ (by rw[if_neg lR,Nat.add_assoc]) (.inl lR)
theorem Du {R:av}{ty elem:TypeId}{ei:TypeInfo}{b off len c l hh:Nat}{lo hi:Option X}{kV nv:Option Value}{vx:Value}(hu:P.underlying ty=some (.slice elem))(jR:P.info? elem=some ei)
  (h:SR w0 g H w) (hx:VR g w (.ej b off len ei.size c) vx) (nw:OV g w R lo kV)
  (yu:OV g w R hi nv) (hl:fH R 0 lo=some l) (tf:fH R len hi=some hh) (h1:l≤hh) (h2:hh≤c) :
  b8 P w0 g H w (Instr.sliceAt ty vx kV nv none) (if l<c∨l=0 then .ej b (off+l*ei.size) (hh-l) ei.size (c-l)else .sl .arg []) H:=by
 cases hx with
 | @ej _ _ _ _ r o q cap hφ hc hq =>
  have:=gR (P:=P) (w:=w) (g:=g) (HO:=true) (cap:=c) nw yu hl tf (fun _=>rfl) h1 (by omega)
  have hr:(Instr.sliceAt ty (.slice (some ⟨r,o+off,none⟩) len c) kV nv none).run P w=.ok (.slice (some (if c=l then⟨r,o+off,none⟩else⟨r,o+off+l*ei.size,none⟩)) (hh-l) (c-l)) w:=by
   simp[Instr.sliceAt,run_underlying hu,Instr.slice,this,sizeOf,bu jR,dr]
   split<;>rfl
  refine b8.same h hr ?_
  by_cases h3:l<c∨l=0
  case neg =>
   rw[if_neg h3]
   have e0:hh-l=0:=by omega
   have zL:∀(a:Addr) (c:Nat),a.spot=none→VR g w (.sl .arg []) (.slice (some a) 0 c):=by
    intro a c ha
    obtain⟨ab,ao,as⟩:=a
    simp at ha;subst ha
    exact .sl (n:=0) (fun _ _=>.nilIface) trivial (by simp) (by simp) (by simp) (by simp)
   rw[e0]
   exact zL _ _ (by split<;>rfl)
  rw[if_pos h3]
  have e:(if c=l then(⟨r,o+off,none⟩:Addr)else⟨r,o+off+l*ei.size,none⟩)=⟨r,o+(off+l*ei.size),none⟩:=by
   split
   ·have:l=0:=by omega
    subst this;simp
   ·simp[Nat.add_assoc]
  rw[e]
  refine .ej hφ (by omega) ?_
  rw[←hq]
  have:l*ei.size+(c-l)*ei.size=c*ei.size:=by rw[←Nat.add_mul];congr 1;omega
  omega
end
section
variable {P:Program} {w0 w:World} {g:Ctx} {H:af}
def mX (P:Program)(ty:TypeId):KT→Bool
 | .sc t=>match P.underlying ty with|some d=>HL t d|none=>false
 | .st ks=>match P.underlying ty with|some (.struct fs)=>flat P fs.toList 0 ks&&!P.stoodInHeld ty|_=>false
theorem Dv {e:Bool}{n:Nat}{ty:TypeId}{d:TypeDesc}{k:vW}{v:Value}(hu:P.underlying ty=some d)(hk:HL k d=true):(Instr.checkKey e (n+1) ty v).run P w=.ok () w:=by
 rw[Instr.checkKey];simp only[Sem.run_bind,run_underlying hu,Result.andThen_ok]
 cases k<;>cases d<;>simp[HL]at hk<;>cases v<;>rfl
theorem nI {e:Bool}{n:Nat}:∀(fs:List Field) (off:Nat) (ks:List vW) (cs:List T) (xs:Array Value),flat P fs off ks=true→cs.length=ks.length →
  (∀(i:Nat) (t:T),cs[i]?=some t→∃v,xs[off+i]?=some v∧VR g w t v) →
  (forIn fs PUnit.unit (fun f _=>if f.name≠"_" then (do let x ← part f.type xs f.offset;Instr.checkKey e (n+1) f.type x;pure (ForInStep.yield PUnit.unit))
   else pure (ForInStep.yield PUnit.unit)):Sem PUnit).run P w=.ok PUnit.unit w
 | [],off,ks,cs,xs,hf,hl,hc=>by simp
 | f :: fs,off,ks,cs,xs,hf,hl,hc=>by
  cases ks with
  | nil=>simp[flat]at hf
  | cons k ks =>
   cases cs with
   | nil=>simp at hl
   | cons c cs =>
    simp only[flat,Bool.and_eq_true,beq_iff_eq,bne_iff_ne]at hf
    obtain⟨⟨⟨Bz,Dp⟩,HM⟩,fI⟩:=hf
    cases hu:P.underlying f.type with
    | none=>simp[hu]at HM
    | some de =>
     simp[hu]at HM
     obtain⟨va,CQ,BA⟩:=hc 0 c rfl
     simp only[Nat.add_zero]at CQ
     have ih:=nI (e:=e) (n:=n) fs (off+1) ks cs xs fI (by simpa using hl) (fun i t hi=>by have:=hc (i+1) t (by simpa using hi);rwa[show off+1+i=off+(i+1) by omega])
     simp only[List.forIn_cons,Sem.run_bind,Dp,ne_eq,not_false_eq_true,if_true,Bz,oQ hu HM CQ,Result.andThen_ok,Dv hu HM,Sem.run_pure]
     exact ih
theorem qH:∀(ks:List vW) (cs:List T),fO ks cs=true→cs.length=ks.length
 | [],[],_=>rfl
 | _ :: ks,_ :: cs,h=>by simp[fO]at h;simp[qH ks cs h.2]
 | [],_ :: _,h=>by simp[fO]at h
 | _ :: _,[],h=>by simp[fO]at h
theorem kX {e:Bool}{ty:TypeId}{kt:KT}{k:T}{vk:Value}(jT:mX P ty kt=true)(hk:VR g w k vk)(h:k.jh kt=true):(Instr.checkKey e 10000 ty vk).run P w=.ok () w:=by
 cases kt with
 | sc t =>
  simp only[mX]at jT
  cases hu:P.underlying ty with
  | none=>simp[hu]at jT
  | some d=>simp[hu]at jT;exact Dv (n:=9999) hu jT
 | st ks =>
  simp only[mX]at jT
  cases hu:P.underlying ty with
  | none=>simp[hu]at jT
  | some d =>
   cases d<;>simp[hu]at jT
   rename_i fs
   cases k<;>simp[T.jh]at h
   rename_i cs
   obtain⟨xs,rfl,HN,_⟩:=hk.fY
   show(Instr.checkKey e (9998+1+1) ty _).run P w=_
   rw[Instr.checkKey];simp only[Sem.run_bind,run_underlying hu,Result.andThen_ok]
   rw[←Array.forIn_toList]
   rw[nI (g:=g) (e:=e) (n:=9998) fs.toList 0 ks cs xs.toArray jT.1 (qH _ _ h) (fun i t hi=>by simpa using HN.fZ i t hi)]
   rfl
theorem Dw {n:Nat}{ty:TypeId}{kt:KT}{a b:T}{va vb:Value}{r:Bool}(jT:mX P ty kt=true)(ha:VR g w a va)(hb:VR g w b vb)(hk:a.jh kt=true)(he:gW a b=some r) :
  (Op.equalIn (n+1+1) ty va vb).run P w=.ok r w:=by
 cases kt with
 | sc t =>
  simp only[mX]at jT
  cases hu:P.underlying ty with
  | none=>simp[hu]at jT
  | some d =>
   simp[hu]at jT
   have CT:ji a b=some r:=by
    cases a<;>simp[T.jh]at hk<;>(first|exact he|(cases t<;>simp[T.yo]at hk))
   exact zI hu jT ha hb hk CT
 | st ks =>
  simp only[mX]at jT
  cases hu:P.underlying ty with
  | none=>simp[hu]at jT
  | some d =>
   cases d<;>simp[hu]at jT
   rename_i fs
   cases a<;>simp[T.jh]at hk
   rename_i cs
   cases b<;>simp[gW,ji]at he
   rename_i ds
   obtain⟨xs,rfl,HN,_⟩:=ha.fY
   obtain⟨ys,rfl,Qk,_⟩:=hb.fY
   exact ta hu jT.1 (by simpa using jT.2) hk HN Qk he n
theorem yv {t:vW}{d:TypeDesc}{a b:T}{va vb:Value}{r:Bool}(hd:HL t d=true)(ha:VR g w a va)(hb:VR g w b vb)(hk:a.yo t=true)(he:gW a b=some r):Instr.sameNow d va vb=some r:=by
 cases t<;>cases d<;>simp[HL]at hd<;>cases ha<;>simp[T.yo]at hk<;>cases hb<;>simp[gW,ji]at he
 ·obtain⟨rfl,rfl⟩:=he;simp[Instr.sameNow]
 ·subst he;simp[Instr.sameNow,jx,beq_toListBytes]
 ·subst he;simp[Instr.sameNow]
theorem uL {ty:TypeId}{kt:KT}{k:T}{vk:Value}(jT:mX P ty kt=true)(hk:VR g w k vk)(h:k.jh kt=true)(es:List (T×T))(aA:List MapEntry)(hl:aA.length=es.length)
  (hh:∀(i:Nat) (e:T×T) (m:MapEntry),es[i]?=some e→aA[i]?=some m→VR g w e.1 m.key∧VR g w e.2 m.val) {r:Option Nat} (hr:dp k es=some r) :
  (Instr.findKey ty vk aA).run P w=.ok (r.bind fun i=>(aA[i]?).map fun m=>(i,m.val)) w:=by
 cases kt with
 | sc t =>
  simp only[mX]at jT
  cases hu:P.underlying ty with
  | none=>simp[hu]at jT
  | some d =>
   simp[hu]at jT
   have key:∀(es:List (T×T)) (aA:List MapEntry) (j:Nat) (r:Option Nat),aA.length=es.length→(∀(i:Nat) (e:T×T) (m:MapEntry),es[i]?=some e→aA[i]?=some m→VR g w e.1 m.key∧VR g w e.2 m.val) →
     dp k es=some r→Instr.findNow d vk aA j=some (r.bind fun i=>(aA[i]?).map fun m=>(j+i,m.val)):=by
    intro es
    induction es with
    | nil =>
     intro aA j r hl _ hr
     simp[dp]at hr;subst hr
     cases aA with
     | nil=>rfl
     | cons _ _=>simp at hl
    | cons e es ih =>
     intro aA j r hl hh hr
     cases aA with
     | nil=>simp at hl
     | cons m aA =>
      have h0:=hh 0 e m rfl rfl
      simp only[dp]at hr
      cases he:gW k e.1 with
      | none=>simp[he]at hr
      | some b =>
       have hs:=yv jT hk h0.1 h he
       cases b with
       | true=>simp[he]at hr;subst hr;simp[Instr.findNow,hs]
       | false =>
        simp only[he,Option.map_eq_some_iff]at hr
        obtain⟨r',h1,rfl⟩:=hr
        simp only[Instr.findNow,hs]
        rw[ih aA (j+1) r' (by simpa using hl) (fun i e' m' a b=>hh (i+1) e' m' (by simpa using a) (by simpa using b)) h1]
        cases r' with
        | none=>rfl
        | some i=>simp;cases aA[i]?<;>simp;omega
   have:=key es aA 0 r hl hh hr
   simp only[Instr.findKey,Sem.run_bind,run_underlying hu,Result.andThen_ok,this,Sem.run_pure]
   simp
 | st ks =>
  have W0:=jT
  simp only[mX]at jT
  cases hu:P.underlying ty with
  | none=>simp[hu]at jT
  | some d =>
   cases d<;>simp[hu]at jT
   rename_i fs
   have key:∀(es:List (T×T)) (aA:List MapEntry) (j:Nat) (r:Option Nat),aA.length=es.length→(∀(i:Nat) (e:T×T) (m:MapEntry),es[i]?=some e→aA[i]?=some m→VR g w e.1 m.key∧VR g w e.2 m.val) →
     dp k es=some r→(Instr.findAsking ty vk aA j).run P w=.ok (r.bind fun i=>(aA[i]?).map fun m=>(j+i,m.val)) w:=by
    intro es
    induction es with
    | nil =>
     intro aA j r hl _ hr
     simp[dp]at hr;subst hr
     cases aA with
     | nil=>rfl
     | cons _ _=>simp at hl
    | cons e es ih =>
     intro aA j r hl hh hr
     cases aA with
     | nil=>simp at hl
     | cons m aA =>
      have h0:=hh 0 e m rfl rfl
      simp only[dp]at hr
      cases he:gW k e.1 with
      | none=>simp[he]at hr
      | some b =>
       have hs:(Op.equal ty vk m.key).run P w=.ok b w:=Dw (n:=9998) W0 hk h0.1 h he
       cases b with
       | true=>simp[he]at hr;subst hr;simp[Instr.findAsking,hs]
       | false =>
        simp only[he,Option.map_eq_some_iff]at hr
        obtain⟨r',h1,rfl⟩:=hr
        simp only[Instr.findAsking,Sem.run_bind,hs,Result.andThen_ok,Bool.false_eq_true,if_false]
        rw[ih aA (j+1) r' (by simpa using hl) (fun i e' m' a b=>hh (i+1) e' m' (by simpa using a) (by simpa using b)) h1]
        cases r' with
        | none=>rfl
        | some i=>simp;cases aA[i]?<;>simp;omega
   have kW:=key es aA 0 r hl hh hr
   cases aA with
   | nil =>
    simp only[Instr.findKey,Sem.run_bind,run_underlying hu,Result.andThen_ok,Instr.findNow,Sem.run_pure]
    exact kW
   | cons m aA =>
    have:Instr.findNow (.struct fs) vk (m :: aA) 0=none:=by simp[Instr.findNow,Instr.sameNow]
    simp only[Instr.findKey,Sem.run_bind,run_underlying hu,Result.andThen_ok,this]
    simpa using kW
def Dx (w:World)(vm:Value)(aA:Array MapEntry):Prop:=(vm=.map none∧aA=#[])∨∃r c,vm=.map (some r)∧w.heap[r]?=some (.map aA c)
theorem BE {m:T}{vm:Value}{es:List (T×T)}(h:SR w0 g H w)(hm:VR g w m vm)(iE:gE H m=some es):∃aA,Dx w vm aA∧eo g w es aA:=by
 cases hm<;>simp[gE]at iE
 ·subst iE;exact⟨#[],.inl ⟨rfl,rfl⟩,⟨rfl,by simp⟩⟩
 ·rename_i b r' o q hφ
  cases hb:H[b]? with
  | none=>simp[hb]at iE
  | some y =>
   cases y<;>simp[hb]at iE
   ·subst iE
    obtain⟨_,aA,c,h2,h3,_⟩:=h.eg b _ hb r' o q hφ
    exact⟨aA,.inr ⟨r',c,rfl,h2⟩,h3⟩
   ·subst iE
    obtain⟨r2,o',q',kM,_,aA,c,h2,h3,_⟩:=h.eg b _ hb
    rw[hφ]at kM;cases kM
    exact⟨aA,.inr ⟨r',c,rfl,h2⟩,h3⟩
theorem qI {ty key elem:TypeId}{ei:TypeInfo}{zv vm vk:Value}{ok:Bool}{aA:Array MapEntry}{r:Option (Nat×Value)}(hu:P.underlying ty=some (.map key elem))(hi:P.info? elem=some ei)(hz:ei.zero=some zv)
  (he:Dx w vm aA) (hc:(Instr.checkKey aA.isEmpty 10000 key vk).run P w=.ok () w) (hf:(Instr.findKey key vk aA.toList).run P w=.ok r w) :
  (Instr.lookup ty vm vk ok).run P w=.ok (match r with|some (_,v)=>if ok then .tuple #[v,.bool true]else v|none=>if ok then .tuple #[zv,.bool false]else zv) w:=by
 rcases he with⟨rfl,rfl⟩|⟨rr,c,rfl,h2⟩
 ·have ql:(Instr.findKey key vk []).run P w=.ok r w:=hf
  have iS:(Instr.checkKey true 10000 key vk).run P w=.ok () w:=hc
  simp only[Instr.lookup,Sem.run_bind,run_underlying hu,Result.andThen_ok]
  cases r with
  | none=>simp[iS,ql,zeroValue,bu hi,hz]
  | some x=>obtain⟨i,v⟩:=x;simp[iS,ql]
 ·simp only[Instr.lookup,Sem.run_bind,run_underlying hu,Result.andThen_ok]
  cases r with
  | none=>simp[getObj,Sem.run,h2,hc,hf,zeroValue,bu hi,hz]
  | some x=>obtain⟨i,v⟩:=x;simp[getObj,Sem.run,h2,hc,hf]
theorem zM {ty key elem:TypeId}{ei:TypeInfo}{zv:Value}{kt:KT}{z m k t:T}{ok:Bool}{vm vk:Value}{es:List (T×T)}{r:Option Nat}(hu:P.underlying ty=some (.map key elem))(hi:P.info? elem=some ei)(hz:ei.zero=some zv)(qm:mW zv=some z)
  (jT:mX P key kt=true) (h:SR w0 g H w) (hm:VR g w m vm) (hk:VR g w k vk) (yw:k.jh kt=true)
  (iE:gE H m=some es) (hr:dp k es=some r)
  (ht:(match r with|some i=>(es[i]?).map fun e=>if ok then T.bJ [e.2,.bool true]else e.2|none=>some (if ok then .bJ [z,.bool false]else z))=some t):b8 P w0 g H w (Instr.lookup ty vm vk ok) t H:=by
 obtain⟨aA,Qm,hE⟩:=BE h hm iE
 have hf:=uL jT hk yw es aA.toList (by simpa using hE.1) (fun i e m a b=>hE.2 i e m a (by simpa using b)) hr
 have hc:=kX (e:=aA.isEmpty) jT hk yw
 have zvr:VR g w z zv:=lS qm
 cases r with
 | none =>
  simp only[Option.some.injEq]at ht
  subst ht
  refine b8.same h (qI hu hi hz Qm hc hf) ?_
  cases ok
  ·exact zvr
  ·exact bF.bJ (bF.cons zvr (bF.cons (.bool _) bF.nil))
 | some i =>
  cases he:es[i]? with
  | none=>simp[he]at ht
  | some e =>
   have aw:i<aA.size:=by rw[hE.1];exact(List.getElem?_eq_some_iff.1 he).1
   have qJ:aA[i]?=some aA[i]:=Array.getElem?_eq_getElem aw
   have hv:=(hE.2 i e _ he qJ).2
   simp only[he,Option.map_some,Option.some.injEq]at ht
   subst ht
   have hx:((some i:Option Nat).bind fun i=>(aA.toList[i]?).map fun m=>(i,m.val))=some (i,aA[i].val):=by simp[aw]
   rw[hx]at hf
   refine b8.same h (qI hu hi hz Qm hc hf) ?_
   cases ok
   ·exact hv
   ·exact bF.bJ (bF.cons hv (bF.cons (.bool _) bF.nil))
theorem IT {vs:List T}{i:Nat}{t:T}{vx:Value}(h:SR w0 g H w)(hx:VR g w (.bJ vs) vx)(he:vs[i]?=some t):b8 P w0 g H w (Instr.extract vx i) t H:=by
 obtain⟨xs,rfl,HN⟩:=hx.Iy
 obtain⟨v,h1,h2⟩:=HN.fZ i t he
 exact b8.same h (by simp at h1;simp[Instr.extract,h1]) h2
theorem MV {rt:TypeId}{iT:Array TypeId}{k k':IntKind}{a b:Int}{vx vy:Value}(h:SR w0 g H w)(hx:VR g w (.int k a) vx)(hy:VR g w (.int k' b) vy):b8 P w0 g H w (Builtin.min_ iT rt #[vx,vy]) (.int k (if b<a then b else a)) H:=by
 cases hx;cases hy
 exact b8.same h (by simp[Builtin.min_,Builtin.min2]) (.int _ _)
theorem MW {rt:TypeId}{iT:Array TypeId}{k k':IntKind}{a b:Int}{vx vy:Value}(h:SR w0 g H w)(hx:VR g w (.int k a) vx)(hy:VR g w (.int k' b) vy):b8 P w0 g H w (Builtin.max_ iT rt #[vx,vy]) (.int k (if b>a then b else a)) H:=by
 cases hx;cases hy
 exact b8.same h (by simp[Builtin.max_,Builtin.max2]) (.int _ _)
end
section
variable {P:Program} {w0 w:World} {g:Ctx} {H:af}
def gG:Nat→Nat→Prop:=fun _ _=>False
def iU:Nat→Prop:=fun _=>False
theorem Tr.drew (w:World):Tr w w.drew gG iU:=⟨Nat.le_refl _,fun _ _ _ _=>rfl,fun _ _ _=>rfl,fun _ _ _ h=>h,fun _ _ _ _ h=>h,fun _ _ _ _=>rfl,fun _ _ h=>dz h,rfl,rfl⟩
theorem Tr.refl (w:World):Tr w w gG iU:=⟨Nat.le_refl _,fun _ _ _ _=>rfl,fun _ _ _=>rfl,fun _ _ _ h=>h,fun _ _ _ _ h=>h,fun _ _ _ _=>rfl,fun _ _ h=>dz h,rfl,rfl⟩
theorem Tr.alloc (w:World)(o:Obj)(ho:fw o=true∨∃c t,o=.cells c t):Tr w (w.alloc o) gG iU where
 size:=by simp
 cell r j hr _:=World.cell?_alloc_lt w o ⟨r,j,none⟩ hr
 qa r j hr:=World.frozen?_alloc_old w o ⟨r,j,none⟩ (Nat.ne_of_lt hr)
 dQ r j hr h:=by rw[World.cell?_alloc_lt w o ⟨r,j,none⟩ hr];exact h
 maps r x _ _ h:=by
  have hr:r<w.heap.size:=(Array.getElem?_eq_some_iff.1 h).1
  simp only[World.alloc,Array.getElem?_push];rw[if_neg (by omega)];exact h
 jP r hr _ _:=by simp only[World.alloc,Array.getElem?_push];rw[if_neg (by omega)]
 yq r j hr:=by
  by_cases e:r=w.heap.size
  ·subst e
   have e1:(w.alloc o).heap[w.heap.size]?=some o:=by show(w.heap.push o)[w.heap.size]?=some o;simp
   unfold World.frozen?
   rw[e1]
   rcases ho with ho|⟨c,t,rfl⟩
   ·cases o<;>simp[fw]at ho<;>rfl
   ·simp
  ·rw[World.frozen?_alloc_old w o ⟨r,j,none⟩ e];exact dz hr
 env:=⟨rfl,rfl⟩
theorem Tr.trans {w w' Q0:World}{S:Nat→Nat→Prop}{M:Nat→Prop}(h:Tr w w' S M)(h':Tr w' Q0 S M):Tr w Q0 S M where
 size:=Nat.le_trans h.size h'.size
 cell r j hr hs:=(h'.cell r j (Nat.lt_of_lt_of_le hr h.size) hs).trans (h.cell r j hr hs)
 qa r j hr:=(h'.qa r j (Nat.lt_of_lt_of_le hr h.size)).trans (h.qa r j hr)
 dQ r j hr hs:=h'.dQ r j (Nat.lt_of_lt_of_le hr h.size) (h.dQ r j hr hs)
 maps r x hm hs h1:=h'.maps r x hm hs (h.maps r x hm hs h1)
 jP r hr hm hs:=(h'.jP r (Nat.lt_of_lt_of_le hr h.size) hm hs).trans (h.jP r hr hm hs)
 yq r j hr:=by
  by_cases hw:r<w'.heap.size
  ·rw[h'.qa r j hw];exact h.yq r j hr
  ·exact h'.yq r j (by omega)
 env:=⟨h'.env.1.trans h.env.1,h'.env.2.trans h.env.2⟩
theorem cG (r:Nat):∀(vs:List Value) (o:Nat) (w:World) (r' j:Nat),¬(r'=r∧o≤j∧j<o+vs.length)→(w.setCells r o vs).cell? ⟨r',j,none⟩=w.cell? ⟨r',j,none⟩
 | [],_,_,_,_,_=>rfl
 | v :: vs,o,w,r',j,h=>by
  rw[World.setCells,cG r vs (o+1) _ r' j (by simp at h ⊢;omega),World.cell?_setCell_other]
  intro e
  simp at e
  exact h ⟨e.1.symm,by omega,by simp;omega⟩
theorem cK (r:Nat):∀(vs:List Value) (o:Nat) (w:World),(∀j,o≤j→j<o+vs.length→(w.cell? ⟨r,j,none⟩).isSome=true)→∀(i:Nat) (v:Value),vs[i]?=some v→(w.setCells r o vs).cell? ⟨r,o+i,none⟩=some v
 | [],_,_,_,i,v,h=>by simp at h
 | u :: vs,o,w,hs,i,v,h=>by
  rw[World.setCells]
  cases i with
  | zero =>
   simp at h;subst h
   rw[cG r vs (o+1) _ r _ (by omega)]
   obtain⟨x,hx⟩:=Option.isSome_iff_exists.1 (hs o (Nat.le_refl _) (by simp))
   exact World.cell?_setCell_same w ⟨r,o,none⟩ u hx
  | succ i =>
   have:=cK r vs (o+1) (w.setCell ⟨r,o,none⟩ u) (fun j h1 h2=>by
    rw[World.cell?_setCell_other _ _ _ _ (by simp;omega)]
    exact hs j (by omega) (by simp;omega)) i v (by simpa using h)
   rwa[show o+(i+1)=o+1+i by omega]
theorem dM (r:Nat):∀(vs:List Value) (o:Nat) (w:World),(w.setCells r o vs).heap.size=w.heap.size
 | [],_,_=>rfl
 | v :: vs,o,w=>by rw[World.setCells,dM r vs,World.size_setCell]
theorem mI (r:Nat):∀(vs:List Value) (o:Nat) (w:World) (r':Nat),r'≠r→(w.setCells r o vs).heap[r']?=w.heap[r']?
 | [],_,_,_,_=>rfl
 | v :: vs,o,w,r',h=>by
  rw[World.setCells,mI r vs _ _ r' h]
  simp only[World.setCell,Array.getElem?_modify];rw[if_neg (fun e=>h e.symm)]
theorem nJ (r:Nat):∀(vs:List Value) (o:Nat) (w:World) (r':Nat) (x:Obj),fw x=true→w.heap[r']?=some x→(w.setCells r o vs).heap[r']?=some x
 | [],_,_,_,_,_,h=>h
 | v :: vs,o,w,r',x,hs,h=>by
  rw[World.setCells]
  refine nJ r vs _ _ r' x hs ?_
  simp only[World.setCell,Array.getElem?_modify]
  split
  ·rename_i e;rw[h];cases x<;>simp[fw]at hs<;>rfl
  ·exact h
theorem nK (r:Nat):∀(vs:List Value) (o:Nat) (w:World),(w.setCells r o vs).os=w.os∧(w.setCells r o vs).output=w.output
 | [],_,_=>⟨rfl,rfl⟩
 | v :: vs,o,w=>by rw[World.setCells];exact nK r vs _ _
def wH (r o n:Nat):Nat→Nat→Prop:=fun r' j=>r'=r∧o≤j∧j<o+n
theorem Tr.setCells (w:World)(r o:Nat)(vs:List Value)(hs:∀j,o≤j→j<o+vs.length→(w.cell? ⟨r,j,none⟩).isSome=true):Tr w (w.setCells r o vs) (wH r o vs.length) iU where
 size:=by rw[dM];exact Nat.le_refl _
 cell r' j _ h:=cG r vs o w r' j h
 qa r' j _:=World.frozen?_setCells r vs o w _
 dQ r' j _ h:=by
  by_cases e:r'=r∧o≤j∧j<o+vs.length
  ·obtain⟨rfl,e1,e2⟩:=e
   have hi:j-o<vs.length:=by omega
   have:=cK r' vs o w hs (j-o) _ (List.getElem?_eq_getElem hi)
   rw[show o+(j-o)=j by omega]at this
   rw[this];rfl
  ·rw[cG r vs o w r' j e];exact h
 maps r' x _ hs h:=nJ r vs o w r' x hs h
 jP r' _ _ h:=by
  by_cases e:r'=r
  ·cases vs with
   | nil=>rfl
   | cons v vs=>exact absurd ⟨e,Nat.le_refl _,by simp⟩ (h o)
  ·exact mI r vs o w r' e
 yq r' j hr:=by rw[World.frozen?_setCells];exact dz hr
 env:=nK r vs o w
def Ctx.row (g:Ctx)(r:Nat)(f:Nat→Ow):Ctx:={ g with κ:=fun r' j=>if r'=r then f j else g.κ r' j }
def Ctx.at (g:Ctx)(b:Nat)(x:Nat×Nat×Nat):Ctx:={ g with φ:=fun b'=>if b'=b then some x else g.φ b' }
def Ctx.tok (g:Ctx)(t e:Nat)(x:Nat×Nat×Nat):Ctx:={ g with π:=fun t' e'=>if t'=t∧e'=e then some x else g.π t' e' }
theorem Le.gZ {w':World}{g':Ctx}{S:Nat→Nat→Prop}{M:Nat→Prop}(tr:Tr w w' S M)(hφ:∀b x,g.φ b=some x→g'.φ b=some x)(hκ:∀r o,g.κ r o=.mA→g'.κ r o=.mA)(hπ:∀t e x,g.π t e=some x→g'.π t e=some x)
  (hS:∀r j,S r j→g.κ r j≠.mA) (hck:g'.ck=g.ck:=by rfl):Le g w g' w' :=
 ⟨hφ,hκ,hπ,fun r o v hk hc=>by rw[tr.cell r o (jQ hc) (fun hs=>hS r o hs hk)];exact hc,hck⟩
theorem SR.mA {c:Array Value}{ty:TypeId}{w1:World}(h:SR w0 g H w)(tr:Tr w w1 gG iU)(hz:w1.heap.size=w.heap.size) :
  Le g w (g.row w.heap.size fun _=>.mA) (w1.alloc (.cells c ty))∧SR w0 (g.row w.heap.size fun _=>.mA) H (w1.alloc (.cells c ty))∧Fr g H (g.row w.heap.size fun _=>.mA) H ∧
  ∀(j:Nat) (v:Value),c[j]?=some v→Bt (g.row w.heap.size fun _=>.mA) (w1.alloc (.cells c ty)) w.heap.size j v:=by
 have wI:=tr.trans (Tr.alloc w1 (.cells c ty) (.inr ⟨_,_,rfl⟩))
 have le:Le g w (g.row w.heap.size fun _=>.mA) (w1.alloc (.cells c ty)):=Le.gZ wI (fun _ _ h=>h) (fun r o hk=>by simp only[Ctx.row];split;rfl;exact hk) (fun _ _ _ h=>h) (fun _ _ hs=>hs.elim)
 refine⟨le,?_,⟨Nat.le_refl _,fun _ _ a _ b=>⟨a,b⟩⟩,fun j v hj=>⟨by simp[Ctx.row],?_⟩⟩
 ·refine h.step (fun _=>False) wI le (fun _ _ hs=>hs.elim) (fun _ hm=>hm.elim) (fun r o hr=>?_) h.sH h.jj (fun _ _ _=>rfl) (fun r j b _=>?_) (fun _ _ _ _=>rfl) (fun b x hx=>.inl ⟨fun hf=>hf,hx⟩)
  ·simp at hr
   simp only[Ctx.row];rw[if_neg (by omega)];exact h.fresh r o (by omega)
  ·have bK:∀ow,g.κ r j=ow→ow≠.free→r≠w.heap.size:=by rintro ow e hn rfl;exact hn (e▸h.fresh _ j (Nat.le_refl _))
   constructor<;>intro e<;>simp only[Ctx.row]<;>rw[if_neg (bK _ e (by simp))]<;>exact e
 ·rw[←hz,World.cell?_alloc_new];exact hj
theorem SR.mut {c:Array Value}{ty:TypeId}{w1:World}{H':af}{b:Nat}{cs:List T}(h:SR w0 g H w)(tr:Tr w w1 gG iU)(hz:w1.heap.size=w.heap.size)
  (hb:H'[b]?=some (.cells cs)) (hn:g.φ b=none) (hH:∀b' x,b'≠b→H'[b']?=some x→H[b']?=some x∨x=.dead) (hl:H.length≤H'.length) (au:∀b' x,H[b']?=some x→(∀e,x≠.tok e)→g.φ b'=none→b'≠b→H'[b']?=some x)
  (hc:∀(i:Nat) (t:T),cs[i]?=some t→t.one=true∧∃v,c[i]?=some v∧VR g w t v) :
  Le g w ((g.row w.heap.size fun _=>.mut b).at b (w.heap.size,0,c.size)) (w1.alloc (.cells c ty))∧SR w0 ((g.row w.heap.size fun _=>.mut b).at b (w.heap.size,0,c.size)) H' (w1.alloc (.cells c ty)) ∧
  (∀b' x,H[b']?=some x→(∀e,x≠.tok e)→g.φ b'=none→b'≠b→H'[b']?=some x∧((g.row w.heap.size fun _=>.mut b).at b (w.heap.size,0,c.size)).φ b'=none):=by
 have wI:=tr.trans (Tr.alloc w1 (.cells c ty) (.inr ⟨_,_,rfl⟩))
 have bK:∀r j ow,g.κ r j=ow→ow≠.free→r≠w.heap.size:=by rintro r j ow e hn rfl;exact hn (e▸h.fresh _ j (Nat.le_refl _))
 have le:Le g w ((g.row w.heap.size fun _=>.mut b).at b (w.heap.size,0,c.size)) (w1.alloc (.cells c ty)):=Le.gZ wI
  (fun b' x hx=>by simp only[Ctx.at,Ctx.row];split;rename_i e;subst e;rw[hn]at hx;simp at hx;exact hx)
  (fun r o hk=>by simp only[Ctx.row,Ctx.at];rw[if_neg (bK r o _ hk (by simp))];exact hk) (fun _ _ _ h=>h) (fun _ _ hs=>hs.elim)
 refine⟨le,?_,fun b' x a a' d e=>⟨au b' x a a' d e,by simp only[Ctx.at,Ctx.row];rw[if_neg e];exact d⟩⟩
 refine h.step (fun b'=>b'=b) wI le (fun _ _ hs=>hs.elim) (fun _ hm=>hm.elim) (fun r o hr=>?_) (fun b' x hx=>?_) (fun t e x hx=>Nat.lt_of_lt_of_le (h.jj t e x hx) hl) (fun b' _ jt=>?_) (fun r j b' jt=>?_) (fun _ _ _ _=>rfl) (fun b' x hx=>?_)
 ·simp at hr
  simp only[Ctx.row,Ctx.at];rw[if_neg (by omega)];exact h.fresh r o (by omega)
 ·simp only[Ctx.at,Ctx.row]at hx
  split at hx
  ·rename_i e;subst e;exact(List.getElem?_eq_some_iff.1 hb).1
  ·exact Nat.lt_of_lt_of_le (h.sH b' x hx) hl
 ·simp only[Ctx.at,Ctx.row];rw[if_neg jt]
 ·constructor<;>intro e<;>simp only[Ctx.row,Ctx.at]<;>rw[if_neg (bK r j _ e (by simp))]<;>exact e
 ·by_cases e:b'=b
  ·subst e
   right
   rw[hb]at hx;cases hx
   intro r o q hq
   simp only[Ctx.at,if_true,Option.some.injEq,Prod.mk.injEq]at hq
   obtain⟨rfl,rfl,rfl⟩:=hq
   have uM:∀i,i<cs.length→i<c.size:=fun i hi=>by
    obtain⟨_,v,hv,_⟩:=hc i _ (List.getElem?_eq_getElem hi)
    exact(Array.getElem?_eq_some_iff.1 hv).1
   refine⟨?_,fun j _ hj=>⟨by simp[Ctx.row,Ctx.at],by rw[←hz];simp,by rw[←hz,World.cell?_alloc_new,Array.getElem?_eq_getElem hj];rfl⟩,fun i t hi=>?_⟩
   ·cases lR:cs.length with
    | zero=>omega
    | succ n=>have:=uM n (by omega);omega
   ·obtain⟨h1,v,h2,h3⟩:=hc i t hi
    exact⟨h1,v,by rw[←hz,World.cell?_alloc_new,Nat.zero_add];exact h2,h3.mono le⟩
  ·rcases hH b' x e hx with jk|rfl
   ·exact .inl ⟨e,jk⟩
   ·right;trivial
theorem fx (H:af)(x:B):(H++[x])[H.length]?=some x:=by simp
theorem cY {H:af}{x y:B}{b:Nat}(hb:b≠H.length)(h:(H++[x])[b]?=some y):H[b]?=some y:=by
 rw[List.getElem?_append]at h
 split at h
 ·exact h
 ·rename_i aw
  have:b-H.length≠0:=by omega
  cases hk:b-H.length with
  | zero=>omega
  | succ n=>simp[hk]at h
theorem iV {H:af}{x y:B}{b:Nat}(h:H[b]?=some y):(H++[x])[b]?=some y:=by
 rw[List.getElem?_append_left (List.getElem?_eq_some_iff.1 h).1];exact h
theorem SR.IU (h:SR w0 g H w){b:Nat}(hb:H.length≤b):g.φ b=none:=by
 cases e:g.φ b with
 | none=>rfl
 | some x=>have:=h.sH b x e;omega
theorem SR.W3 (h:SR w0 g H w){t e:Nat}(hb:H.length≤t):g.π t e=none:=by
 cases e':g.π t e with
 | none=>rfl
 | some x=>have:=h.jj t e x e';omega
theorem SR.gS {c:Array Value}{ty:TypeId}{w1:World}{cs:List T}(h:SR w0 g H w)(tr:Tr w w1 gG iU)(hz:w1.heap.size=w.heap.size)
  (hc:∀(i:Nat) (t:T),cs[i]?=some t→t.one=true∧∃v,c[i]?=some v∧VR g w t v) :
  ∃g',Le g w g' (w1.alloc (.cells c ty))∧SR w0 g' (H++[.cells cs]) (w1.alloc (.cells c ty))∧Fr g H g' (H++[.cells cs])∧g'.φ H.length=some (w.heap.size,0,c.size):=by
 obtain⟨le,sr,fr⟩:=h.mut (H':=H++[.cells cs]) (b:=H.length) (ty:=ty) tr hz (fx _ _) (h.IU (Nat.le_refl _)) (fun b' x e hx=>.inl (cY e hx)) (by simp) (fun b' x hx _ _ _=>iV hx) hc
 exact⟨_,le,sr,⟨by simp,fun b x a a' d=>fr b x a a' d (by have:=(List.getElem?_eq_some_iff.1 a).1;omega)⟩,by simp[Ctx.at]⟩
theorem bF.MX {cs:List T}{vs:List Value}(h:bF g w cs vs)(ho:cB cs):∀(i:Nat) (t:T),cs[i]?=some t→t.one=true∧∃v,vs.toArray[i]?=some v∧VR g w t v :=
 fun i t hi=>⟨ho t (List.mem_of_getElem? hi),h.fZ i t hi⟩
theorem BF {ty:TypeId}{i:TypeInfo}{zv:Value}{z:List T}(hi:P.info? ty=some i)(hz:i.zero=some zv)(hc:ff zv.cells.toList=some z)(h:SR w0 g H w) :
  b8 P w0 g H w (Instr.alloc ty true (.tuple #[])) (.ptr H.length 0) (H++[.cells z]):=by
 obtain⟨hv,ho⟩:=dL (g:=g) (w:=w) _ _ hc
 obtain⟨g',le,sr,fr,hφ⟩:=h.gS (c:=zv.cells) (ty:=ty) (w1:=w) (Tr.refl w) rfl (by simpa using hv.MX ho)
 refine⟨.pointer (some ⟨w.heap.size,0,none⟩),_,g',?_,le,sr,.ptr hφ,fr⟩
 simp[Instr.alloc,zeroValue,bu hi,hz,newVar,newRow]
theorem IV {ty:TypeId}{x:T}{cs:List T}{vx:Value}(h:SR w0 g H w)(hx:VR g w x vx)(hc:x.cells?=some cs) :
  b8 P w0 g H w (Instr.box ty vx) (.ptr H.length 0) (H++[.cells cs]):=by
 obtain⟨hv,ho⟩:=jB hx hc
 obtain⟨g',le,sr,fr,hφ⟩:=h.gS (c:=vx.cells) (ty:=ty) (w1:=w) (Tr.refl w) rfl (by simpa using hv.MX ho)
 refine⟨.pointer (some ⟨w.heap.size,0,none⟩),_,g',?_,le,sr,.ptr hφ,fr⟩
 simp[Instr.box,newVar,newRow]
theorem SR.Dy {b:Nat}{H':af}(h:SR w0 g H w)(hb:H'[b]?=some (.map []))(hn:g.φ b=none)(hH:∀b' x,b'≠b→H'[b']?=some x→H[b']?=some x)(hl:H.length≤H'.length) :
  Le g w ((g.row w.heap.size fun _=>.mut b).at b (w.heap.size,0,0)) (w.alloc (.map #[] 0))∧SR w0 ((g.row w.heap.size fun _=>.mut b).at b (w.heap.size,0,0)) H' (w.alloc (.map #[] 0)):=by
 have wI:=Tr.alloc w (.map #[] 0) (.inl rfl)
 have bK:∀r j ow,g.κ r j=ow→ow≠.free→r≠w.heap.size:=by rintro r j ow e hn rfl;exact hn (e▸h.fresh _ j (Nat.le_refl _))
 have le:Le g w ((g.row w.heap.size fun _=>.mut b).at b (w.heap.size,0,0)) (w.alloc (.map #[] 0)):=Le.gZ wI
  (fun b' x hx=>by simp only[Ctx.at,Ctx.row];split;rename_i e;subst e;rw[hn]at hx;simp at hx;exact hx)
  (fun r o hk=>by simp only[Ctx.row,Ctx.at];rw[if_neg (bK r o _ hk (by simp))];exact hk) (fun _ _ _ h=>h) (fun _ _ hs=>hs.elim)
 refine⟨le,?_⟩
 refine h.step (fun b'=>b'=b) wI le (fun _ _ hs=>hs.elim) (fun _ hm=>hm.elim) (fun r o hr=>?_) (fun b' x hx=>?_) (fun t e x hx=>Nat.lt_of_lt_of_le (h.jj t e x hx) hl) (fun b' _ jt=>?_) (fun r j b' jt=>?_) (fun _ _ _ _=>rfl) (fun b' x hx=>?_)
 ·simp at hr
  simp only[Ctx.row,Ctx.at];rw[if_neg (by omega)];exact h.fresh r o (by omega)
 ·simp only[Ctx.at,Ctx.row]at hx
  split at hx
  ·rename_i e;subst e;exact(List.getElem?_eq_some_iff.1 hb).1
  ·exact Nat.lt_of_lt_of_le (h.sH b' x hx) hl
 ·simp only[Ctx.at,Ctx.row];rw[if_neg jt]
 ·constructor<;>intro e<;>simp only[Ctx.row,Ctx.at]<;>rw[if_neg (bK r j _ e (by simp))]<;>exact e
 ·by_cases e:b'=b
  ·subst e
   right
   rw[hb]at hx;cases hx
   intro r o q hq
   simp only[Ctx.at,if_true,Option.some.injEq,Prod.mk.injEq]at hq
   obtain⟨rfl,rfl,rfl⟩:=hq
   exact⟨by simp[Ctx.row,Ctx.at],#[],0,by show(w.heap.push _)[w.heap.size]?=_;simp,⟨rfl,by simp⟩,by simp[fv]⟩
  ·exact .inl ⟨e,hH b' x e hx⟩
theorem IW {ty:TypeId}(h:SR w0 g H w):b8 P w0 g H w (Instr.makeMap ty none) (.map H.length) (H++[.map []]):=by
 obtain⟨le,sr⟩:=h.Dy (H':=H++[.map []]) (b:=H.length) (fx _ _) (h.IU (Nat.le_refl _)) (fun b' x e hx=>cY e hx) (by simp)
 refine⟨.map (some w.heap.size),_,_,?_,le,sr,.map (r:=w.heap.size) (o:=0) (q:=0) (by simp[Ctx.at]),by simp,fun b x a _ d=>⟨iV a,?_⟩⟩
 ·simp[Instr.makeMap]
 ·have:=(List.getElem?_eq_some_iff.1 a).1
  simp only[Ctx.at,Ctx.row];rw[if_neg (by omega)];exact d
end
section
variable {P:Program} {w0 w:World} {g:Ctx} {H:af}
theorem eE {H:af}{b b':Nat}{x y:B}(aw:b<H.length)(h:(H.set b x)[b']?=some y):(b'=b∧y=x)∨(b'≠b∧H[b']?=some y):=by
 rw[List.getElem?_set]at h
 split at h
 ·rename_i e;subst e;simp[aw]at h;exact .inl ⟨rfl,h.symm⟩
 ·rename_i e;exact .inr ⟨fun e'=>e e'.symm,h⟩
theorem fy {H:af}{b b':Nat}{x y:B}(h:H[b']?=some y)(bK:b'≠b):(H.set b x)[b']?=some y:=by
 rw[List.getElem?_set,if_neg (fun e=>bK e.symm)];exact h
theorem SR.store {b off r o q:Nat}{cs ts:List T}{vs:List Value}(h:SR w0 g H w)(hb:H[b]?=some (.cells cs))(hφ:g.φ b=some (r,o,q))(hle:off+ts.length≤cs.length)(hv:bF g w ts vs)(ho:cB ts) :
  Le g w g (w.setCells r (o+off) vs)∧SR w0 g (H.set b (.cells (cs.take off++ts++cs.drop (off+ts.length)))) (w.setCells r (o+off) vs):=by
 have kE:b<H.length:=(List.getElem?_eq_some_iff.1 hb).1
 obtain⟨h1,h2,h3⟩:=h.eg b _ hb r o q hφ
 have hl:=hv.1
 have hs:∀j,o+off≤j→j<o+off+vs.length→(w.cell? ⟨r,j,none⟩).isSome=true:=fun j a c=>(h2 j (by omega) (by omega)).2.2
 have tr:=Tr.setCells w r (o+off) vs hs
 have hS:∀r' j,wH r (o+off) vs.length r' j→g.κ r' j=.mut b:=by
  rintro r' j⟨rfl,a,c⟩;exact(h2 j (by omega) (by omega)).1
 have le:Le g w g (w.setCells r (o+off) vs):=Le.gZ tr (fun _ _ h=>h) (fun _ _ h=>h) (fun _ _ _ h=>h) (fun r' j ft e=>by rw[hS r' j ft]at e;cases e)
 refine⟨le,h.step (fun b'=>b'=b) tr le (fun r' j ft=>.inr (.inl ⟨b,hS r' j ft,rfl⟩)) (fun _ hm=>hm.elim) (fun r' j hr=>h.fresh r' j (by rwa[dM]at hr)) (fun b' x hx=>by rw[List.length_set];exact h.sH b' x hx)
  (fun t e x hx=>by rw[List.length_set];exact h.jj t e x hx) (fun _ _ _=>rfl) (fun _ _ _ _=>⟨id,id⟩) (fun _ _ _ _=>rfl) (fun b' x hx=>?_)⟩
 rcases eE kE hx with⟨rfl,rfl⟩|⟨bK,jk⟩
 ·right
  intro r' o' q' kM
  rw[hφ]at kM;cases kM
  have hlen:(cs.take off++ts++cs.drop (off+ts.length)).length=cs.length:=by simp;omega
  refine⟨by rw[hlen];exact h1,fun j a c=>⟨(h2 j a c).1,by rw[World.frozen?_setCells];exact(h2 j a c).2.1,tr.dQ r j ?_ (h2 j a c).2.2⟩,fun i t hi=>?_⟩
  ·obtain⟨x,hx⟩:=Option.isSome_iff_exists.1 (h2 j a c).2.2;exact jQ hx
  ·have jR:i<cs.length:=by rw[←hlen];exact(List.getElem?_eq_some_iff.1 hi).1
   by_cases iW:off≤i∧i<off+ts.length
   ·have ht:ts[i-off]?=some t:=by
     rw[List.append_assoc,List.getElem?_append_right (by simp;omega),List.getElem?_append_left (by simp;omega)]at hi
     rw[←hi];congr 1;simp;omega
    have aw:i-off<vs.length:=by omega
    refine⟨ho t (List.mem_of_getElem? ht),vs[i-off],?_,(hv.2 _ t _ ht (List.getElem?_eq_getElem aw)).mono le⟩
    have:=cK r vs (o+off) w hs (i-off) _ (List.getElem?_eq_getElem aw)
    rwa[show o+off+(i-off)=o+i by omega]at this
   ·have ht:cs[i]?=some t:=by
     by_cases aw:i<off
     ·rw[List.append_assoc,List.getElem?_append_left (by simp;omega),List.getElem?_take,if_pos aw]at hi;exact hi
     ·rw[List.getElem?_append_right (by simp;omega),List.getElem?_drop]at hi
      rw[←hi];congr 1;simp;omega
    obtain⟨a,v,MY,MZ⟩:=h3 i t ht
    refine⟨a,v,?_,MZ.mono le⟩
    rw[cG r vs (o+off) w r (o+i) (by omega)];exact MY
 ·exact .inl ⟨bK,jk⟩
theorem uN {ty:TypeId}{i:TypeInfo}{v:Value}{r o:Nat}(hi:P.info? ty=some i)(a9:v.cells.size=i.size)(hc:∀j,j<v.cells.toList.length→(w.cell? ⟨r,o+j,none⟩).isSome=true)
  (hf:∀j,j<v.cells.toList.length→w.frozen? ⟨r,o+j,none⟩=false) (h1:∀x∈v.cells.toList,x.oneCell'=true) :
  (storeVar ty ⟨r,o,none⟩ v).run P w=.ok () (w.setCells r o v.cells.toList):=by
 have:=run_storeCells_cells (P:=P) r o v.cells.toList 0 w (by simpa using hc) (by simpa using hf) h1
 simp[storeVar,sizeOf,bu hi,a9]
 simpa using this
theorem M0 {ty:TypeId}{i:TypeInfo}{p x:T}{vp vx:Value}{ts:List T}{H':af}(hi:P.info? ty=some i)(h:SR w0 g H w)(hp:VR g w p vp)(hx:VR g w x vx)(hc:x.cells?=some ts)(hn:ts.length=i.size)(he:QX H ts p=some H') :
  ∃w' g',(Instr.storeAt ty vp vx).run P w=.ok () w'∧Le g w g' w'∧SR w0 g' H' w'∧Fr g H g' H':=by
 obtain⟨hv,ho⟩:=jB hx hc
 cases hp<;>simp only[QX]at he<;>(try (simp at he;done))
 rename_i b off r o q hφ
 cases hb:H[b]? with
 | none=>simp[hb]at he
 | some y =>
  cases y<;>simp only[hb]at he<;>(try (simp at he;done))
  rename_i cs
  split at he
  ·rename_i hle
   simp only[Option.some.injEq]at he;subst he
   have kE:b<H.length:=(List.getElem?_eq_some_iff.1 hb).1
   obtain⟨h1,h2,h3⟩:=h.eg b _ hb r o q hφ
   obtain⟨le,sr⟩:=h.store hb hφ hle hv ho
   have hl:=hv.1
   refine⟨_,g,?_,le,sr,by simp,fun b' y' a _ d=>⟨fy a ?_,d⟩⟩
   ·have:=uN (P:=P) (w:=w) (ty:=ty) (r:=r) (o:=o+off) hi (v:=vx) (by rw[←hn,hl];simp) (fun j hj=>(h2 _ (by omega) (by omega)).2.2) (fun j hj=>(h2 _ (by omega) (by omega)).2.1) (hv.iR ho)
    simpa[Instr.storeAt,Instr.sureAddr]using this
   ·rintro rfl;rw[hφ]at d;cases d
  ·simp at he
def World.cf (w:World)(r:Nat)(o:Obj):World:={ w with heap:=w.heap.setIfInBounds r o }
theorem qK (w:World){r r':Nat}(o:Obj)(h:r'≠r):(World.cf w r o).heap[r']?=w.heap[r']?:=by
 unfold World.cf;simp only[Array.getElem?_setIfInBounds];rw[if_neg (fun e=>h e.symm)]
theorem qL (w:World){r:Nat}(o:Obj)(h:r<w.heap.size):(World.cf w r o).heap[r]?=some o:=by
 unfold World.cf;simp[h]
theorem wJ (w:World){r:Nat}{x x':Obj}(hs:fw x=true)(ft:fw x'=true)(h:w.heap[r]?=some x)(a:Addr):(World.cf w r x').cell? a=w.cell? a:=by
 have aw:r<w.heap.size:=(Array.getElem?_eq_some_iff.1 h).1
 unfold World.cell?
 by_cases e:a.block=r
 ·rw[e,qL w _ aw,h]
  cases x<;>simp[fw]at hs<;>cases x'<;>simp[fw]at ft<;>rfl
 ·rw[qK w _ e]
theorem qM (w:World){r:Nat}{x x':Obj}(hs:fw x=true)(ft:fw x'=true)(h:w.heap[r]?=some x)(a:Addr):(World.cf w r x').frozen? a=w.frozen? a:=by
 have aw:r<w.heap.size:=(Array.getElem?_eq_some_iff.1 h).1
 unfold World.frozen?
 by_cases e:a.block=r
 ·rw[e,qL w _ aw,h]
  cases x<;>simp[fw]at hs<;>cases x'<;>simp[fw]at ft<;>rfl
 ·rw[qK w _ e]
theorem Tr.yx (w:World)(r:Nat){x x':Obj}(hs:fw x=true)(ft:fw x'=true)(h:w.heap[r]?=some x):Tr w (World.cf w r x') gG (fun r'=>r'=r) where
 size:=by simp[World.cf]
 cell r' j _ _:=wJ w hs ft h _
 qa r' j _:=qM w hs ft h _
 dQ r' j _ hk:=by rw[wJ w hs ft h];exact hk
 maps r' x hm _ hk:=by rw[qK w _ hm];exact hk
 jP r' _ hm _:=qK w _ hm
 yq r' j hr:=by rw[qM w hs ft h];exact dz hr
 env:=⟨rfl,rfl⟩
theorem SR.uO {b r o q:Nat}{es Lw:List (T×T)}{aA qN:Array MapEntry}{c c':Nat}(h:SR w0 g H w)(hb:H[b]?=some (.map es))(hφ:g.φ b=some (r,o,q))(hr:w.heap[r]?=some (.map aA c))(hE:eo g w Lw qN)(hB:fv qN c') :
  Le g w g (World.cf w r (.map qN c'))∧SR w0 g (H.set b (.map Lw)) (World.cf w r (.map qN c'))∧Fr g H g (H.set b (.map Lw)):=by
 have kE:b<H.length:=(List.getElem?_eq_some_iff.1 hb).1
 obtain⟨h1,_⟩:=h.eg b _ hb r o q hφ
 have tr:=Tr.yx w r (x:=.map aA c) (x':=.map qN c') rfl rfl hr
 have le:Le g w g (World.cf w r (.map qN c')):=Le.gZ tr (fun _ _ h=>h) (fun _ _ h=>h) (fun _ _ _ h=>h) (fun _ _ hs=>hs.elim)
 refine⟨le,h.step (fun b'=>b'=b) tr le (fun _ _ hs=>hs.elim) (fun r' hm=>⟨b,by rw[hm];exact h1,rfl⟩) (fun r' j oJ=>h.fresh r' j (by simpa[World.cf]using oJ)) (fun b' x hx=>by rw[List.length_set];exact h.sH b' x hx)
  (fun t e x hx=>by rw[List.length_set];exact h.jj t e x hx) (fun _ _ _=>rfl) (fun _ _ _ _=>⟨id,id⟩) (fun _ _ _ _=>rfl) (fun b' x hx=>?_),by simp,fun b' x a _ d=>⟨fy a (by rintro rfl;rw[hφ]at d;cases d),d⟩⟩
 rcases eE kE hx with⟨rfl,rfl⟩|⟨bK,jk⟩
 ·right
  intro r' o' q' kM
  rw[hφ]at kM;cases kM
  refine⟨h1,qN,c',?_,hE.mono le,hB⟩
  have aw:r<w.heap.size:=(Array.getElem?_eq_some_iff.1 hr).1
  simp[World.cf,aw]
 ·exact .inl ⟨bK,jk⟩
theorem oT {n:Nat}{a b:T}{va vb:Value}(ha:VR g w a va)(hb:VR g w b vb)(he:ji a b=some true):Instr.sameBits n va vb=true:=by
 cases ha<;>cases hb<;>simp[ji]at he
 ·obtain⟨rfl,rfl⟩:=he;cases n<;>simp[Instr.sameBits]
 ·subst he;cases n<;>simp[Instr.sameBits]
 ·rename_i s1 s2
  have e:(s1==s2)=true:=by rw[beq_toListBytes];exact he
  cases n<;>exact e
theorem nL {n:Nat}:∀(as bs:List T) (xs ys:List Value),bF g w as xs→bF g w bs ys→cd as bs=some true→xs.length=ys.length∧(xs.zip ys).all (fun (x,y)=>Instr.sameBits n x y)=true
 | [],[],xs,ys,hx,hy,_=>by
  have a:=hx.1;have b:=hy.1
  simp at a b
  have e1:xs=[]:=List.eq_nil_of_length_eq_zero (by omega)
  have e2:ys=[]:=List.eq_nil_of_length_eq_zero (by omega)
  subst e1;subst e2;simp
 | a :: as,b :: bs,xs,ys,hx,hy,he=>by
  cases xs with
  | nil=>have:=hx.1;simp at this
  | cons x xs =>
   cases ys with
   | nil=>have:=hy.1;simp at this
   | cons y ys =>
    simp only[cd]at he
    cases e1:ji a b with
    | none=>simp[e1]at he
    | some r1 =>
     cases e2:cd as bs with
     | none=>simp[e1,e2]at he
     | some r2 =>
      simp[e1,e2]at he
      obtain⟨rfl,rfl⟩:=he
      obtain⟨h1,h2⟩:=nL as bs xs ys hx.tail hy.tail e2
      exact⟨by simp[h1],by simp[oT hx.head hy.head e1];simpa using h2⟩
 | [],_ :: _,_,_,_,_,he=>by simp[cd]at he
 | _ :: _,[],_,_,_,_,he=>by simp[cd]at he
theorem qO {a b:T}{va vb:Value}(ha:VR g w a va)(hb:VR g w b vb)(he:gW a b=some true):Instr.sameBits 10000 va vb=true:=by
 by_cases h:∃as bs,a=.agg as∧b=.agg bs
 ·obtain⟨as,bs,rfl,rfl⟩:=h
  obtain⟨xs,rfl,hx,_⟩:=ha.fY
  obtain⟨ys,rfl,hy,_⟩:=hb.fY
  obtain⟨h1,h2⟩:=nL (n:=9999) as bs xs ys hx hy he
  show Instr.sameBits (9999+1) _ _=true
  rw[Instr.sameBits]
  simp[h1]
  simpa using h2
 ·have:ji a b=some true:=by
   cases a<;>first|exact he|(cases b<;>first|exact he|exact absurd ⟨_,_,rfl,rfl⟩ h)
  exact oT ha hb this
theorem qP:∀(k:T) (es:List (T×T)) (i:Nat),dp k es=some (some i)→∃e,es[i]?=some e∧gW k e.1=some true
 | k,[],i,h=>by simp[dp]at h
 | k,e :: es,i,h=>by
  simp only[dp]at h
  cases hk:gW k e.1 with
  | none=>simp[hk]at h
  | some b =>
   cases b with
   | true=>simp[hk]at h;subst h;exact⟨e,rfl,hk⟩
   | false =>
    simp only[hk,Option.map_eq_some_iff]at h
    obtain⟨r,h1,h2⟩:=h
    cases r with
    | none=>simp at h2
    | some j =>
     simp at h2;subst h2
     obtain⟨e',h3,h4⟩:=qP k es j h1
     exact⟨e',by simpa using h3,h4⟩
theorem eo.set {es:List (T×T)}{aA:Array MapEntry}(h:eo g w es aA){k v:T}{vk vv:Value}(hk:VR g w k vk)(hv:VR g w v vv)(i:Nat) :
  eo g w (es.set i (k,v)) (aA.modify i fun e=>{ e with key:=vk,val:=vv }):=by
 refine⟨by simp[h.1],fun j e m a b=>?_⟩
 rw[List.getElem?_set]at a
 rw[Array.getElem?_modify]at b
 split at a
 ·rename_i e'
  rw[if_pos e']at b
  subst e'
  split at a
  ·simp at a b
   obtain⟨m',_,rfl⟩:=b
   subst a
   exact⟨hk,hv⟩
  ·cases a
 ·rename_i e'
  rw[if_neg e']at b
  exact h.2 j e m a b
theorem eo.push {es:List (T×T)}{aA:Array MapEntry}(h:eo g w es aA){k v:T}{vk vv:Value}(hk:VR g w k vk)(hv:VR g w v vv)(c:Nat) :
  eo g w (es++[(k,v)]) (aA.push { key:=vk,val:=vv,born:=c }):=by
 refine⟨by simp[h.1],fun j e m a b=>?_⟩
 rw[Array.getElem?_push,h.1]at b
 rw[List.getElem?_append]at a
 split at b
 ·rename_i e'
  subst e'
  simp at a b
  subst a;subst b
  exact⟨hk,hv⟩
 ·rename_i e'
  split at a
  ·exact h.2 j e m a b
  ·have:j<aA.size:=(Array.getElem?_eq_some_iff.1 b).1
   rw[h.1]at this;omega
theorem eo.erase {es:List (T×T)}{aA:Array MapEntry}(h:eo g w es aA)(i:Nat)(hi:i<es.length):eo g w (es.eraseIdx i) (aA.eraseIdxIfInBounds i):=by
 have a9:i<aA.size:=by rw[h.1];exact hi
 have e1:(aA.eraseIdxIfInBounds i).toList=aA.toList.eraseIdx i:=by simp[Array.eraseIdxIfInBounds,a9]
 refine⟨by rw[←Array.length_toList,e1,List.length_eraseIdx,List.length_eraseIdx,if_pos hi,Array.length_toList,if_pos a9,h.1],fun j e m a b=>?_⟩
 have b':(aA.toList.eraseIdx i)[j]?=some m:=by rw[←e1,Array.getElem?_toList];exact b
 rw[List.getElem?_eraseIdx]at a b'
 split at a
 ·rename_i aw;rw[if_pos aw]at b';exact h.2 j e m a (by simpa using b')
 ·rename_i aw;rw[if_neg aw]at b';exact h.2 _ e m a (by simpa using b')
theorem fv.set {aA:Array MapEntry}{c:Nat}(h:fv aA c)(k v:Value)(i:Nat):fv (aA.modify i fun e=>{ e with key:=k,val:=v }) c:=by
 have e:(aA.modify i fun e=>{ e with key:=k,val:=v }).toList.map (·.born)=aA.toList.map (·.born):=by
  apply List.ext_getElem?
  intro j
  simp only[List.getElem?_map,Array.getElem?_toList,Array.getElem?_modify]
  split
  ·cases aA[j]?<;>rfl
  ·rfl
 refine⟨fun m hm=>?_,by rw[e];exact h.2⟩
 have:=List.mem_map_of_mem (f:=fun m:MapEntry=>m.born) hm
 rw[e]at this
 obtain⟨m',h1,h2⟩:=List.mem_map.1 this
 rw[←h2];exact h.1 m' h1
theorem fv.push {aA:Array MapEntry}{c:Nat}(h:fv aA c)(k v:Value):fv (aA.push { key:=k,val:=v,born:=c }) (c+1):=by
 refine⟨fun m hm=>?_,?_⟩
 ·rw[Array.toList_push,List.mem_append]at hm
  rcases hm with hm|hm
  ·exact Nat.lt_succ_of_lt (h.1 m hm)
  ·simp at hm;subst hm;exact Nat.lt_succ_self _
 ·rw[Array.toList_push,List.map_append,List.nodup_append]
  refine⟨h.2,by simp,fun a ha b hb=>?_⟩
  simp at hb
  subst hb
  obtain⟨m,hm,rfl⟩:=List.mem_map.1 ha
  exact Nat.ne_of_lt (h.1 m hm)
theorem fv.erase {aA:Array MapEntry}{c:Nat}(h:fv aA c)(i:Nat):fv (aA.eraseIdxIfInBounds i) c:=by
 by_cases a9:i<aA.size
 ·have e1:(aA.eraseIdxIfInBounds i).toList=aA.toList.eraseIdx i:=by simp[Array.eraseIdxIfInBounds,a9]
  exact⟨fun m hm=>h.1 m (by rw[e1]at hm;exact(List.eraseIdx_sublist _ _).subset hm),by rw[e1];exact h.2.sublist ((List.eraseIdx_sublist _ _).map _)⟩
 ·have e1:aA.eraseIdxIfInBounds i=aA:=by simp[Array.eraseIdxIfInBounds,a9]
  rw[e1];exact h
theorem IX {ty key elem:TypeId}{kt:KT}{b:Nat}{k v:T}{vm vk vv:Value}{es:List (T×T)}{r:Option Nat}(hu:P.underlying ty=some (.map key elem))(jT:mX P key kt=true)
  (h:SR w0 g H w) (hm:VR g w (.map b) vm) (hk:VR g w k vk) (hv:VR g w v vv) (yw:k.jh kt=true) (hb:H[b]?=some (.map es)) (hr:dp k es=some r) :
  ∃w' g',(Instr.mapUpdate ty vm vk vv).run P w=.ok () w'∧Le g w g' w'∧SR w0 g' (H.set b (.map (match r with|some i=>es.set i (k,v)|none=>es++[(k,v)]))) w'∧Fr g H g' (H.set b (.map (match r with|some i=>es.set i (k,v)|none=>es++[(k,v)]))):=by
 cases hm with
 | @map _ rr o q hφ =>
  obtain⟨h1,aA,c,h2,hE,hB⟩:=h.eg b _ hb rr o q hφ
  have hf:=uL jT hk yw es aA.toList (by simpa using hE.1) (fun i e m a b=>hE.2 i e m a (by simpa using b)) hr
  have hc:=kX (P:=P) (w:=w) (e:=false) jT hk yw
  cases r with
  | none =>
   obtain⟨le,sr,fr⟩:=h.uO (c':=c+1) hb hφ h2 (hE.push hk hv c) (hB.push _ _)
   refine⟨_,g,?_,le,sr,fr⟩
   simp at hf
   simp[Instr.mapUpdate,run_underlying hu,getObj,setObj,Sem.run,h2,hc,hf,World.cf]
  | some i =>
   obtain⟨e,he,zN⟩:=qP k es i hr
   have aw:i<aA.size:=by rw[hE.1];exact(List.getElem?_eq_some_iff.1 he).1
   have qJ:aA[i]?=some aA[i]:=Array.getElem?_eq_getElem aw
   have bL:=(hE.2 i e _ he qJ).1
   have VU:=qO hk bL zN
   have W5:Instr.sameBits 10000 aA[i].key vk=true:=by
    have:gW e.1 k=some true∨True:=.inr trivial
    by_cases h':∃as bs,k=.agg as∧e.1=.agg bs
    ·obtain⟨as,bs,rfl,e2⟩:=h'
     have W6:∀(as bs:List T),cd as bs=some true→cd bs as=some true:=by
      intro as
      induction as with
      | nil=>intro bs HP;cases bs<;>simp[cd]at HP ⊢
      | cons a as ih =>
       intro bs HP
       cases bs with
       | nil=>simp[cd]at HP
       | cons b bs =>
        simp only[cd]at HP ⊢
        cases e1:ji a b with
        | none=>simp[e1]at HP
        | some r1 =>
         cases e2:cd as bs with
         | none=>simp[e1,e2]at HP
         | some r2 =>
          simp[e1,e2]at HP
          obtain⟨rfl,rfl⟩:=HP
          have:ji b a=some true:=by
           cases a<;>cases b<;>simp[ji,jx]at e1 ⊢
           ·exact⟨e1.1.symm,e1.2.symm⟩
           ·exact e1.symm
           ·exact e1.symm
          simp[this,ih bs e2]
     rw[e2]at bL zN
     exact qO bL hk (W6 _ _ zN)
    ·have e1:ji k e.1=some true:=by
      generalize e.1=d at *
      cases k<;>first|exact zN|(cases d<;>first|exact zN|exact absurd ⟨_,_,rfl,rfl⟩ h')
     have e2:ji e.1 k=some true:=by
      generalize e.1=d at *
      cases k<;>cases d<;>simp[ji,jx]at e1 ⊢
      ·exact⟨e1.1.symm,e1.2.symm⟩
      ·exact e1.symm
      ·exact e1.symm
     exact oT bL hk e2
   obtain⟨le,sr,fr⟩:=h.uO (c':=c) hb hφ h2 (hE.set hk hv i) (hB.set _ _ i)
   refine⟨_,g,?_,le,sr,fr⟩
   have hx:((some i:Option Nat).bind fun i=>(aA.toList[i]?).map fun m=>(i,m.val))=some (i,aA[i].val):=by simp[aw]
   rw[hx]at hf
   have Qn:(Instr.keyThatStays aA[i].key vk).run P w=.ok vk w:=by simp[Instr.keyThatStays,W5]
   simp[Instr.mapUpdate,run_underlying hu,getObj,setObj,Sem.run,h2,hc,hf,aw,Qn,World.cf]
theorem IY {ty key elem xt rt:TypeId}{kt:KT}{b:Nat}{k:T}{vm vk:Value}{es:List (T×T)}{r:Option Nat}(hu:P.underlying ty=some (.map key elem))(jT:mX P key kt=true)
  (h:SR w0 g H w) (hm:VR g w (.map b) vm) (hk:VR g w k vk) (yw:k.jh kt=true) (hb:H[b]?=some (.map es)) (hr:dp k es=some r) :
  b8 P w0 g H w (Builtin.delete_ #[ty,xt] rt #[vm,vk]) (.bJ []) (match r with|some i=>H.set b (.map (es.eraseIdx i))|none=>H):=by
 cases hm with
 | @map _ rr o q hφ =>
  obtain⟨h1,aA,c,h2,hE,hB⟩:=h.eg b _ hb rr o q hφ
  have hf:=uL jT hk yw es aA.toList (by simpa using hE.1) (fun i e m a b=>hE.2 i e m a (by simpa using b)) hr
  have hc:=kX (P:=P) (w:=w) (e:=aA.isEmpty) jT hk yw
  cases r with
  | none =>
   obtain⟨le,sr,fr⟩:=h.uO (c':=c) hb hφ h2 hE hB
   have hH:H.set b (.map es)=H:=by
    apply List.ext_getElem?
    intro j
    rw[List.getElem?_set]
    split
    ·rename_i e;subst e;rw[if_pos (List.getElem?_eq_some_iff.1 hb).1,hb]
    ·rfl
   rw[hH]at sr fr
   refine⟨.tuple #[],_,g,?_,le,sr,.bJ rfl (by simp),fr⟩
   simp at hf
   simp[Builtin.delete_,run_underlying hu,getObj,setObj,Sem.run,h2,hc,hf,World.cf]
  | some i =>
   obtain⟨e,he,zN⟩:=qP k es i hr
   have VV:i<es.length:=(List.getElem?_eq_some_iff.1 he).1
   have aw:i<aA.size:=by rw[hE.1];exact VV
   obtain⟨le,sr,fr⟩:=h.uO (c':=c) hb hφ h2 (hE.erase i VV) (hB.erase i)
   refine⟨.tuple #[],_,g,?_,le,sr,.bJ rfl (by simp),fr⟩
   have hx:((some i:Option Nat).bind fun i=>(aA.toList[i]?).map fun m=>(i,m.val))=some (i,aA[i].val):=by simp[aw]
   rw[hx]at hf
   simp[Builtin.delete_,run_underlying hu,getObj,setObj,Sem.run,h2,hc,hf,World.cf]
end
section
variable {P:Program} {w0 w:World} {g:Ctx} {H:af}
theorem kY {n:Nat}:∀(es:List (List T)),(∀c∈es,c.length=n)→∀(i j:Nat) (c:List T) (t:T),es[i]?=some c→c[j]?=some t→es.flatten[i*n+j]?=some t
 | [],_,i,j,c,t,h,_=>by simp at h
 | d :: es,hn,i,j,c,t,h,hj=>by
  have hd:=hn d (by simp)
  cases i with
  | zero =>
   simp at h;subst h
   have aw:j<d.length:=(List.getElem?_eq_some_iff.1 hj).1
   simp only[List.flatten_cons,Nat.zero_mul,Nat.zero_add]
   rw[List.getElem?_append_left aw];exact hj
  | succ i =>
   have ih:=kY es (fun c hc=>hn c (by simp[hc])) i j c t (by simpa using h) hj
   simp only[List.flatten_cons]
   rw[List.getElem?_append_right (by rw[hd,Nat.succ_mul];omega)]
   rw[show(i+1)*n+j-d.length=i*n+j by rw[hd,Nat.succ_mul];omega];exact ih
theorem gm {n:Nat}(es:List (List T))(hn:∀c∈es,c.length=n):es.flatten.length=es.length*n:=by
 induction es with
 | nil=>simp
 | cons d es ih=>simp only[List.flatten_cons,List.length_append,List.length_cons,Nat.succ_mul,hn d (by simp),ih (fun c hc=>hn c (by simp[hc]))];omega
theorem VR.uP {k:SK}{es:List (List T)}{r o cap n:Nat}{vs:List Value}(hn:∀c∈es,c.length=n)(hv:bF g w es.flatten vs)(ho:cB es.flatten)(hc:es.length≤cap)(hk:iD g k r o es.length cap n)
  (hi:∀(j:Nat) (v:Value),vs[j]?=some v→Bt g w r (o+j) v):VR g w (.sl k es) (.slice (some ⟨r,o,none⟩) es.length cap):=by
 have key:∀(i j:Nat) (c:List T) (t:T),es[i]?=some c→c[j]?=some t→es.flatten[i*n+j]?=some t∧vs[i*n+j]?=some (vs.getD (i*n+j) undef):=by
  intro i j c t a b
  have h1:=kY es hn i j c t a b
  have aw:i*n+j<vs.length:=by rw[←hv.1];exact(List.getElem?_eq_some_iff.1 h1).1
  exact⟨h1,by rw[List.getElem?_eq_getElem aw,List.getD_eq_getElem?_getD,List.getElem?_eq_getElem aw,Option.getD_some]⟩
 refine .sl (n:=n) (fun i j=>vs.getD (i*n+j) undef) hk hc hn (fun i j c t a b=>?_) (fun i j c t a b=>?_)
 ·obtain⟨h1,h2⟩:=key i j c t a b
  exact⟨ho t (List.mem_of_getElem? h1),by rw[Nat.add_assoc];exact hi _ _ h2⟩
 ·obtain⟨h1,h2⟩:=key i j c t a b
  exact hv.2 _ t _ h1 h2
theorem nN (es:List (List T)):(es.map (·.map T.erase)).flatten=es.flatten.map T.erase:=by
 induction es with
 | nil=>rfl
 | cons c es ih=>simp only[List.map_cons,List.flatten_cons,List.map_append,ih]
theorem bF.erase {ts:List T}{vs:List Value}(h:bF g w ts vs):bF g w (ts.map T.erase) vs :=
 ⟨by simp[h.1],fun i t v a b=>by
  rw[List.getElem?_map]at a
  obtain⟨t',h1,rfl⟩:=Option.map_eq_some_iff.1 a
  exact(h.2 i t' v h1 b).erase⟩
theorem qQ {ts:List T}(h:cB ts):cB (ts.map T.erase):=by
 intro t ht
 obtain⟨t',h1,rfl⟩:=List.mem_map.1 ht
 rw[Bu];exact h t' h1
theorem M3 {n:Nat}{y:T}{vy:Value}{new:List (List T)}(h:SR w0 g H w)(hy:VR g w y vy)(he:bA H n y=some new) :
  ∃vs:List Value,(Builtin.lenOf vy).run P w=.ok new.length w∧(Builtin.firstCells n new.length vy).run P w=.ok vs.toArray w∧bF g w new.flatten vs∧cB new.flatten∧(∀c∈new,c.length=n)∧vs.length=new.length*n:=by
 by_cases hs:∃s,y=.str s
 ·obtain⟨s,rfl⟩:=hs
  cases hy
  simp only[bA]at he
  split at he
  ·rename_i hn
   subst hn
   simp at he
   have hlen:new.length=s.size:=by rw[←he,List.length_map];exact Array.length_toList
   have qk:new.flatten=s.data.toList.map fun c=>T.int .u8 c.toNat:=by
    rw[←he]
    generalize s.data.toList=l
    induction l with
    | nil=>rfl
    | cons c l ih=>simp only[List.map_cons,List.flatten_cons,ih];rfl
   have hex:s.extract 0 s.size=s:=by simp
   refine⟨s.data.toList.map fun c=>.int .u8 c.toNat,by simp[Builtin.lenOf,hlen],?_,?_,?_,?_,?_⟩
   ·rw[hlen]
    simp only[Builtin.firstCells,hex,Sem.run_pure]
    congr 1
    apply Array.ext';simp
   ·rw[qk]
    refine⟨by simp,fun i t v a b=>?_⟩
    rw[List.getElem?_map]at a b
    obtain⟨c,h1,rfl⟩:=Option.map_eq_some_iff.1 a
    rw[h1]at b;simp at b;subst b
    exact .int _ _
   ·rw[qk];intro t ht
    obtain⟨c,_,rfl⟩:=List.mem_map.1 ht;rfl
   ·rw[←he];intro c hc
    obtain⟨_,_,rfl⟩:=List.mem_map.1 hc;rfl
   ·rw[hlen,List.length_map,Nat.mul_one];exact Array.length_toList
  ·simp at he
 ·obtain⟨a,cap,vs,rfl,_,h1,h2,h3,h4,h5,h6⟩:=nG h hy he (fun s e=>hs ⟨s,e⟩)
  refine⟨vs,by simp[Builtin.lenOf],?_,h3,h5,h6,h4⟩
  cases a with
  | none =>
   have:=(h1 rfl).1
   subst this
   simp at h4
   simp[Builtin.firstCells,h4]
  | some a =>
   obtain⟨_,h7⟩:=h2 a rfl
   have:=run_loadCells_list (P:=P) w a vs h7
   rw[h4]at this
   simpa[Builtin.firstCells]using this
theorem zO (jN:Nat):∀(k c:Nat),c≤jN+(jN+768)/4→Builtin.growBy jN k c≤jN+(jN+768)/4
 | 0,c,h=>h
 | k+1,c,h=>by
  rw[Builtin.growBy]
  split
  ·exact h
  ·exact zO jN k _ (by omega)
theorem IZ {jN cap:Nat}(h:cap<jN):Builtin.nextslicecap jN cap≤jN+jN/4+512:=by
 unfold Builtin.nextslicecap
 split
 ·omega
 ·split
  ·omega
  ·have:=zO jN 4 cap (by omega)
   omega
theorem zP {jN cap bytes:Nat}(h:cap<jN)(hr:cU jN bytes=true):¬Builtin.nextslicecap jN cap*bytes>2^48:=by
 have h1:=Nat.mul_le_mul_right bytes (IZ h)
 simp only[cU,decide_eq_true_eq]at hr
 omega
structure oU (P:Program)(sT xT elem:TypeId)(ei:TypeInfo)(zv:Value)(n bytes:Nat):Prop where
 hu:P.underlying sT=some (.slice elem)
 hi:P.info? elem=some ei
 hx:∃d,P.underlying xT=some d∧∀k,d≠.int k
 hn:ei.size=n
 hz:ei.zero=some zv
 I0:zv.cells.size=n
 hb:ei.bytes=bytes
 M4:bytes≠0
theorem mJ {sT xT elem rt:TypeId}{ei:TypeInfo}{zv x:Value}{n bytes r o len cap m:Nat}{vs:List Value}(E:oU P sT xT elem ei zv n bytes)(hl:(Builtin.lenOf x).run P w=.ok m w)(hf:(Builtin.firstCells n m x).run P w=.ok vs.toArray w)
  (kZ:len+m≤cap) (hs:(storeCells ⟨r,o+len*n,none⟩ vs).run P w=.ok () (w.setCells r (o+len*n) vs)) :
  (Builtin.append_ #[sT,xT] rt #[.slice (some ⟨r,o,none⟩) len cap,x]).run P w=.ok (.slice (some ⟨r,o,none⟩) (len+m) cap) (w.setCells r (o+len*n) vs):=by
 obtain⟨d,h1,h2⟩:=E.hx
 have hz:(match d with | .int _=>true|_=>false)=false:=by cases d<;>first|rfl|exact absurd rfl (h2 _)
 simp[Builtin.append_,run_underlying E.hu,run_underlying h1,hz,sizeOf,bu E.hi,E.hn,hl,hf,kZ,dr,hs]
theorem lf {sT xT elem rt:TypeId}{ei:TypeInfo}{zv x:Value}{n bytes:Nat}{base:Option Addr}{len cap:Nat}(E:oU P sT xT elem ei zv n bytes)(hl:(Builtin.lenOf x).run P w=.ok 0 w)(hf:(Builtin.firstCells n 0 x).run P w=.ok #[] w)(kZ:len≤cap) :
  (Builtin.append_ #[sT,xT] rt #[.slice base len cap,x]).run P w=.ok (.slice base len cap) w:=by
 obtain⟨d,h1,h2⟩:=E.hx
 have hz:(match d with | .int _=>true|_=>false)=false:=by cases d<;>first|rfl|exact absurd rfl (h2 _)
 cases base<;>simp[Builtin.append_,run_underlying E.hu,run_underlying h1,hz,sizeOf,bu E.hi,E.hn,hl,hf,kZ,storeCells]
theorem lg (zc:Array Value)(n:Nat):(Builtin.zeroCells zc n).size=n*zc.size:=by simp[Builtin.zeroCells]
theorem hG {sT xT elem rt:TypeId}{ei:TypeInfo}{zv x:Value}{n bytes:Nat}{base:Option Addr}{len cap m:Nat}{jP vs:List Value}(E:oU P sT xT elem ei zv n bytes)(hl:(Builtin.lenOf x).run P w=.ok m w)(hf:∀w':World,w'.heap=w.heap→(Builtin.firstCells n m x).run P w'=.ok vs.toArray w')
  (ho:∀w':World,w'.heap=w.heap→(Builtin.firstCells n len (.slice base len cap)).run P w'=.ok jP.toArray w') (yz:cap<len+m) (hr:cU (len+m) bytes=true) :
  ∃(eJ:Nat) (rest:List Value),len+m≤eJ∧rest.length=(eJ-(len+m))*n ∧
   (Builtin.append_ #[sT,xT] rt #[.slice base len cap,x]).run P w=.ok (.slice (some ⟨w.heap.size,0,none⟩) (len+m) eJ) (w.drew.alloc (.cells (jP++vs++rest).toArray elem)):=by
 obtain⟨d,h1,h2⟩:=E.hx
 have hz:(match d with | .int _=>true|_=>false)=false:=by cases d<;>first|rfl|exact absurd rfl (h2 _)
 have hJ:=zP yz hr
 have kZ:¬len+m≤cap:=by omega
 let eJ:=Question.cut (.appendCap (len+m) cap elem) (w.tape w.drawn (.appendCap (len+m) cap elem))
 have nH:len+m≤eJ:=by simp only[eJ,Question.cut];omega
 refine⟨eJ,(Builtin.zeroCells zv.cells (eJ-(len+m))).toList,nH,?_,?_⟩
 ·rw[Array.length_toList,lg,E.I0]
 ·have ql:=hf w.drew rfl
  have mY:=ho w.drew rfl
  have M4:ei.bytes≠0:=by rw[E.hb];exact E.M4
  simp only[gt_iff_lt,Nat.not_lt]at hJ
  have Dz:Builtin.nextslicecap (len+m) cap*ei.bytes≤2^48:=by rw[E.hb];exact hJ
  simp only[Builtin.append_,List.getElem?_toArray,List.getElem?_cons_zero,List.getElem?_cons_succ,Sem.run_bind,run_underlying E.hu,run_underlying h1,Result.andThen_ok,sizeOf,bu E.hi,E.hn,hl,Sem.run_pure,kZ,if_false]
  cases d<;>first
   | exact absurd rfl (h2 _)
   | (simp[hl,kZ,bu E.hi,M4,Dz,Nat.not_lt.2 Dz,run_choose,Question.forced,mY,ql,zeroValue,E.hz,newRow,eJ];congr 2;apply Array.ext';simp)
theorem SR.Q7 {t e r p q m:Nat}{vs:List Value}(h:SR w0 g H w)(ht:H[t]?=some (.tok e))(hp:g.π t e=some (r,p,q))(hm:0<m)(kZ:p+vs.length≤q) :
  let g':=((g.row r fun j=>if p≤j∧j<p+vs.length then .mA else g.κ r j).tok t (e+m) (r,p+vs.length,q))
  Le g w g' (w.setCells r p vs)∧SR w0 g' (H.set t (.tok (e+m))) (w.setCells r p vs)∧Fr g H g' (H.set t (.tok (e+m)))∧∀(i:Nat) (v:Value),vs[i]?=some v→Bt g' (w.setCells r p vs) r (p+i) v:=by
 intro g'
 have Q8:t<H.length:=(List.getElem?_eq_some_iff.1 ht).1
 obtain⟨r1,p1,q1,e1,h2,h3,h4⟩:=h.eg t _ ht
 rw[hp]at e1;cases e1
 have hs:∀j,p≤j→j<p+vs.length→(w.cell? ⟨r,j,none⟩).isSome=true:=fun j a c=>(h3 j a (by omega)).2.2
 have tr:=Tr.setCells w r p vs hs
 have hS:∀r' j,wH r p vs.length r' j→g.κ r' j=.spare t:=by
  rintro r' j⟨rfl,a,c⟩;exact(h3 j a (by omega)).1
 have hκ:∀r' j,g'.κ r' j=if r'=r∧p≤j∧j<p+vs.length then .mA else g.κ r' j:=by
  intro r' j
  simp only[g',Ctx.tok,Ctx.row]
  by_cases e:r'=r
  ·subst e;simp
  ·simp[e]
 have hπ:∀t' e',g'.π t' e'=if t'=t∧e'=e+m then some (r,p+vs.length,q)else g.π t' e':=fun t' e'=>rfl
 have le:Le g w g' (w.setCells r p vs):=Le.gZ tr (fun _ _ h=>h) (fun r' o hk=>by rw[hκ];split;rfl;exact hk)
  (fun t' e' x hx=>by rw[hπ];split;rename_i c;obtain⟨rfl,rfl⟩:=c;rw[h4 _ (by omega)]at hx;cases hx;exact hx)
  (fun r' j ft e=>by rw[hS r' j ft]at e;cases e)
 have mA:∀(i:Nat) (v:Value),vs[i]?=some v→Bt g' (w.setCells r p vs) r (p+i) v:=fun i v hi=>by
  have aw:i<vs.length:=(List.getElem?_eq_some_iff.1 hi).1
  exact⟨by rw[hκ];simp;omega,cK r vs p w hs i v hi⟩
 refine⟨le,h.step (fun b'=>b'=t) tr le (fun r' j ft=>.inr (.inr ⟨t,hS r' j ft,rfl⟩)) (fun _ hm=>hm.elim) (fun r' j hr=>?_) (fun b' x hx=>by rw[List.length_set];exact h.sH b' x hx)
  (fun t' e' x hx=>?_) (fun _ _ _=>rfl) (fun r' j b' jt=>?_) (fun t' e' _ jt=>?_) (fun b' x hx=>?_),⟨by simp,fun b' x a c d=>⟨fy a (by rintro rfl;rw[ht]at a;cases a;exact absurd rfl (c e)),d⟩⟩,mA⟩
 ·rw[dM]at hr
  rw[hκ];split
  ·rename_i c;obtain⟨rfl,a,c⟩:=c
   have:=h.fresh r' j hr
   rw[(h3 j a (by omega)).1]at this;cases this
  ·exact h.fresh r' j hr
 ·rw[List.length_set]
  rw[hπ]at hx
  split at hx
  ·rename_i c;rw[c.1];exact Q8
  ·exact h.jj t' e' x hx
 ·constructor<;>intro e'<;>rw[hκ]<;>split
  ·rename_i c;obtain⟨rfl,a,c⟩:=c;rw[(h3 j a (by omega)).1]at e';cases e'
  ·exact e'
  ·rename_i c;obtain⟨rfl,a,c⟩:=c;rw[(h3 j a (by omega)).1]at e';cases e';exact absurd rfl jt
  ·exact e'
 ·rw[hπ,if_neg (fun c=>jt c.1)]
 ·rcases eE Q8 hx with⟨rfl,rfl⟩|⟨bK,jk⟩
  ·right
   refine⟨r,p+vs.length,q,by rw[hπ];simp,kZ,fun j a c=>⟨?_,?_,?_⟩,fun e' he=>by rw[hπ,if_neg (by omega)];exact h4 e' (by omega)⟩
   ·rw[hκ,if_neg (by omega)];exact(h3 j (by omega) c).1
   ·rw[World.frozen?_setCells];exact(h3 j (by omega) c).2.1
   ·rw[cG r vs p w r j (by omega)];exact(h3 j (by omega) c).2.2
  ·exact .inl ⟨bK,jk⟩
theorem SR.DA {c:Array Value}{ty:TypeId}{w1:World}{H':af}{t e k:Nat}(h:SR w0 g H w)(tr:Tr w w1 gG iU)(hz:w1.heap.size=w.heap.size)(ht:H'[t]?=some (.tok e))(hk:k≤c.size)
  (iJ:∀e',e≤e'→g.π t e'=none) (hH:∀b' x,b'≠t→H'[b']?=some x→H[b']?=some x) (hl:H.length≤H'.length) (au:∀(b':Nat) (x:B),H[b']?=some x→(∀e:Nat,x≠.tok e)→H'[b']?=some x) :
  let g':=((g.row w.heap.size fun j=>if j<k then .mA else .spare t).tok t e (w.heap.size,k,c.size))
  Le g w g' (w1.alloc (.cells c ty))∧SR w0 g' H' (w1.alloc (.cells c ty))∧Fr g H g' H'∧(∀(j:Nat) (v:Value),j<k→c[j]?=some v→Bt g' (w1.alloc (.cells c ty)) w.heap.size j v)∧g'.π t e=some (w.heap.size,k,c.size):=by
 intro g'
 have wI:=tr.trans (Tr.alloc w1 (.cells c ty) (.inr ⟨_,_,rfl⟩))
 have bK:∀r j ow,g.κ r j=ow→ow≠.free→r≠w.heap.size:=by rintro r j ow e hn rfl;exact hn (e▸h.fresh _ j (Nat.le_refl _))
 have hπ:∀t' e',g'.π t' e'=if t'=t∧e'=e then some (w.heap.size,k,c.size)else g.π t' e':=fun t' e'=>rfl
 have hκ:∀r j,g'.κ r j=if r=w.heap.size then(if j<k then .mA else .spare t)else g.κ r j:=fun r j=>rfl
 have le:Le g w g' (w1.alloc (.cells c ty)):=Le.gZ wI (fun _ _ h=>h) (fun r o hk=>by rw[hκ,if_neg (bK r o _ hk (by simp))];exact hk)
  (fun t' e' x hx=>by rw[hπ];split;rename_i c;obtain⟨rfl,rfl⟩:=c;rw[iJ _ (Nat.le_refl _)]at hx;cases hx;exact hx) (fun _ _ hs=>hs.elim)
 refine⟨le,?_,⟨hl,fun b' x a c d=>⟨au b' x a c,d⟩⟩,fun j v hj hv=>⟨by rw[hκ];simp[hj],by rw[←hz,World.cell?_alloc_new];exact hv⟩,by rw[hπ];simp⟩
 refine h.step (fun b'=>b'=t) wI le (fun _ _ hs=>hs.elim) (fun _ hm=>hm.elim) (fun r o hr=>?_) (fun b' x hx=>Nat.lt_of_lt_of_le (h.sH b' x hx) hl) (fun t' e' x hx=>?_) (fun _ _ _=>rfl) (fun r j b' jt=>?_) (fun t' e' _ jt=>?_) (fun b' x hx=>?_)
 ·simp at hr
  rw[hκ,if_neg (by omega)];exact h.fresh r o (by omega)
 ·rw[hπ]at hx
  split at hx
  ·rename_i c;rw[c.1];exact(List.getElem?_eq_some_iff.1 ht).1
  ·exact Nat.lt_of_lt_of_le (h.jj t' e' x hx) hl
 ·constructor<;>intro e'<;>rw[hκ,if_neg (bK r j _ e' (by simp))]<;>exact e'
 ·rw[hπ,if_neg (fun c=>jt c.1)]
 ·by_cases e':b'=t
  ·subst e'
   right
   rw[ht]at hx;cases hx
   refine⟨w.heap.size,k,c.size,by rw[hπ];simp,hk,fun j a b=>⟨by rw[hκ];simp;omega,by rw[←hz];simp,by rw[←hz,World.cell?_alloc_new,Array.getElem?_eq_getElem b];rfl⟩,fun I1 he=>by rw[hπ,if_neg (by omega)];exact iJ I1 (by omega)⟩
  ·exact .inl ⟨e',hH b' x e' hx⟩
theorem qn (w:World):Tr w w.drew gG iU:=Tr.drew w
theorem oV {w w':World}(h:w'.heap=w.heap)(a:Addr):w'.cell? a=w.cell? a:=by unfold World.cell?;rw[h]
theorem zQ {n:Nat}{y:T}{vy:Value}{new:List (List T)}(h:SR w0 g H w)(hy:VR g w y vy)(he:bA H n y=some new) :
  ∃vs:List Value,(Builtin.lenOf vy).run P w=.ok new.length w∧(∀w':World,w'.heap=w.heap→(Builtin.firstCells n new.length vy).run P w'=.ok vs.toArray w')∧bF g w new.flatten vs∧cB new.flatten∧(∀c∈new,c.length=n)∧vs.length=new.length*n:=by
 obtain⟨vs,h1,h2,h3,h4,h5,h6⟩:=M3 (P:=P) h hy he
 refine⟨vs,h1,fun w' BG=>?_,h3,h4,h5,h6⟩
 by_cases hs:∃s,y=.str s
 ·obtain⟨s,rfl⟩:=hs
  cases hy
  simp only[Builtin.firstCells,Sem.run_pure,Result.ok.injEq,and_true]at h2 ⊢
  exact h2
 ·obtain⟨a,cap,Qi,rfl,_,k1,k2,k3,k4,k5,k6⟩:=nG h hy he (fun s e=>hs ⟨s,e⟩)
  cases a with
  | none =>
   simp only[Builtin.firstCells,Sem.run_pure,Result.ok.injEq,and_true]at h2 ⊢
   exact h2
  | some a =>
   obtain⟨_,h7⟩:=k2 a rfl
   have a1:=run_loadCells_list (P:=P) w a Qi h7
   have a2:=run_loadCells_list (P:=P) w' a Qi (fun j v hj=>by rw[oV BG];exact h7 j v hj)
   rw[k4]at a1 a2
   simp only[Builtin.firstCells]at h2 ⊢
   rw[a1]at h2
   rw[a2]
   simp at h2
   rw[h2]
theorem I2 {sT xT elem rt:TypeId}{ei:TypeInfo}{zv:Value}{n bytes:Nat}{k:SK}{es new:List (List T)}{y t:T}{vx vy:Value}{H':af}(E:oU P sT xT elem ei zv n bytes)
  (h:SR w0 g H w) (hx:VR g w (.sl k es) vx) (hy:VR g w y vy) (cJ:es.all (·.length==n)=true) (sI:bA H n y=some new) (he:gX H bytes k es new=some (t,H')) :
  b8 P w0 g H w (Builtin.append_ #[sT,xT] rt #[vx,vy]) t H':=by
 obtain⟨vs,s1,s2,s3,s4,s5,s6⟩:=zQ (P:=P) h hy sI
 obtain⟨a,cap,jP,rfl,nH,x1,x2,x3,x4,x5,x6⟩:=nG (n:=n) (es:=es) h hx (by simp only[bA,cJ,if_true]) (fun s e=>by cases e)
 have nH:es.length≤cap:=nH
 cases iJ:new with
 | nil =>
  subst iJ
  simp only[gX,Option.some.injEq,Prod.mk.injEq]at he
  obtain⟨rfl,rfl⟩:=he
  have iI:vs=[]:=by simpa using s6
  subst iI
  exact b8.same h (lf E s1 (s2 w rfl) nH) hx
 | cons c0 W7 =>
  have hlen:0<new.length:=by rw[iJ];simp
  rw[iJ]at he
  simp only[gX]at he
  rw[←iJ]at he
  split at he
  ·rename_i hJ
   have Lv:∀c∈es++new.map (·.map T.erase),c.length=n:=by
    intro c hc
    rcases List.mem_append.1 hc with hc|hc
    ·exact x6 c hc
    ·obtain⟨c',h1,rfl⟩:=List.mem_map.1 hc
     rw[List.length_map];exact s5 c' h1
   have qk:(es++new.map (·.map T.erase)).flatten=es.flatten++new.flatten.map T.erase:=by rw[List.flatten_append,nN]
   have qR:(es++new.map (·.map T.erase)).length=es.length+new.length:=by simp
   have ho:cB (es++new.map (·.map T.erase)).flatten:=by
    rw[qk];intro t ht
    rcases List.mem_append.1 ht with ht|ht
    ·exact x5 t ht
    ·exact qQ s4 t ht
   have nw:(jP++vs).length=(es.length+new.length)*n:=by rw[List.length_append,x4,s6,Nat.add_mul]
   have grow:∀(t' e':Nat) (Hn:af),cap<es.length+new.length→Hn[t']?=some (.tok e')→(∀I1,e'≤I1→g.π t' I1=none)→(∀b' x,b'≠t'→Hn[b']?=some x→H[b']?=some x)→H.length≤Hn.length →
     (∀(b':Nat) (x:B),H[b']?=some x→(∀e:Nat,x≠.tok e)→Hn[b']?=some x)→b8 P w0 g H w (Builtin.append_ #[sT,xT] rt #[.slice a es.length cap,vy]) (.sl (.own t' e') (es++new.map (·.map T.erase))) Hn:=by
    intro t' e' Hn yz k1 k2 k3 k4 k5
    have Qj:∀w':World,w'.heap=w.heap→(Builtin.firstCells n es.length (.slice a es.length cap)).run P w'=.ok jP.toArray w':=by
     intro w' BG
     cases a with
     | none =>
      have:=(x1 rfl).1
      subst this
      have:jP=[]:=by simpa using x4
      subst this
      simp[Builtin.firstCells]
     | some a =>
      obtain⟨_,h7⟩:=x2 a rfl
      have:=run_loadCells_list (P:=P) w' a jP (fun j v hj=>by rw[oV BG];exact h7 j v hj)
      rw[x4]at this
      simpa[Builtin.firstCells]using this
    obtain⟨eJ,rest,jl,oK,cy⟩:=hG (rt:=rt) (w:=w) E s1 s2 Qj yz hJ
    have a9:(jP++vs++rest).toArray.size=eJ*n:=by
     simp only[List.size_toArray]
     rw[List.length_append,nw,oK,←Nat.add_mul];congr 1;omega
    obtain⟨le,sr,fr,mA,hp⟩:=h.DA (c:=(jP++vs++rest).toArray) (ty:=elem) (k:=(es.length+new.length)*n) (qn w) rfl k1 (by rw[a9];exact Nat.mul_le_mul_right _ jl) k2 k3 k4 k5
    refine⟨_,_,_,cy,le,sr,?_,fr⟩
    have hv:bF g w (es++new.map (·.map T.erase)).flatten (jP++vs):=by rw[qk];exact bF.append x3 s3.erase
    have:=VR.uP (k:=.own t' e') (r:=w.heap.size) (o:=0) (cap:=eJ) Lv (hv.mono le) ho (by rw[qR];exact jl) ⟨by rw[hp,qR,a9];simp,by rw[qR];omega⟩ (fun j v hj=>?_)
    ·rw[qR]at this;exact this
    ·have aw:j<(jP++vs).length:=(List.getElem?_eq_some_iff.1 hj).1
     rw[Nat.zero_add]
     refine mA j v (by omega) ?_
     rw[List.getElem?_toArray,List.getElem?_append_left aw];exact hj
   cases k with
   | nil =>
    simp only[Option.some.injEq,Prod.mk.injEq]at he
    obtain⟨rfl,rfl⟩:=he
    have mV:cap<es.length+new.length:=by
     cases hx with
     | slnil=>simpa using hlen
     | sl cV hk=>exact hk.elim
    exact grow H.length _ _ mV (fx _ _) (fun I1 _=>h.W3 (Nat.le_refl _)) (fun b' x e hx=>cY e hx) (by simp) (fun b' x hx _=>iV hx)
   | full =>
    simp only[Option.some.injEq,Prod.mk.injEq]at he
    obtain⟨rfl,rfl⟩:=he
    have mV:cap<es.length+new.length:=by
     cases hx with
     | sl cV hk=>simp only[iD]at hk;omega
    exact grow H.length _ _ mV (fx _ _) (fun I1 _=>h.W3 (Nat.le_refl _)) (fun b' x e hx=>cY e hx) (by simp) (fun b' x hx _=>iV hx)
   | arg=>cases he
   | own t0 e0 =>
    cases ht:H[t0]? with
    | none=>simp[ht]at he
    | some bt =>
     cases bt with
     | tok e1 =>
      simp only[ht]at he
      split at he
      ·rename_i hee
       subst hee
       simp only[Option.some.injEq,Prod.mk.injEq]at he
       obtain⟨rfl,rfl⟩:=he
       have Q8:t0<H.length:=(List.getElem?_eq_some_iff.1 ht).1
       obtain⟨r1,p1,q1,lT,Q9,zL,gH⟩:=h.eg t0 _ ht
       by_cases kZ:es.length+new.length≤cap
       ·-- in place
        cases hx with
        | @sl _ _ r o _ n' cV hk hc hn h3 h4 =>
         simp only[iD]at hk
         obtain⟨oW,zR⟩:=hk
         have uJ:n'=n:=by
          cases es with
          | nil=>simp at zR
          | cons c es=>rw[←hn c (by simp),x6 c (by simp)]
         subst uJ
         rw[lT]at oW
         simp only[Option.some.injEq,Prod.mk.injEq]at oW
         obtain⟨rfl,rfl,rfl⟩:=oW
         have M5:o+es.length*n'+vs.length≤o+cap*n':=by
          rw[s6,Nat.add_assoc,←Nat.add_mul]
          exact Nat.add_le_add_left (Nat.mul_le_mul_right _ kZ) _
         obtain⟨le,sr,fr,mA⟩:=h.Q7 (m:=new.length) (vs:=vs) ht lT hlen M5
         have dD:=run_storeCells_cells (P:=P) r1 (o+es.length*n') vs 0 w (fun j hj=>by simpa using (zL (o+es.length*n'+j) (by omega) (by omega)).2.2) (fun j hj=>by simpa using (zL (o+es.length*n'+j) (by omega) (by omega)).2.1) (s3.iR s4)
         rw[Nat.add_zero]at dD
         have cy:=mJ (rt:=rt) (cap:=cap) E s1 (s2 w rfl) kZ dD
         refine⟨_,_,_,cy,le,sr,?_,fr⟩
         have hv:bF g w (es++new.map (·.map T.erase)).flatten (jP++vs):=by rw[qk];exact bF.append x3 s3.erase
         have Re:∀(j:Nat) (v:Value),jP[j]?=some v→Bt g w r1 (o+j) v:=by
          intro j v hj
          have aw:j<es.length*n':=by rw[←x4];exact(List.getElem?_eq_some_iff.1 hj).1
          obtain⟨_,h7⟩:=x2 _ rfl
          have lh:=h7 j v hj
          rw[dr]at lh
          have Rf:0<n':=by
           rcases Nat.eq_zero_or_pos n' with e|e
           ·subst e;simp at aw
           ·exact e
          have hi:j/n'<es.length:=Nat.div_lt_of_lt_mul (by rw[Nat.mul_comm];exact aw)
          have e1:es[j/n']?=some es[j/n']:=List.getElem?_eq_getElem hi
          have hm:j%n'<(es[j/n']).length:=by rw[x6 _ (List.getElem_mem hi)];exact Nat.mod_lt _ Rf
          have:=(h3 (j/n') (j%n') _ _ e1 (List.getElem?_eq_getElem hm)).2
          have ee:o+j/n'*n'+j%n'=o+j:=by rw[Nat.add_assoc,Nat.mul_comm,Nat.div_add_mod]
          rw[ee]at this
          exact⟨this.1,lh⟩
         have:=VR.uP (k:=.own t0 (e0+new.length)) (r:=r1) (o:=o) (cap:=cap) Lv (hv.mono le) ho (by rw[qR];exact kZ) ⟨by rw[qR];simp[Ctx.tok,s6,Nat.add_mul,Nat.add_assoc],by rw[qR];omega⟩ (fun j v hj=>?_)
         ·rw[qR]at this;exact this
         ·rw[List.getElem?_append]at hj
          split at hj
          ·exact(Re j v hj).mono le
          ·rename_i eu
           have:=mA _ v hj
           rw[x4]at this eu
           rwa[show o+es.length*n'+(j-es.length*n')=o+j by omega]at this
       ·exact grow t0 (e0+new.length) _ (by omega) (by simp[Q8]) (fun I1 he=>gH I1 (by omega)) (fun b' x bK hx=>by
          rcases eE Q8 hx with⟨e,_⟩|⟨_,jk⟩
          ·exact absurd e bK
          ·exact jk) (by simp) (fun b' x W8 bK=>fy W8 (by rintro rfl;rw[ht]at W8;cases W8;exact absurd rfl (bK e0)))
      ·cases he
     | cells _=>simp[ht]at he
     | map _=>simp[ht]at he
     | _=>simp[ht]at he
  ·cases he
end
section
variable {P:Program} {w0 w:World} {g:Ctx} {H:af}
theorem SR.Rg {b r o q:Nat}{cs ts:List T}{vs:List Value}(h:SR w0 g H w)(hb:H[b]?=some (.cells cs))(hφ:g.φ b=some (r,o,q))(hv:bF g w ts vs)(ho:cB ts)(kZ:o+cs.length+ts.length≤q) :
  let g':=((g.row r fun j=>if o≤j∧j<q then .mut H.length else g.κ r j).at H.length (r,o,q))
  Le g w g' (w.setCells r (o+cs.length) vs)∧SR w0 g' (H.set b .dead++[.cells (cs++ts)]) (w.setCells r (o+cs.length) vs)∧Fr g H g' (H.set b .dead++[.cells (cs++ts)]):=by
 intro g'
 have kE:b<H.length:=(List.getElem?_eq_some_iff.1 hb).1
 obtain⟨h1,h2,h3⟩:=h.eg b _ hb r o q hφ
 have hl:=hv.1
 have hs:∀j,o+cs.length≤j→j<o+cs.length+vs.length→(w.cell? ⟨r,j,none⟩).isSome=true:=fun j a c=>(h2 j (by omega) (by omega)).2.2
 have tr:=Tr.setCells w r (o+cs.length) vs hs
 have hS:∀r' j,wH r (o+cs.length) vs.length r' j→g.κ r' j=.mut b:=by
  rintro r' j⟨rfl,a,c⟩;exact(h2 j (by omega) (by omega)).1
 have hκ:∀r' j,g'.κ r' j=if r'=r∧o≤j∧j<q then .mut H.length else g.κ r' j:=by
  intro r' j
  simp only[g',Ctx.at,Ctx.row]
  by_cases e:r'=r
  ·subst e;simp
  ·simp[e]
 have kM:∀b',g'.φ b'=if b'=H.length then some (r,o,q)else g.φ b':=fun b'=>rfl
 have le:Le g w g' (w.setCells r (o+cs.length) vs):=Le.gZ tr
  (fun b' x hx=>by rw[kM];split;rename_i e;rw[e,h.IU (Nat.le_refl _)]at hx;cases hx;exact hx)
  (fun r' j hk=>by rw[hκ];split;rename_i c;obtain⟨rfl,a,c⟩:=c;rw[(h2 j a c).1]at hk;cases hk;exact hk) (fun _ _ _ h=>h) (fun r' j ft e=>by rw[hS r' j ft]at e;cases e)
 refine⟨le,h.step (fun b'=>b'=b∨b'=H.length) tr le (fun r' j ft=>.inr (.inl ⟨b,hS r' j ft,.inl rfl⟩)) (fun _ hm=>hm.elim) (fun r' j hr=>?_) (fun b' x hx=>?_) (fun t e x hx=>?_) (fun b' jt hn=>?_) (fun r' j b' hn=>?_) (fun _ _ _ _=>rfl) (fun b' x hx=>?_),?_,fun b' x a c d=>?_⟩
 ·rw[dM]at hr
  rw[hκ];split
  ·rename_i c;obtain⟨rfl,a,c⟩:=c
   have:=h.fresh r' j hr
   rw[(h2 j a c).1]at this;cases this
  ·exact h.fresh r' j hr
 ·rw[kM]at hx
  simp only[List.length_append,List.length_set,List.length_singleton]
  split at hx
  ·omega
  ·have:=h.sH b' x hx;omega
 ·simp only[List.length_append,List.length_set,List.length_singleton]
  have:=h.jj t e x hx;omega
 ·rw[kM,if_neg (by omega)]
 ·constructor<;>intro e<;>rw[hκ]<;>split
  ·rename_i c;obtain⟨rfl,a,c⟩:=c;rw[(h2 j a c).1]at e;cases e;exact absurd (.inl rfl) hn
  ·exact e
  ·rename_i c;obtain⟨rfl,a,c⟩:=c;rw[(h2 j a c).1]at e;cases e
  ·exact e
 ·by_cases e:b'=H.length
  ·right
   subst e
   have jk:x=.cells (cs++ts):=by
    have:(H.set b B.dead++[.cells (cs++ts)])[H.length]?=some (.cells (cs++ts)):=by
     rw[List.getElem?_append_right (by simp)];simp
    rw[this]at hx;cases hx;rfl
   subst jk
   intro r' o' q' hq
   rw[kM,if_pos rfl]at hq
   simp only[Option.some.injEq,Prod.mk.injEq]at hq
   obtain⟨rfl,rfl,rfl⟩:=hq
   refine⟨by rw[List.length_append];omega,fun j a c=>⟨by rw[hκ];simp[a,c],by rw[World.frozen?_setCells];exact(h2 j a c).2.1,tr.dQ r j ?_ (h2 j a c).2.2⟩,fun i t hi=>?_⟩
   ·obtain⟨x,hx⟩:=Option.isSome_iff_exists.1 (h2 j a c).2.2;exact jQ hx
   ·rw[List.getElem?_append]at hi
    split at hi
    ·rename_i aw
     obtain⟨a,v,MY,MZ⟩:=h3 i t hi
     exact⟨a,v,by rw[cG r vs _ w r (o+i) (by omega)];exact MY,MZ.mono le⟩
    ·rename_i eu
     have aw:i-cs.length<vs.length:=by rw[←hl];exact(List.getElem?_eq_some_iff.1 hi).1
     refine⟨ho t (List.mem_of_getElem? hi),_,?_,(hv.2 _ t _ hi (List.getElem?_eq_getElem aw)).mono le⟩
     have:=cK r vs (o+cs.length) w hs (i-cs.length) _ (List.getElem?_eq_getElem aw)
     rwa[show o+cs.length+(i-cs.length)=o+i by omega]at this
  ·have gz:(H.set b B.dead)[b']?=some x:=cY (by simpa using e) hx
   rcases eE kE gz with⟨rfl,rfl⟩|⟨bK,jk⟩
   ·right;trivial
   ·exact .inl ⟨by rintro (h|h);exact bK h;exact e h,jk⟩
 ·simp
 ·have aw:b'<H.length:=(List.getElem?_eq_some_iff.1 a).1
  have bK:b'≠b:=by rintro rfl;rw[hφ]at d;cases d
  exact⟨iV (fy a bK),by rw[kM,if_neg (by omega)];exact d⟩
theorem DB {x:T}{vx:Value}(hx:VR g w x vx)(hk:Db x=true):∃(a:Option Addr) (l c:Nat),vx=.slice a l c∧l≤c:=by
 cases hx with
 | slnil=>exact⟨_,_,_,rfl,Nat.le_refl _⟩
 | iQ=>exact⟨_,_,_,rfl,Nat.le_refl _⟩
 | sl cV kW hc hn h1 h2=>exact⟨_,_,_,rfl,hc⟩
 | ax h hc hq=>exact⟨_,_,_,rfl,hc⟩
 | _=>simp[Db]at hk
theorem DC {sT xT elem rt:TypeId}{ei:TypeInfo}{zv:Value}{n bytes:Nat}{x y t:T}{new:List (List T)}{vx vy:Value}{H':af}(E:oU P sT xT elem ei zv n bytes)
  (h:SR w0 g H w) (hx:VR g w x vx) (hy:VR g w y vy) (sI:bA H n y=some new) (he:jA H n bytes x new=some (t,H')) :
  b8 P w0 g H w (Builtin.append_ #[sT,xT] rt #[vx,vy]) t H':=by
 obtain⟨vs,s1,s2,s3,s4,s5,s6⟩:=zQ (P:=P) h hy sI
 have nw:=gm new s5
 cases iJ:new with
 | nil =>
  subst iJ
  simp only[jA]at he
  split at he
  case isFalse=>cases he
  rename_i hk
  simp only[Option.some.injEq,Prod.mk.injEq]at he
  obtain⟨rfl,rfl⟩:=he
  have iI:vs=[]:=by simpa using s6
  subst iI
  have:∃a l c,vx=.slice a l c∧l≤c:=DB hx hk
  obtain⟨a,l,c,rfl,M6⟩:=this
  exact b8.same h (lf E s1 (s2 w rfl) M6) hx
 | cons c0 W7 =>
  have hlen:0<new.length:=by rw[iJ];simp
  rw[iJ]at he
  simp only[jA]at he
  rw[←iJ]at he
  have empty:∀(a:Option Addr),vx=.slice a 0 0→cU (0+new.length) bytes=true→t=.ax H.length 0 new.length n→H'=H++[.cells new.flatten]→b8 P w0 g H w (Builtin.append_ #[sT,xT] rt #[vx,vy]) t H':=by
   rintro a rfl hJ rfl rfl
   have Rh:∀w':World,w'.heap=w.heap→(Builtin.firstCells n 0 (.slice a 0 0)).run P w'=.ok ([]:List Value).toArray w':=by
    intro w' _
    cases a with
    | none=>simp[Builtin.firstCells]
    | some a=>simpa[Builtin.firstCells]using run_loadCells_list (P:=P) w' a [] (by simp)
   obtain⟨eJ,rest,jl,oK,cy⟩:=hG (rt:=rt) (w:=w) E s1 s2 Rh (by omega) hJ
   have a9:(([]:List Value)++vs++rest).toArray.size=eJ*n:=by
    simp only[List.size_toArray,List.nil_append]
    rw[List.length_append,s6,oK,←Nat.add_mul];congr 1;omega
   have lh:∀(i:Nat) (t:T),new.flatten[i]?=some t→t.one=true∧∃v,(([]:List Value)++vs++rest).toArray[i]?=some v∧VR g w t v:=by
    intro i t hi
    obtain⟨v,h1,h2⟩:=s3.fZ i t hi
    refine⟨s4 t (List.mem_of_getElem? hi),v,?_,h2⟩
    simp only[List.nil_append,List.getElem?_toArray]at h1 ⊢
    rw[List.getElem?_append_left (List.getElem?_eq_some_iff.1 h1).1];exact h1
   obtain⟨g',le,sr,fr,hφ⟩:=h.gS (c:=([]++vs++rest).toArray) (ty:=elem) (cs:=new.flatten) (qn w) rfl lh
   refine⟨_,_,g',cy,le,sr,?_,fr⟩
   rw[Nat.zero_add]at jl ⊢
   exact .ax (r:=w.heap.size) (o:=0) (off:=0) hφ jl (by rw[a9];simp)
  cases x with
  | sl k es =>
   cases k with
   | nil =>
    simp only at he
    split at he
    ·rename_i hc
     obtain⟨hJ,rfl⟩:=hc
     simp only[Option.some.injEq,Prod.mk.injEq]at he
     cases hx with
     | slnil=>exact empty none rfl (by simpa using hJ) he.1.symm he.2.symm
     | sl cV hk=>exact hk.elim
    ·cases he
   | full =>
    simp only at he
    split at he
    ·rename_i hc
     obtain⟨hJ,rfl⟩:=hc
     simp only[Option.some.injEq,Prod.mk.injEq]at he
     cases hx with
     | sl cV hk =>
      simp only[iD,List.length_nil]at hk
      subst hk
      exact empty _ rfl (by simpa using hJ) he.1.symm he.2.symm
    ·cases he
   | arg=>cases he
   | own _ _=>cases he
  | ax b off len n' =>
   simp only at he
   cases hb:H[b]? with
   | none=>simp[hb]at he
   | some z =>
    cases z with
    | cells cs =>
     simp only[hb]at he
     split at he
     ·rename_i hc
      obtain⟨rfl,rfl,uM,hJ⟩:=hc
      simp only[Option.some.injEq,Prod.mk.injEq]at he
      obtain⟨rfl,rfl⟩:=he
      cases hx with
      | @ax _ _ _ _ r o q cap hφ nH hq =>
       obtain⟨h1,h2,h3⟩:=h.eg b _ hb r o q hφ
       have kE:b<H.length:=(List.getElem?_eq_some_iff.1 hb).1
       by_cases kZ:len+new.length≤cap
       ·have Ri:o+cs.length+new.flatten.length≤q:=by
         rw[nw,←uM,←hq,Nat.add_assoc,←Nat.add_mul]
         have:=Nat.mul_le_mul_right n' kZ
         omega
        obtain⟨le,sr,fr⟩:=h.Rg hb hφ s3 s4 Ri
        have iI:vs.length=new.flatten.length:=by rw[s6,nw]
        have dD:=run_storeCells_cells (P:=P) r (o+0+len*n') vs 0 w (fun j hj=>by simpa using (h2 (o+len*n'+j) (by omega) (by omega)).2.2) (fun j hj=>by simpa using (h2 (o+len*n'+j) (by omega) (by omega)).2.1) (s3.iR s4)
        rw[Nat.add_zero]at dD
        have cy:=mJ (rt:=rt) (cap:=cap) E s1 (s2 w rfl) kZ dD
        rw[uM]at cy
        refine⟨_,_,_,cy,le,sr,?_,fr⟩
        exact .ax (off:=0) (r:=r) (o:=o) (q:=q) (by simp[Ctx.at]) kZ (by rw[←hq])
       ·have hp:nC H (len*n') (.ptr b 0)=some cs:=by simp[nC,hb,uM]
        obtain⟨r',o',jP,e1,e2,e3,e4,e5⟩:=oP h (.ptr hφ) hp
        cases e1
        have Qj:∀w':World,w'.heap=w.heap→(Builtin.firstCells n' len (.slice (some ⟨r,o+0,none⟩) len cap)).run P w'=.ok jP.toArray w':=by
         intro w' BG
         have:=run_loadCells_list (P:=P) w' ⟨r,o+0,none⟩ jP (fun j v hj=>by rw[oV BG,dr];exact e3 j v hj)
         rw[e2]at this
         simpa[Builtin.firstCells]using this
        obtain⟨eJ,rest,jl,oK,cy⟩:=hG (rt:=rt) (w:=w) E s1 s2 Qj (by omega) hJ
        have a9:(jP++vs++rest).toArray.size=eJ*n':=by
         simp only[List.size_toArray]
         rw[List.length_append,List.length_append,e2,s6,oK,←Nat.add_mul,←Nat.add_mul];congr 1;omega
        have DD:bF g w (cs++new.flatten) (jP++vs):=bF.append e4 s3
        obtain⟨le,sr,fr⟩:=h.mut (c:=(jP++vs++rest).toArray) (ty:=elem) (H':=H.set b .dead++[.cells (cs++new.flatten)]) (b:=H.length) (cs:=cs++new.flatten) (qn w) rfl
         (by rw[List.getElem?_append_right (by simp)];simp) (h.IU (Nat.le_refl _))
         (fun b' x bK hx=>by
          have gz:(H.set b B.dead)[b']?=some x:=cY (by simpa using bK) hx
          rcases eE kE gz with⟨_,rfl⟩|⟨_,jk⟩
          ·exact .inr rfl
          ·exact .inl jk) (by simp)
         (fun b' x a _ d _=>iV (fy a (by rintro rfl;rw[hφ]at d;cases d)))
         (fun i t hi=>by
          obtain⟨v,k1,k2⟩:=DD.fZ i t hi
          refine⟨?_,v,?_,k2⟩
          ·rcases List.mem_append.1 (List.mem_of_getElem? hi)with hm|hm
           ·exact e5 t hm
           ·exact s4 t hm
          ·simp only[List.getElem?_toArray]at k1 ⊢
           rw[List.getElem?_append_left (List.getElem?_eq_some_iff.1 k1).1];exact k1)
        refine⟨_,_,_,cy,le,sr,.ax (r:=w.heap.size) (o:=0) (off:=0) (q:=(jP++vs++rest).toArray.size) (by simp[Ctx.at]) jl (by rw[a9];simp),by simp,fun b' x a c d=>fr b' x a c d (by have:=(List.getElem?_eq_some_iff.1 a).1;omega)⟩
     ·cases he
    | map _=>simp[hb]at he
    | tok _=>simp[hb]at he
    | _=>simp[hb]at he
  | _=>simp at he
theorem tg:∀(vs:List Value) (k off:Nat) (cells:Array Value),off+k+vs.length≤cells.size →
  ((vs.zipIdx k).foldl (fun (cs:Array Value) (x:Value×Nat)=>cs.setIfInBounds (off+x.2) x.1) cells).toList=cells.toList.take (off+k)++vs++cells.toList.drop (off+k+vs.length)
 | [],k,off,cells,_=>by simp
 | v :: vs,k,off,cells,h=>by
  simp only[List.length_cons]at h
  rw[List.zipIdx_cons,List.foldl_cons,tg vs (k+1) off _ (by simp;omega)]
  simp only[Array.toList_setIfInBounds,List.length_cons]
  have aw:off+k<cells.toList.length:=by simp;omega
  rw[show off+(k+1)=off+k+1 by omega,List.take_add_one]
  rw[show off+k+1+vs.length=off+k+(vs.length+1) by omega]
  rw[List.take_set_of_le (Nat.le_refl _),List.getElem?_set_self aw,List.drop_set_of_lt (by omega)]
  simp
theorem oX {off size:Nat}{v:Value}{cells:Array Value}(hs:v.cells.size=size)(hle:off+size≤cells.size) :
  (v.cells.zipIdx.foldl (fun (cs:Array Value) (x:Value×Nat)=>cs.setIfInBounds (off+x.2) x.1) cells).toList=cells.toList.take off++v.cells.toList++cells.toList.drop (off+size):=by
 have:=tg v.cells.toList 0 off cells (by simp[hs];omega)
 rw[←Array.foldl_toList,Array.toList_zipIdx]
 simpa[hs]using this
def placesOf (P:Program):List Field→List (Nat×Nat)
 | []=>[]
 | f :: fs=>(f.offset,P.cellsOf f.type) :: placesOf P fs
theorem run_places {fs:List Field}(hi:∀f∈fs,∃i,P.info? f.type=some i):(fs.mapM fun f=>do pure (f.offset,←sizeOf f.type):Sem (List (Nat×Nat))).run P w=.ok (placesOf P fs) w:=by
 induction fs with
 | nil=>simp[placesOf]
 | cons f fs ih =>
  obtain⟨i,hf⟩:=hi f (by simp)
  have ih:=ih (fun f' h'=>hi f' (by simp[h']))
  have h0:(sizeOf f.type).run P w=.ok i.size w:=by simp[sizeOf,bu hf]
  rw[List.mapM_cons]
  simp only[Sem.run_bind,h0,Result.andThen_ok,Sem.run_pure,ih]
  simp[placesOf,Program.cellsOf,hf]
inductive PV (g:Ctx)(w:World)(R:av):List (Nat×X)→List (Nat×Value)→Prop
 | nil:PV g w R [] []
 | cons {i:Nat} {x:X} {v:Value} {ps:List (Nat×X)} {pv:List (Nat×Value)} (h:VR g w (x.ev R) v) (hs:PV g w R ps pv):PV g w R ((i,x) :: ps) ((i,v) :: pv)
theorem I3 {R:av}{place:Nat→Option (Nat×Nat)}{ps:List (Nat×X)}{pv:List (Nat×Value)}(hv:PV g w R ps pv):∀(l:List (Nat×List T)) (z cs:List T) (cells:Array Value),(∀p∈ps,(place p.1).isSome=true) →
  fu R (ps.map fun p=>(((place p.1).getD (0,0)).1,((place p.1).getD (0,0)).2,p.2))=some l→mG z l=some cs→bF g w z cells.toList→cB z →
  ∃cW,Instr.fill place cells pv=some cW∧bF g w cs cW.toList∧cB cs∧cW.size=cells.size:=by
 induction hv with
 | nil =>
  intro l z cs cells hp hl hf hz ho
  simp[fu]at hl;subst hl
  simp[mG]at hf;subst hf
  exact⟨cells,rfl,hz,ho,rfl⟩
 | @cons i x v ps pv Rj _ ih =>
  intro l z cs cells hp hl hf hz ho
  have VW:=hp (i,x) (by simp)
  cases yc:place i with
  | none=>simp[yc]at VW
  | some os =>
   obtain⟨off,size⟩:=os
   simp only[List.map_cons,yc,Option.getD_some]at hl
   simp only[fu]at hl
   cases hc:(x.ev R).cells? with
   | none=>simp[hc]at hl
   | some c =>
    cases hr:fu R (ps.map fun p=>(((place p.1).getD (0,0)).1,((place p.1).getD (0,0)).2,p.2))with
    | none=>simp[hc,hr]at hl
    | some l' =>
     simp only[hc,hr]at hl
     split at hl
     ·rename_i lR
      simp at hl;subst hl
      simp only[mG]at hf
      split at hf
      ·rename_i hle
       obtain⟨HQ,Rk⟩:=jB Rj hc
       have a9:v.cells.size=size:=by have:=HQ.1;simp at this;omega
       have wO:z.length=cells.size:=by have:=hz.1;simpa using this
       have W9:off+size≤cells.size:=by omega
       have bV:=oX a9 W9
       have qm:bF g w (z.take off++c++z.drop (off+c.length)) (v.cells.zipIdx.foldl (fun (cs:Array Value) (x:Value×Nat)=>cs.setIfInBounds (off+x.2) x.1) cells).toList:=by
        rw[bV,lR]
        exact bF.append (bF.append (hz.take off) HQ) (hz.drop (off+size))
       have mY:cB (z.take off++c++z.drop (off+c.length)):=by
        intro t ht
        rcases List.mem_append.1 ht with ht|ht
        ·rcases List.mem_append.1 ht with ht|ht
         ·exact ho t (List.mem_of_mem_take ht)
         ·exact Rk t ht
        ·exact ho t (List.mem_of_mem_drop ht)
       obtain⟨cW,k1,k2,k3,k4⟩:=ih l' _ cs _ (fun x hx=>hp x (by simp[hx])) hr hf qm mY
       refine⟨cW,?_,k2,k3,?_⟩
       ·simp only[Instr.fill,yc]
        rw[if_neg]
        ·exact k1
        ·simp[a9];omega
       ·rw[k4]
        have:=congrArg List.length bV
        simp only[Array.length_toList,List.length_append,List.length_take,List.length_drop]at this
        omega
      ·cases hf
     ·cases hl
theorem BH {ty:TypeId}{fs:Array Field}{i:TypeInfo}{zv:Value}{R:av}{ps:List (Nat×X)}{pv:List (Nat×Value)}{z cs:List T}{l:List (Nat×List T)}(hu:P.underlying ty=some (.struct fs))(hi:P.info? ty=some i)(hz:i.zero=some zv)(DE:ff zv.cells.toList=some z)
  (hfs:∀f∈fs.toList,∃i,P.info? f.type=some i) (hp:∀p∈ps,p.1<fs.size) (h:SR w0 g H w) (hv:PV g w R ps pv)
  (hl:fu R (ps.map fun p=>((((placesOf P fs.toList)[p.1]?).getD (0,0)).1,(((placesOf P fs.toList)[p.1]?).getD (0,0)).2,p.2))=some l) (hf:mG z l=some cs) :
  b8 P w0 g H w (Instr.build ty pv.toArray) (.agg cs) H:=by
 obtain⟨BI,CU⟩:=dL (g:=g) (w:=w) _ _ DE
 have hlen:∀l:List Field,(placesOf P l).length=l.length:=by
  intro l;induction l with
  | nil=>rfl
  | cons f l ih=>simp[placesOf,ih]
 have vX:∀p∈ps,((placesOf P fs.toList)[p.1]?).isSome=true:=fun p sJ=>by
  have:=hp p sJ
  rw[List.getElem?_eq_getElem (by rw[hlen];simpa using this)];rfl
 obtain⟨cW,k1,k2,k3,_⟩:=I3 (place:=fun (i:Nat)=>(placesOf P fs.toList)[i]?) hv l z cs zv.cells vX hl hf BI CU
 refine b8.same h (v:=.agg cW) ?_ (by have:=k2.agg k3;simpa using this)
 have yc:(fs.mapM fun f=>do pure (f.offset,←sizeOf f.type):Sem (Array (Nat×Nat))).run P w=.ok (placesOf P fs.toList).toArray w:=by
  rw[Array.mapM_eq_mapM_toList]
  simp only[Sem.run_map,run_places hfs,Result.andThen_ok]
 simp only[Instr.build,zeroValue,Sem.run_bind,bu hi,hz,Result.andThen_ok,Sem.run_pure,run_underlying hu,yc]
 have e:(fun (x:Nat)=>(placesOf P fs.toList).toArray[x]?)=fun (i:Nat)=>(placesOf P fs.toList)[i]?:=by funext x;simp
 simp[e,k1]
end
section
variable {P:Program} {w0 w:World} {g:Ctx} {H:af}
theorem lj {n:Nat}:∀(es:List (List T)) (i:Nat) (c:List T),(∀c∈es,c.length=n)→i<es.length→(es.set i c).flatten=es.flatten.take (i*n)++c++es.flatten.drop (i*n+n)
 | [],i,c,_,h=>by simp at h
 | d :: es,0,c,hn,_=>by
  have hd:=hn d (by simp)
  simp[←hd]
 | d :: es,i+1,c,hn,h=>by
  have hd:=hn d (by simp)
  have ih:=lj es i c (fun c hc=>hn c (by simp[hc])) (by simpa using h)
  simp only[List.set_cons_succ,List.flatten_cons,ih]
  have e1:(d++es.flatten).take ((i+1)*n)=d++es.flatten.take (i*n):=by
   rw[List.take_append,hd,Nat.succ_mul]
   rw[List.take_of_length_le (by omega)]
   congr 2;omega
  have e2:(d++es.flatten).drop ((i+1)*n+n)=es.flatten.drop (i*n+n):=by
   rw[List.drop_append,hd,Nat.succ_mul]
   rw[List.drop_of_length_le (by omega)]
   simp only[List.nil_append]
   congr 1;omega
  rw[e1,e2];simp
theorem DF {R:av}{n:Nat}{ps:List (Nat×X)}{pv:List (Nat×Value)}(hv:PV g w R ps pv):∀(es fs:List (List T)) (cells:Array Value),jy n es R ps=some fs→(∀c∈es,c.length=n)→bF g w es.flatten cells.toList→cB es.flatten →
  ∃cW,Instr.fill (fun i=>some (i*n,n)) cells pv=some cW∧bF g w fs.flatten cW.toList∧cB fs.flatten∧(∀c∈fs,c.length=n)∧fs.length=es.length:=by
 induction hv with
 | nil =>
  intro es fs cells he hn hz ho
  simp[jy]at he;subst he
  exact⟨cells,rfl,hz,ho,hn,rfl⟩
 | @cons i x v ps pv Rj _ ih =>
  intro es fs cells he hn hz ho
  simp only[jy]at he
  cases hc:(x.ev R).cells? with
  | none=>simp[hc]at he
  | some c =>
   simp only[hc]at he
   split at he
   ·rename_i cF
    obtain⟨lR,hi⟩:=cF
    obtain⟨HQ,Rk⟩:=jB Rj hc
    have a9:v.cells.size=n:=by have:=HQ.1;simp at this;omega
    have qk:=gm es hn
    have wO:es.flatten.length=cells.size:=by have:=hz.1;simpa using this
    have hle:i*n+n≤cells.size:=by
     rw[←wO,qk,←Nat.succ_mul];exact Nat.mul_le_mul_right _ hi
    have bV:=oX a9 hle
    have lk:=lj es i (c.map T.erase) hn hi
    have qm:bF g w (es.set i (c.map T.erase)).flatten (v.cells.zipIdx.foldl (fun (cs:Array Value) (x:Value×Nat)=>cs.setIfInBounds (i*n+x.2) x.1) cells).toList:=by
     rw[bV,lk]
     exact bF.append (bF.append (hz.take _) HQ.erase) (hz.drop _)
    have mY:cB (es.set i (c.map T.erase)).flatten:=by
     rw[lk]
     intro t ht
     rcases List.mem_append.1 ht with ht|ht
     ·rcases List.mem_append.1 ht with ht|ht
      ·exact ho t (List.mem_of_mem_take ht)
      ·exact qQ Rk t ht
     ·exact ho t (List.mem_of_mem_drop ht)
    obtain⟨cW,k1,k2,k3,k4,k5⟩:=ih _ fs _ he (fun c' iS=>by
     rcases List.mem_or_eq_of_mem_set iS with h|h
     ·exact hn c' h
     ·rw[h,List.length_map];exact lR) qm mY
    refine⟨cW,?_,k2,k3,k4,by simpa using k5⟩
    simp only[Instr.fill]
    rw[if_neg]
    ·exact k1
    ·simp[a9];omega
   ·cases he
theorem lr {n:Nat}{z:List T}{zc:Array Value}(hz:bF g w z zc.toList)(hn:z.length=n)(m:Nat):bF g w (List.replicate m z).flatten ((Array.range (m*n)).map (fun i=>zc[i%zc.size]!)).toList:=by
 have I0:zc.size=n:=by have:=hz.1;simp at this;omega
 refine⟨by simp[hn],fun i t v a b=>?_⟩
 have hi:i<m*n:=by
  have:=(List.getElem?_eq_some_iff.1 b).1
  simpa using this
 have jC:0<n:=by
  rcases Nat.eq_zero_or_pos n with e|e
  ·subst e;simp at hi
  ·exact e
 have hdm:i/n<m:=Nat.div_lt_of_lt_mul (by rw[Nat.mul_comm];exact hi)
 have Rl:i%n<z.length:=by rw[hn];exact Nat.mod_lt _ jC
 have e1:(List.replicate m z)[i/n]?=some z:=by simp[hdm]
 have:=kY (n:=n) (List.replicate m z) (fun c hc=>by rw[List.eq_of_mem_replicate hc];exact hn) (i/n) (i%n) z _ e1 (List.getElem?_eq_getElem Rl)
 rw[show i/n*n+i%n=i by rw[Nat.mul_comm,Nat.div_add_mod]]at this
 rw[this]at a
 simp at a;subst a
 have aw:i%zc.size<zc.toList.length:=by rw[I0];simp[I0];exact Nat.mod_lt _ jC
 have e2:zc.toList[i%zc.size]?=some v:=by
  simp[hi]at b
  rw[←b,List.getElem?_eq_getElem aw]
  have:i%zc.size<zc.size:=by simpa using aw
  simp[this]
 rw[I0]at e2
 exact hz.2 (i%n) _ v (List.getElem?_eq_getElem Rl) e2
theorem jD {z:List T}(ho:cB z)(m:Nat):cB (List.replicate m z).flatten:=by
 intro t ht
 obtain⟨c,h1,h2⟩:=List.mem_flatten.1 ht
 rw[List.eq_of_mem_replicate h1]at h2
 exact ho t h2
theorem DG (w:World):Tr w w gG iU:=Tr.refl w
theorem I4 {ty elem:TypeId}{ei:TypeInfo}{zv:Value}{R:av}{ps:List (Nat×X)}{pv:List (Nat×Value)}{z:List T}{len:Nat}{fs:List (List T)}(hu:P.underlying ty=some (.slice elem))(hi:P.info? elem=some ei)(hz:ei.zero=some zv)(DE:ff zv.cells.toList=some z)
  (yA:z.length=ei.size) (a9:len*ei.size≤2^24) (h:SR w0 g H w) (hv:PV g w R ps pv) (he:jy z.length (List.replicate len z) R ps=some fs) :
  b8 P w0 g H w (Instr.buildSlice ty len pv.toArray) (.sl .full fs) H:=by
 obtain⟨BI,CU⟩:=dL (g:=g) (w:=w) _ _ DE
 have Xa:=lr BI yA len
 have Rh:=jD CU len
 rw[yA]at he
 obtain⟨cW,k1,k2,k3,k4,k5⟩:=DF hv _ fs ((Array.range (len*ei.size)).map (fun i=>zv.cells[i%zv.cells.size]!)) he (fun c hc=>by rw[List.eq_of_mem_replicate hc];exact yA) Xa Rh
 have hlen:fs.length=len:=by rw[k5];simp
 obtain⟨le,sr,fr,mA⟩:=h.mA (c:=cW) (ty:=elem) (DG w) rfl
 refine⟨.slice (some ⟨w.heap.size,0,none⟩) len len,_,_,?_,le,sr,?_,fr⟩
 ·have uQ:¬len*ei.size>2^24:=by omega
  by_cases h0:len*ei.size=0
  ·have e0:((Array.range (len*ei.size)).map (fun i=>zv.cells[i%zv.cells.size]!))=((Array.range (len*ei.size)).map (fun i=>(#[]:Array Value)[i%(#[]:Array Value).size]!)):=by
    rw[h0];simp
   rw[e0]at k1
   simp only[Instr.buildSlice,Sem.run_bind,run_underlying hu,Result.andThen_ok,sizeOf,bu hi,Sem.run_pure,uQ,if_false,h0,if_true]
   rw[h0]at k1
   simp at k1
   simp[k1,newRow]
  ·simp only[Instr.buildSlice,Sem.run_bind,run_underlying hu,Result.andThen_ok,sizeOf,bu hi,Sem.run_pure,uQ,if_false,h0,zeroValue,hz]
   simp[k1,newRow]
 ·have:=VR.uP (k:=.full) (r:=w.heap.size) (o:=0) (cap:=fs.length) k4 (k2.mono le) k3 (Nat.le_refl _) rfl (fun j v hj=>by rw[Nat.zero_add];exact mA j v (by simpa using hj))
  rw[hlen]at this;exact this
theorem wrap_i64 {n:Int}(h0:0≤n)(h1:n≤9223372036854775807):IntKind.i64.wrap n=n:=IntWalk.i64_in n (by omega)
theorem run_makeSlice {ty elem:TypeId}{ei:TypeInfo}{zv:Value}{k1 k2:IntKind}{l c:Int}(hu:P.underlying ty=some (.slice elem))(hi:P.info? elem=some ei)(hz:ei.zero=some zv)(h0:0≤l)(M6:l≤c)(hc:c*ei.bytes≤281474976710656)(iS:c≤9223372036854775807) :
  (Instr.makeSlice ty (.int k1 l) (.int k2 c)).run P w=.ok (.slice (some ⟨w.heap.size,0,none⟩) l.toNat c.toNat)
   (w.alloc (.cells ((Array.range (c.toNat*ei.size)).map (fun i=>(if c.toNat*ei.size=0 then(#[]:Array Value)else zv.cells)[i%(if c.toNat*ei.size=0 then(#[]:Array Value)else zv.cells).size]!)) elem)):=by
 have e1:=wrap_i64 h0 (by omega:l≤9223372036854775807)
 have e2:=wrap_i64 (by omega:0≤c) iS
 have t1:((decide (c<0)||decide ((ei.bytes:Int)*c>2^48))||decide (l<0)||decide (l>c))=false:=by
  have:(ei.bytes:Int)*c=c*ei.bytes:=Int.mul_comm _ _
  simp[this];omega
 simp only[Instr.makeSlice,Sem.run_bind,run_underlying hu,Result.andThen_ok,asInt,asIntOf,Sem.run_pure,bu hi,e1,e2,t1]
 by_cases hn:c.toNat*ei.size=0
 ·simp[sizeOf,bu hi,hn,newRow]
 ·simp[sizeOf,bu hi,hn,zeroValue,hz,newRow]
theorem I5 {ty elem:TypeId}{ei:TypeInfo}{zv:Value}{mu:Bool}{z:List T}{x y t:T}{l c:Nat}{vx vy:Value}{H':af}(hu:P.underlying ty=some (.slice elem))(hi:P.info? elem=some ei)(hz:ei.zero=some zv)(DE:ff zv.cells.toList=some z)(yA:z.length=ei.size)(jC:ei.size≠0)
  (h:SR w0 g H w) (hx:VR g w x vx) (hy:VR g w y vy) (hl:cq x=some l) (hc:cq y=some c) (M6:l≤c) (hb:c*ei.bytes≤281474976710656) (Qo:c≤9223372036854775807)
  (he:(if mu then(T.ax H.length 0 l z.length,H++[.cells (List.replicate l z).flatten])else if l=0 then(.sl .arg [],H)else(.sl (.own H.length l) (List.replicate l z),H++[.tok l]))=(t,H')) :
  b8 P w0 g H w (Instr.makeSlice ty vx vy) t H':=by
 obtain⟨BI,CU⟩:=dL (g:=g) (w:=w) _ _ DE
 obtain⟨k1,n1,rfl,a1,b1⟩:=ew hx hl
 obtain⟨k2,n2,rfl,a2,b2⟩:=ew hy hc
 have cy:=run_makeSlice (P:=P) (w:=w) (k1:=k1) (k2:=k2) hu hi hz a1 (by omega:n1≤n2) (by
  have:(n2.toNat:Int)=n2:=Int.toNat_of_nonneg a2
  rw[←this,b2];omega) (by omega)
 rw[b1,b2]at cy
 have sL:=lr BI yA c
 have fG:=jD CU c
 have yB:(List.replicate c z).flatten=(List.replicate l z).flatten++(List.replicate (c-l) z).flatten:=by
  rw[←List.flatten_append,List.replicate_append_replicate];congr 2;omega
 have abT:(List.replicate l z).flatten.length=l*ei.size:=by rw[gm (n:=ei.size) _ (fun c hc=>by rw[List.eq_of_mem_replicate hc];exact yA),List.length_replicate]
 have nO:(Array.range (c*ei.size)).map (fun i=>(if c*ei.size=0 then(#[]:Array Value)else zv.cells)[i%(if c*ei.size=0 then(#[]:Array Value)else zv.cells).size]!)=(Array.range (c*ei.size)).map (fun i=>zv.cells[i%zv.cells.size]!):=by
  by_cases h0:c*ei.size=0
  ·rw[h0];simp
  ·simp only[h0,if_false]
 rw[nO]at cy
 generalize hA:(Array.range (c*ei.size)).map (fun i=>zv.cells[i%zv.cells.size]!)=A at cy sL
 have a9:A.size=c*ei.size:=by rw[←hA];simp
 have lh:∀(i:Nat) (t:T),(List.replicate l z).flatten[i]?=some t→t.one=true∧∃v,A[i]?=some v∧VR g w t v:=by
  intro i t jR
  have e:(List.replicate c z).flatten[i]?=some t:=by
   rw[yB,List.getElem?_append_left (List.getElem?_eq_some_iff.1 jR).1];exact jR
  obtain⟨v,h1,h2⟩:=sL.fZ i t e
  exact⟨fG t (List.mem_of_getElem? e),v,by simpa using h1,h2⟩
 cases mu with
 | true =>
  simp only[if_true,Prod.mk.injEq]at he
  obtain⟨rfl,rfl⟩:=he
  obtain⟨g',le,sr,fr,hφ⟩:=h.gS (c:=A) (ty:=elem) (DG w) rfl lh
  exact⟨_,_,g',cy,le,sr,.ax (r:=w.heap.size) (o:=0) (off:=0) hφ M6 (by rw[a9,yA];simp),fr⟩
 | false =>
  simp only[Bool.false_eq_true,if_false]at he
  split at he
  ·rename_i ya
   subst ya
   simp only[Prod.mk.injEq]at he
   obtain⟨rfl,rfl⟩:=he
   obtain⟨le,sr,fr,mA⟩:=h.mA (c:=A) (ty:=elem) (DG w) rfl
   exact⟨_,_,_,cy,le,sr,.sl (n:=0) (fun _ _=>.nilIface) trivial (by simp) (by simp) (by simp) (by simp),fr⟩
  ·rename_i ya
   simp only[Prod.mk.injEq]at he
   obtain⟨rfl,rfl⟩:=he
   obtain⟨le,sr,fr,mA,hp⟩:=h.DA (c:=A) (ty:=elem) (t:=H.length) (e:=l) (k:=l*ei.size) (H':=H++[.tok l]) (DG w) rfl (fx _ _) (by rw[a9];exact Nat.mul_le_mul_right _ M6) (fun I1 _=>h.W3 (Nat.le_refl _))
    (fun b' x e hx=>cY e hx) (by simp) (fun b' x hx _=>iV hx)
   refine⟨_,_,_,cy,le,sr,?_,fr⟩
   have hv:bF g w (List.replicate l z).flatten (A.toList.take (l*ei.size)):=by
    have:=sL.take (l*ei.size)
    rwa[yB,List.take_append_of_le_length (by omega),List.take_of_length_le (by omega)]at this
   have:=VR.uP (k:=.own H.length l) (r:=w.heap.size) (o:=0) (cap:=c) (n:=ei.size) (es:=List.replicate l z) (fun c hc=>by rw[List.eq_of_mem_replicate hc];exact yA) (hv.mono le) (jD CU l) (by simpa using M6)
    ⟨by rw[hp,a9];simp,by simp;omega⟩ (fun j v hj=>by
     rw[Nat.zero_add]
     rw[List.getElem?_take]at hj
     split at hj
     ·rename_i aw;exact mA j v aw (by simpa using hj)
     ·cases hj)
   simpa using this
theorem I6 {f:Nat}{kS:List T}{vs:List Value}(h:SR w0 g H w)(hv:bF g w kS vs):b8 P w0 g H w (Instr.makeFunc (.func f) #[] vs.toArray) (.fn f kS) H :=
 b8.same h rfl (.fn (by simp[hv.1]) (fun i t v a b=>hv.2 i t v a (by simpa using b)))
end
section
variable {P:Program} {w0 w:World} {g:Ctx} {H:af}
theorem VR.uF {t:T}{v:Value}(h:VR g w t v):VR g w (uF t) v:=by
 cases h with
 | ej h hc hq=>exact .ax h hc hq
 | ax h hc hq=>exact .ax h hc hq
 | int k n=>exact .int k n
 | bool b=>exact .bool b
 | str s=>exact .str s
 | bR=>exact .bR
 | ptr h=>exact .ptr h
 | dk cV h1 h2=>exact .dk cV h1 h2
 | gA=>exact .gA
 | map h=>exact .map h
 | slnil=>exact .slnil
 | iQ a=>exact .iQ a
 | sl cV hk hc hn h1 h2=>exact .sl cV hk hc hn h1 h2
 | mT=>exact .mT
 | fn hl h=>exact .fn hl h
 | nu h=>exact .nu h
 | gB=>exact .gB
 | agg hl h1 h2=>exact .agg hl h1 h2
 | bJ hl h2=>exact .bJ hl h2
theorem I7 {ty rt:TypeId}{e:TypeId}{b off len n c:Nat}{vx:Value}(hu:P.underlying ty=some (.slice e))(h:SR w0 g H w)(hx:VR g w (.ej b off len n c) vx) :
  b8 P w0 g H w (Builtin.cap_ #[ty] rt #[vx]) (.int .i64 (c:Nat)) H:=by
 cases hx with
 | ej hφ hc hq=>exact b8.same h (v:=.int .i64 c) (by simp[Builtin.cap_,run_underlying hu,goInt]) (.int _ _)
theorem qS (cs:List T)(off n:Nat):∀k,off+k*n≤cs.length→((List.range k).map fun i=>(cs.drop (off+i*n)).take n).flatten=(cs.drop off).take (k*n)
 | 0,_=>by simp
 | k+1,h=>by
  have h':off+k*n≤cs.length:=by rw[Nat.succ_mul]at h;omega
  rw[List.range_succ,List.map_append,List.flatten_append,qS cs off n k h',Nat.succ_mul,List.take_add]
  simp[List.drop_drop]
theorem th {n k:Nat}{y:T}{vy:Value}{new:List (List T)}(h:SR w0 g H w)(hy:VR g w y vy)(he:gY H n k y=some new) :
  ∃r o ly cap vs,vy=.slice (some ⟨r,o,none⟩) ly cap∧Dc y=some ly∧(∀(j:Nat) (v:Value),vs[j]?=some v→w.cell? ⟨r,o+j,none⟩=some v)∧bF g w new.flatten vs∧vs.length=k*n∧cB new.flatten∧new.flatten.length=k*n:=by
 have key:∀(b off:Nat) (r o q:Nat),g.φ b=some (r,o,q)→(match H[b]? with|some (.cells cs)=>if off+k*n≤cs.length then some ((List.range k).map fun i=>(cs.drop (off+i*n)).take n)else none|_=>none)=some new →
   ∃vs,(∀(j:Nat) (v:Value),vs[j]?=some v→w.cell? ⟨r,o+off+j,none⟩=some v)∧bF g w new.flatten vs∧vs.length=k*n∧cB new.flatten∧new.flatten.length=k*n:=by
  intro b off r o q hφ he
  cases hb:H[b]? with
  | none=>simp[hb]at he
  | some z =>
   cases z<;>simp only[hb]at he<;>(try (cases he;done))
   rename_i cs
   split at he
   ·rename_i hle
    simp only[Option.some.injEq]at he
    have qk:=qS cs off n k hle
    rw[he]at qk
    have hp:nC H (k*n) (.ptr b off)=some new.flatten:=by simp[nC,hb,hle,qk]
    obtain⟨r',o',vs,e1,e2,e3,e4,e5⟩:=oP h (.ptr hφ) hp
    cases e1
    exact⟨vs,e3,e4,e2,e5,by rw[qk,List.length_take,List.length_drop];omega⟩
   ·cases he
 cases hy<;>simp only[gY]at he<;>(try (cases he;done))
 ·rename_i b off len n' r o q cap hφ hc hq
  obtain⟨vs,a1,a2,a3,a4,a5⟩:=key b off r o q hφ (by
   cases hb:H[b]? with
   | none=>simp[hb]at he
   | some z =>
    cases z<;>simp only[hb]at he ⊢<;>(try (cases he;done))
    split at he
    ·rename_i uR;rw[if_pos uR.2];exact he
    ·cases he)
  exact⟨r,o+off,len,cap,vs,rfl,rfl,a1,a2,a3,a4,a5⟩
 ·rename_i b off len n' r o q cap hφ hc hq
  obtain⟨vs,a1,a2,a3,a4,a5⟩:=key b off r o q hφ (by
   cases hb:H[b]? with
   | none=>simp[hb]at he
   | some z =>
    cases z<;>simp only[hb]at he ⊢<;>(try (cases he;done))
    split at he
    ·rename_i uR;rw[if_pos uR.2];exact he
    ·cases he)
  exact⟨r,o+off,len,cap,vs,rfl,rfl,a1,a2,a3,a4,a5⟩
theorem SR.M7 {b off r o q:Nat}{cs ts:List T}{vs:List Value}(h:SR w0 g H w)(hb:H[b]?=some (.cells cs))(hφ:g.φ b=some (r,o,q))(Bz:off≤cs.length)(hle:o+off+ts.length≤q)(hv:bF g w ts vs)(ho:cB ts) :
  Le g w g (w.setCells r (o+off) vs)∧SR w0 g (H.set b (.cells (cs.take off++ts++cs.drop (off+ts.length)))) (w.setCells r (o+off) vs):=by
 have kE:b<H.length:=(List.getElem?_eq_some_iff.1 hb).1
 obtain⟨h1,h2,h3⟩:=h.eg b _ hb r o q hφ
 have hl:=hv.1
 have hs:∀j,o+off≤j→j<o+off+vs.length→(w.cell? ⟨r,j,none⟩).isSome=true:=fun j a c=>(h2 j (by omega) (by omega)).2.2
 have tr:=Tr.setCells w r (o+off) vs hs
 have hS:∀r' j,wH r (o+off) vs.length r' j→g.κ r' j=.mut b:=by
  rintro r' j⟨rfl,a,c⟩;exact(h2 j (by omega) (by omega)).1
 have le:Le g w g (w.setCells r (o+off) vs):=Le.gZ tr (fun _ _ h=>h) (fun _ _ h=>h) (fun _ _ _ h=>h) (fun r' j ft e=>by rw[hS r' j ft]at e;cases e)
 refine⟨le,h.step (fun b'=>b'=b) tr le (fun r' j ft=>.inr (.inl ⟨b,hS r' j ft,rfl⟩)) (fun _ hm=>hm.elim) (fun r' j hr=>h.fresh r' j (by rwa[dM]at hr)) (fun b' x hx=>by rw[List.length_set];exact h.sH b' x hx)
  (fun t e x hx=>by rw[List.length_set];exact h.jj t e x hx) (fun _ _ _=>rfl) (fun _ _ _ _=>⟨id,id⟩) (fun _ _ _ _=>rfl) (fun b' x hx=>?_)⟩
 rcases eE kE hx with⟨rfl,rfl⟩|⟨bK,jk⟩
 ·right
  intro r' o' q' kM
  rw[hφ]at kM;cases kM
  have hlen:(cs.take off++ts++cs.drop (off+ts.length)).length=max cs.length (off+ts.length):=by simp;omega
  refine⟨by rw[hlen];omega,fun j a c=>⟨(h2 j a c).1,by rw[World.frozen?_setCells];exact(h2 j a c).2.1,tr.dQ r j ?_ (h2 j a c).2.2⟩,fun i t hi=>?_⟩
  ·obtain⟨x,hx⟩:=Option.isSome_iff_exists.1 (h2 j a c).2.2;exact jQ hx
  ·have jR:i<max cs.length (off+ts.length):=by rw[←hlen];exact(List.getElem?_eq_some_iff.1 hi).1
   by_cases iW:off≤i∧i<off+ts.length
   ·have ht:ts[i-off]?=some t:=by
     rw[List.append_assoc,List.getElem?_append_right (by simp;omega),List.getElem?_append_left (by simp;omega)]at hi
     rw[←hi];congr 1;simp;omega
    have aw:i-off<vs.length:=by omega
    refine⟨ho t (List.mem_of_getElem? ht),vs[i-off],?_,(hv.2 _ t _ ht (List.getElem?_eq_getElem aw)).mono le⟩
    have:=cK r vs (o+off) w hs (i-off) _ (List.getElem?_eq_getElem aw)
    rwa[show o+off+(i-off)=o+i by omega]at this
   ·have ht:cs[i]?=some t:=by
     by_cases aw:i<off
     ·rw[List.append_assoc,List.getElem?_append_left (by simp;omega),List.getElem?_take,if_pos aw]at hi;exact hi
     ·rw[List.getElem?_append_right (by simp;omega),List.getElem?_drop]at hi
      rw[←hi];congr 1;simp;omega
    obtain⟨a,v,MY,MZ⟩:=h3 i t ht
    refine⟨a,v,?_,MZ.mono le⟩
    rw[cG r vs (o+off) w r (o+i) (by omega)];exact MY
 ·exact .inl ⟨bK,jk⟩
theorem BJ (w:World)(dT sT ty elem:TypeId){ei:TypeInfo}(b o M8 Xb:Nat)(a:Addr)(M9 Xc:Nat)(cs:List Value)
  (hu:P.underlying dT=some (.slice elem)) (hi:P.info? elem=some ei) (hn:cs.length=Nat.min M9 M8*ei.size)
  (sI:∀(j:Nat) v,cs[j]?=some v→w.cell? (a.add j)=some v) (hc:∀j,j<cs.length→(w.cell? ⟨b,o+j,none⟩).isSome=true) (hf:∀j,j<cs.length→w.frozen? ⟨b,o+j,none⟩=false) (h1:∀v∈cs,v.oneCell'=true) :
  (Builtin.copy_ #[dT,sT] ty #[.slice (some ⟨b,o,none⟩) M8 Xb,.slice (some a) M9 Xc]).run P w=.ok (goInt (Nat.min M9 M8:Nat)) (w.setCells b o cs):=by
 have hl:=run_loadCells_list (P:=P) w a cs sI
 have dD:=run_storeCells_cells (P:=P) b o cs 0 w (by simpa using hc) (by simpa using hf) h1
 rw[hn]at hl
 have hq:(typeInfo elem).run P w=.ok ei w:=bu hi
 simp[Builtin.copy_,run_underlying hu,Builtin.lenOf,Builtin.firstCells,sizeOf,hq,hl,dD]
theorem I8 {dT sT rt elem:TypeId}{ei:TypeInfo}{x y t:T}{vx vy:Value}{H':af}(hu:P.underlying dT=some (.slice elem))(hi:P.info? elem=some ei)
  (h:SR w0 g H w) (hx:VR g w x vx) (hy:VR g w y vy) (he:Bi H ei.size x y=some (t,H')):b8 P w0 g H w (Builtin.copy_ #[dT,sT] rt #[vx,vy]) t H':=by
 have key:∀b off len n' r o q cap,g.φ b=some (r,o,q)→len≤cap→o+off+cap*n'=q→vx=.slice (some ⟨r,o+off,none⟩) len cap →
   (∀ly,Dc y=some ly→∀cs new,H[b]?=some (.cells cs)→gY H ei.size (min ly len) y=some new→n'=ei.size∧ei.size≠0∧off≤cs.length →
    t=.int .i64 (min ly len:Nat)→H'=H.set b (.cells (cs.take off++new.flatten++cs.drop (off+(min ly len)*ei.size)))→b8 P w0 g H w (Builtin.copy_ #[dT,sT] rt #[vx,vy]) t H'):=by
  rintro b off len n' r o q cap hφ hc hq rfl ly I9 cs new hb hK⟨rfl,jC,Bz⟩ rfl rfl
  obtain⟨r2,o2,ly',uK,vs,rfl,Rm,a1,a2,a3,a4,a5⟩:=th h hy hK
  rw[I9]at Rm;cases Rm
  have kE:b<H.length:=(List.getElem?_eq_some_iff.1 hb).1
  obtain⟨h1,h2,h3⟩:=h.eg b _ hb r o q hφ
  have hmul:min ly len*ei.size≤cap*ei.size:=Nat.mul_le_mul_right _ (by omega)
  have cy:=BJ (P:=P) w dT sT rt elem r (o+off) len cap ⟨r2,o2,none⟩ ly uK vs hu hi (by rw[a3]) (fun j v hj=>by rw[dr];exact a1 j v hj) (fun j hj=>(h2 _ (by omega) (by omega)).2.2) (fun j hj=>(h2 _ (by omega) (by omega)).2.1) (a2.iR a4)
  obtain⟨le,sr⟩:=h.M7 hb hφ Bz (by rw[a5];omega) a2 a4
  rw[a5]at sr
  refine⟨_,_,g,cy,le,sr,by simpa[goInt]using .int _ _,by simp,fun b' y' a _ d=>⟨fy a ?_,d⟩⟩
  rintro rfl;rw[hφ]at d;cases d
 unfold Bi at he
 cases hx<;>simp only[]at he<;>(try (cases he;done))
 all_goals
  rename_i b off len n' r o q cap hφ hc hq
  cases I9:Dc y with
  | none=>simp[I9]at he
  | some ly =>
   simp only[I9]at he
   cases hb:H[b]? with
   | none=>simp[hb]at he
   | some z =>
    cases hK:gY H ei.size (min ly len) y with
    | none=>cases z<;>simp[hb,hK]at he
    | some new =>
     cases z<;>simp only[hb,hK]at he<;>(try (cases he;done))
     split at he
     ·rename_i uR
      simp only[Option.some.injEq,Prod.mk.injEq]at he
      exact key b off len n' r o q cap hφ hc hq rfl ly I9 _ new hb hK uR he.1.symm he.2.symm
     ·cases he
theorem DH {R:av}{n:Nat}{ps:List (Nat×X)}{pv:List (Nat×Value)}(hv:PV g w R ps pv):∀(es fs:List (List T)) (cells:Array Value),jz n es R ps=some fs→(∀c∈es,c.length=n)→bF g w es.flatten cells.toList→cB es.flatten →
  ∃cW,Instr.fill (fun i=>some (i*n,n)) cells pv=some cW∧bF g w fs.flatten cW.toList∧cB fs.flatten∧(∀c∈fs,c.length=n)∧fs.length=es.length:=by
 induction hv with
 | nil =>
  intro es fs cells he hn hz ho
  simp[jz]at he;subst he
  exact⟨cells,rfl,hz,ho,hn,rfl⟩
 | @cons i x v ps pv Rj _ ih =>
  intro es fs cells he hn hz ho
  simp only[jz]at he
  cases hc:(x.ev R).cells? with
  | none=>simp[hc]at he
  | some c =>
   simp only[hc]at he
   split at he
   ·rename_i cF
    obtain⟨lR,hi⟩:=cF
    obtain⟨HQ,Rk⟩:=jB Rj hc
    have a9:v.cells.size=n:=by have:=HQ.1;simp at this;omega
    have qk:=gm es hn
    have wO:es.flatten.length=cells.size:=by have:=hz.1;simpa using this
    have hle:i*n+n≤cells.size:=by
     rw[←wO,qk,←Nat.succ_mul];exact Nat.mul_le_mul_right _ hi
    have bV:=oX a9 hle
    have lk:=lj es i c hn hi
    have qm:bF g w (es.set i c).flatten (v.cells.zipIdx.foldl (fun (cs:Array Value) (x:Value×Nat)=>cs.setIfInBounds (i*n+x.2) x.1) cells).toList:=by
     rw[bV,lk]
     exact bF.append (bF.append (hz.take _) HQ) (hz.drop _)
    have mY:cB (es.set i c).flatten:=by
     rw[lk]
     intro t ht
     rcases List.mem_append.1 ht with ht|ht
     ·rcases List.mem_append.1 ht with ht|ht
      ·exact ho t (List.mem_of_mem_take ht)
      ·exact Rk t ht
     ·exact ho t (List.mem_of_mem_drop ht)
    obtain⟨cW,k1,k2,k3,k4,k5⟩:=ih _ fs _ he (fun c' iS=>by
     rcases List.mem_or_eq_of_mem_set iS with h|h
     ·exact hn c' h
     ·rw[h];exact lR) qm mY
    refine⟨cW,?_,k2,k3,k4,by simpa using k5⟩
    simp only[Instr.fill]
    rw[if_neg]
    ·exact k1
    ·simp[a9];omega
   ·cases he
theorem Ja {ty elem:TypeId}{ei:TypeInfo}{zv:Value}{R:av}{ps:List (Nat×X)}{pv:List (Nat×Value)}{z:List T}{len:Nat}{fs:List (List T)}(hu:P.underlying ty=some (.slice elem))(hi:P.info? elem=some ei)(hz:ei.zero=some zv)(DE:ff zv.cells.toList=some z)
  (yA:z.length=ei.size) (a9:len*ei.size≤2^24) (h:SR w0 g H w) (hv:PV g w R ps pv) (he:jz z.length (List.replicate len z) R ps=some fs) :
  b8 P w0 g H w (Instr.buildSlice ty len pv.toArray) (.ax H.length 0 len z.length) (H++[.cells fs.flatten]):=by
 obtain⟨BI,CU⟩:=dL (g:=g) (w:=w) _ _ DE
 have Xa:=lr BI yA len
 have Rh:=jD CU len
 rw[yA]at he
 obtain⟨cW,k1,k2,k3,k4,k5⟩:=DH hv _ fs ((Array.range (len*ei.size)).map (fun i=>zv.cells[i%zv.cells.size]!)) he (fun c hc=>by rw[List.eq_of_mem_replicate hc];exact yA) Xa Rh
 have hlen:fs.length=len:=by rw[k5];simp
 have qk:fs.flatten.length=len*ei.size:=by rw[gm fs k4,hlen]
 have uM:cW.size=len*ei.size:=by have:=k2.1;simp only[Array.length_toList]at this;omega
 obtain⟨g',le,sr,fr,hφ⟩:=h.gS (c:=cW) (ty:=elem) (cs:=fs.flatten) (DG w) rfl (fun i t hi=>by
  obtain⟨v,a1,a2⟩:=k2.fZ i t hi
  exact⟨k3 t (List.mem_of_getElem? hi),v,by simpa using a1,a2⟩)
 refine⟨.slice (some ⟨w.heap.size,0,none⟩) len len,_,g',?_,le,sr,?_,fr⟩
 ·have uQ:¬len*ei.size>2^24:=by omega
  by_cases h0:len*ei.size=0
  ·have e0:((Array.range (len*ei.size)).map (fun i=>zv.cells[i%zv.cells.size]!))=((Array.range (len*ei.size)).map (fun i=>(#[]:Array Value)[i%(#[]:Array Value).size]!)):=by
    rw[h0];simp
   rw[e0]at k1
   simp only[Instr.buildSlice,Sem.run_bind,run_underlying hu,Result.andThen_ok,sizeOf,bu hi,Sem.run_pure,uQ,if_false,h0,if_true]
   rw[h0]at k1
   simp at k1
   simp[k1,newRow]
  ·simp only[Instr.buildSlice,Sem.run_bind,run_underlying hu,Result.andThen_ok,sizeOf,bu hi,Sem.run_pure,uQ,if_false,h0,zeroValue,hz]
   simp[k1,newRow]
 ·rw[yA]
  exact .ax (r:=w.heap.size) (o:=0) (off:=0) hφ (Nat.le_refl _) (by rw[uM];simp)
theorem Jb {sT xT elem rt:TypeId}{ei:TypeInfo}{zv:Value}{z:List T}{kq kn:IntKind}{x t:T}{vx:Value}{k:Nat}{H':af}(hu:P.underlying sT=some (.slice elem))(Jc:P.underlying xT=some (.int kn))(hi:P.info? elem=some ei)(hz:ei.zero=some zv)(DE:ff zv.cells.toList=some z)
  (hb:ei.bytes≠0) (h:SR w0 g H w) (hx:VR g w x vx) (he:Dd H ei.size ei.bytes z x k=some (t,H')):b8 P w0 g H w (Builtin.append_ #[sT,xT] rt #[vx,.int kq k]) t H':=by
 unfold Dd at he
 cases x<;>simp only[]at he<;>(try (cases he;done))
 rename_i b off len n' c
 cases hK:gY H ei.size len (.ej b off len n' c)with
 | none=>simp[hK]at he
 | some es =>
  simp only[hK]at he
  split at he
  ·rename_i uR
   obtain⟨rfl,jC,Rn,lR,yA,hJ⟩:=uR
   simp only[Option.some.injEq,Prod.mk.injEq]at he
   obtain⟨rfl,rfl⟩:=he
   obtain⟨r,o,ly,cap,vs,rfl,I9,a1,a2,a3,a4,a5⟩:=th h hx hK
   cases I9
   have nH:cap=c:=by cases hx;rfl
   subst nH
   obtain⟨BI,CU⟩:=dL (g:=g) (w:=w) _ _ DE
   have hold:(Builtin.firstCells ei.size len (.slice (some ⟨r,o,none⟩) len cap)).run P w.drew=.ok vs.toArray w.drew:=by
    have:=run_loadCells_list (P:=P) w.drew ⟨r,o,none⟩ vs (fun j v hj=>by rw[dr];exact a1 j v hj)
    rw[a3]at this
    simpa[Builtin.firstCells]using this
   have VX:¬Builtin.nextslicecap (len+k) cap*ei.bytes>2^48:=zP lR hJ
   have hr:=hJ
   simp only[cU,decide_eq_true_eq]at hr
   have Lx:(len+k)*ei.bytes≤281474976710656:=Nat.le_trans (Nat.mul_le_mul_right _ (by omega)) hr
   have Xd:len+k≤281474976710656:=Nat.le_trans (Nat.le_mul_of_pos_right _ (by omega)) Lx
   have BK:k*ei.bytes≤281474976710656:=Nat.le_trans (Nat.mul_le_mul_right _ (by omega)) Lx
   have cy:=Go.Lib.run_append_grow_zeros (P:=P) w sT xT rt elem ei zv kq kn hu Jc hi hz (some ⟨r,o,none⟩) len cap vs hold k Rn (by omega) lR (by omega) BK (by omega)
   have I0:zv.cells.toList.length=ei.size:=by have:=BI.1;omega
   have Ro:zv.cells.size=ei.size:=by simpa using I0
   have DD:bF g w (es.flatten++(List.replicate k z).flatten) (vs++(Builtin.zeroCells zv.cells k).toList):=by
    refine bF.append a2 ?_
    have:=lr BI yA k
    simpa[Builtin.zeroCells,Ro]using this
   have eu:=grownCap_ge w (len+k) cap elem
   generalize grownCap w (len+k) cap elem=nc at cy eu
   have Rp:cB (es.flatten++(List.replicate k z).flatten):=fun t ht=>by
    rcases List.mem_append.1 ht with ht|ht
    ·exact a4 t ht
    ·exact jD CU k t ht
   have a9:(vs.toArray++Builtin.zeroCells zv.cells k++Builtin.zeroCells zv.cells (nc-(len+k))).size=nc*ei.size:=by
    simp only[Array.size_append,lg,List.size_toArray,a3,Ro]
    rw[←Nat.add_mul,←Nat.add_mul];congr 1;omega
   obtain⟨g',le,sr,fr,hφ⟩:=h.gS (c:=vs.toArray++Builtin.zeroCells zv.cells k++Builtin.zeroCells zv.cells (nc-(len+k))) (ty:=elem) (cs:=es.flatten++(List.replicate k z).flatten) (qn w) rfl (fun i t hi=>by
    obtain⟨v,b1,b2⟩:=DD.fZ i t hi
    refine⟨Rp t (List.mem_of_getElem? hi),v,?_,b2⟩
    rw[List.getElem?_toArray]at b1
    have aw:=(List.getElem?_eq_some_iff.1 b1).1
    have e:(vs.toArray++Builtin.zeroCells zv.cells k++Builtin.zeroCells zv.cells (nc-(len+k))).toList=(vs++(Builtin.zeroCells zv.cells k).toList)++(Builtin.zeroCells zv.cells (nc-(len+k))).toList:=by simp
    rw[←Array.getElem?_toList,e,List.getElem?_append_left aw];exact b1)
   refine⟨_,_,g',cy,le,sr,?_,fr⟩
   exact .ax (r:=w.heap.size) (o:=0) (off:=0) hφ eu (by rw[a9];simp)
  ·cases he
end
section
variable {P:Program} {w0 w:World} {g:Ctx} {H:af}
theorem sM {params results:Array TypeId}(tS e:TypeId)(hp:params[0]?=some tS)(ht:P.underlying tS=some (.slice e))(size:Nat)(hz:(Go.sizeOf e).run P w=.ok size w)
  (a b:Addr) (la ca lb cb:Nat) (bK:a.block≠b.block) (tA tB:TypeId) (kA kB:Nat)
  (Xe:w.shape? a.block=some (tA,kA)) (VU:w.shape? b.block=some (tB,kB)) (Xf:kB≠0)
  (hfa:w.frozen? a=false) (hfe:w.frozen? { block:=a.block,off:=kA }=false) :
  (Extern.SlicesOverlaps.overlaps params results #[.slice (some a) la ca,.slice (some b) lb cb]).run P w=.ok (.bool false) w:=by
 have VX:(a.block != b.block)=true:=by simpa using bK
 have Na:(a.block==b.block)=false:=by simpa using bK
 conv=>lhs;arg 2;whnf
 simp only[hp]
 by_cases h0:la=0∨lb=0∨size=0
 ·simp[run_underlying ht,hz,h0]
 ·cases kB with
  | zero=>exact absurd rfl Xf
  | succ kB =>
   simp[run_underlying ht,hz,h0,VX,Na,frozen,noView,viewAt,mayBeOne,stringish,shape,Sem.run,Xe,VU,hfa,hfe]
theorem uS {params results:Array TypeId}(tS e:TypeId)(hp:params[0]?=some tS)(ht:P.underlying tS=some (.slice e))(size:Nat)(hz:(Go.sizeOf e).run P w=.ok size w)
  (a b:Addr) (la ca lb cb:Nat) (bK:a.block=b.block) (hd:la≠0→lb≠0→size≠0→¬(a.off<b.off+lb*size∧b.off<a.off+la*size)) :
  (Extern.SlicesOverlaps.overlaps params results #[.slice (some a) la ca,.slice (some b) lb cb]).run P w=.ok (.bool false) w:=by
 have VX:(a.block != b.block)=false:=by simpa using bK
 have Na:(a.block==b.block)=true:=by simpa using bK
 conv=>lhs;arg 2;whnf
 simp only[hp]
 by_cases h0:la=0∨lb=0∨size=0
 ·simp[run_underlying ht,hz,h0]
 ·have h1:=hd (fun h=>h0 (.inl h)) (fun h=>h0 (.inr (.inl h))) (fun h=>h0 (.inr (.inr h)))
  simp[run_underlying ht,hz,h0,VX,Na]
  intro aw
  have:¬b.off<a.off+la*size:=fun h=>h1 ⟨aw,h⟩
  omega
theorem nP {params results:Array TypeId}(tS e:TypeId)(hp:params[0]?=some tS)(ht:P.underlying tS=some (.slice e))(size:Nat)(hz:(Go.sizeOf e).run P w=.ok size w)
  (a b:Addr) (la ca lb cb:Nat) (h0:la=0∨size=0) :
  (Extern.SlicesOverlaps.overlaps params results #[.slice (some a) la ca,.slice (some b) lb cb]).run P w=.ok (.bool false) w:=by
 have h0:la=0∨lb=0∨size=0:=by rcases h0 with h|h;exact .inl h;exact .inr (.inr h)
 conv=>lhs;arg 2;whnf
 simp only[hp]
 simp[run_underlying ht,hz,h0]
theorem wP {r j:Nat}(h:(w.cell? ⟨r,j,none⟩).isSome=true):∃t k,w.shape? r=some (t,k)∧k≠0:=by
 unfold World.cell? at h
 unfold World.shape?
 cases hr:w.heap[r]? with
 | none=>simp[hr]at h
 | some x =>
  cases x<;>simp[hr]at h ⊢
  rename_i c t f
  exact⟨_,_,⟨rfl,rfl⟩,by omega⟩
theorem Jd {params results:Array TypeId}{tS e:TypeId}{ei:TypeInfo}{x y t:T}{vx vy:Value}{H':af}(hp:params[0]?=some tS)(ht:P.underlying tS=some (.slice e))(hi:P.info? e=some ei)
  (h:SR w0 g H w) (hx:VR g w x vx) (hy:VR g w y vy) (he:Bj H ei.size x y=some (t,H')):b8 P w0 g H w (Extern.SlicesOverlaps.overlaps params results #[vx,vy]) t H':=by
 have hz:(Go.sizeOf e).run P w=.ok ei.size w:=by simp[sizeOf,bu hi]
 unfold Bj at he
 cases hx<;>(try (simp only[reduceCtorEq]at he;done))<;>(try (cases he;done))
 rename_i bv Je lv n1 r' o' q' uK kM iS Ri
 cases hy<;>(try (simp only[reduceCtorEq]at he;done))<;>(try (cases he;done))
 rename_i b off len n2 r o q c hφ hc hq
 cases VY:H[bv]? with
 | none=>simp[VY]at he
 | some zv =>
  cases hb:H[b]? with
  | none=>cases zv<;>simp[VY,hb]at he
  | some z =>
   cases zv<;>cases z<;>simp only[VY,hb]at he<;>(try (cases he;done))
   rename_i csv cs
   split at he
   ·rename_i uR
    obtain⟨bK,rfl,Jf,Nb⟩:=uR
    simp only[Option.some.injEq,Prod.mk.injEq]at he
    obtain⟨rfl,rfl⟩:=he
    subst Jf
    obtain⟨a1,a2,a3⟩:=h.eg _ _ VY r' o' q' kM
    obtain⟨b1,b2,b3⟩:=h.eg _ _ hb r o q hφ
    by_cases hr:r'=r
    ·subst hr
     refine b8.same h (uS tS e hp ht _ hz _ _ _ _ _ _ rfl fun hl hl2 hs hh=>?_) (.bool _)
     obtain⟨h1,h2⟩:=hh
     simp only at h1 h2
     have m1:lv*ei.size≤uK*ei.size:=Nat.mul_le_mul_right _ iS
     have m2:len*ei.size≤c*ei.size:=Nat.mul_le_mul_right _ hc
     have p1:0<lv*ei.size:=Nat.mul_pos (by omega) (by omega)
     have p2:0<len*ei.size:=Nat.mul_pos (by omega) (by omega)
     have k1:=(a2 (max (o'+Je) (o+off)) (by omega) (by omega)).1
     have k2:=(b2 (max (o'+Je) (o+off)) (by omega) (by omega)).1
     rw[k1]at k2;cases k2;exact bK rfl
    ·by_cases Nc:lv=0
     ·subst Nc
      refine b8.same h ?_ (.bool _)
      exact nP tS e hp ht _ hz _ _ _ _ _ _ (.inl rfl)
     ·by_cases hs:ei.size=0
      ·refine b8.same h ?_ (.bool _)
       exact nP tS e hp ht _ hz _ _ _ _ _ _ (.inr hs)
      ·have m1:lv*ei.size≤uK*ei.size:=Nat.mul_le_mul_right _ iS
       have p1:0<lv*ei.size:=Nat.mul_pos (by omega) (by omega)
       have sL:=a2 (o'+Je) (by omega) (by omega)
       have hcb:=b2 o (Nat.le_refl _) (by omega)
       have iJ:w0.heap.size≤r':=by
        rcases Nat.lt_or_ge r' w0.heap.size with aw|eu
        ·have:=h.Bv r' (o'+Je) aw;rw[sL.1]at this;cases this
        ·exact eu
       obtain⟨tA,kA,Xe,_⟩:=wP sL.2.2
       obtain⟨tB,kB,VU,Xf⟩:=wP hcb.2.2
       exact b8.same h (sM tS e hp ht _ hz _ _ _ _ _ _ hr tA tB kA kB Xe VU Xf (h.qa r' _ iJ) (h.qa r' _ iJ)) (.bool _)
   ·cases he
end
end Go.Rmp
end

section
namespace Go.Rmp
open Go.ChangeMaps (setBlock)
section
variable {P:Program} {w0 w:World} {g:Ctx} {H:af}
theorem SR.Rq {w':World}(h:SR w0 g H w)(tr:Tr w w' gG iU)(hz:w'.heap.size=w.heap.size):SR w0 g H w'∧Le g w g w':=by
 have le:Le g w g w':=Le.gZ tr (fun _ _ h=>h) (fun _ _ h=>h) (fun _ _ _ h=>h) (fun _ _ hs=>hs.elim)
 refine⟨?_,le⟩
 exact h.step (fun _=>False) tr le (fun _ _ hs=>hs.elim) (fun _ hm=>hm.elim) (fun r o hr=>h.fresh r o (by omega)) h.sH h.jj (fun _ _ _=>rfl) (fun _ _ _ _=>⟨id,id⟩) (fun _ _ _ _=>rfl) (fun b x hx=>.inl ⟨id,hx⟩)
theorem Nd {b:Nat}{vm:Value}{es:List (T×T)}(h:SR w0 g H w)(hm:VR g w (.map b) vm)(iE:gE H (.map b)=some es) :
  ∃r o q,vm=.map (some r)∧g.φ b=some (r,o,q)∧g.κ r 0=.mut b∧b<H.length∧∃aA clock,w.heap[r]?=some (.map aA clock)∧eo g w es aA∧fv aA clock:=by
 cases hm with
 | @map _ r o q hφ =>
  simp only[gE]at iE
  cases hb:H[b]? with
  | none=>simp[hb]at iE
  | some y =>
   have kE:=(List.getElem?_eq_some_iff.1 hb).1
   cases y<;>simp[hb]at iE
   ·subst iE
    obtain⟨h1,aA,c,h2,h3,h4⟩:=h.eg b _ hb r o q hφ
    exact⟨r,o,q,rfl,hφ,h1,kE,aA,c,h2,h3,h4⟩
   ·subst iE
    obtain⟨r2,o',q',kM,h1,aA,c,h2,h3,h4,_⟩:=h.eg b _ hb
    rw[hφ]at kM;cases kM
    exact⟨r,o,q,rfl,hφ,h1,kE,aA,c,h2,h3,h4⟩
theorem Jg {ty key elem:TypeId}{b:Nat}{vm:Value}{es:List (T×T)}(hu:P.underlying ty=some (.map key elem))(h:SR w0 g H w)(hm:VR g w (.map b) vm)(iE:gE H (.map b)=some es) :
  b8 P w0 g H w (Instr.range ty vm) (.ptr H.length 0) (H.set b (.cT es (List.range es.length) H.length none)++[.uE b]):=by
 obtain⟨r,o,q,rfl,hφ,hk,kE,aA,c,h2,h3,h4⟩:=Nd h hm iE
 have Xg:fw (.mapIter (some r) c #[] c)=true:=rfl
 have wI:=Tr.alloc w (.mapIter (some r) c #[] c) (.inl Xg)
 have bK:∀r j ow,g.κ r j=ow→ow≠.free→r≠w.heap.size:=by rintro r j ow e hn rfl;exact hn (e▸h.fresh _ j (Nat.le_refl _))
 have Xh:=h.IU (b:=H.length) (Nat.le_refl _)
 have Xi:=bK r 0 _ hk (by simp)
 have le:Le g w ((g.row w.heap.size fun _=>.mut b).at H.length (w.heap.size,0,0)) (w.alloc (.mapIter (some r) c #[] c)):=Le.gZ wI
  (fun b' x hx=>by simp only[Ctx.at,Ctx.row];split;rename_i e;subst e;rw[Xh]at hx;simp at hx;exact hx)
  (fun r o hk=>by simp only[Ctx.row,Ctx.at];rw[if_neg (bK r o _ hk (by simp))];exact hk) (fun _ _ _ h=>h) (fun _ _ hs=>hs.elim)
 have aw:r<w.heap.size:=(Array.getElem?_eq_some_iff.1 h2).1
 refine⟨_,_,_,by simp[Instr.range,run_underlying hu,getObj,Sem.run,h2,newObj],le,?_,.ptr (r:=w.heap.size) (o:=0) (q:=0) (by simp[Ctx.at]),by simp,fun b' x a _ d=>?_⟩
 ·refine h.step (fun b'=>b'=b∨b'=H.length) wI le (fun _ _ hs=>hs.elim) (fun _ hm=>hm.elim) (fun r o hr=>?_) (fun b' x hx=>?_) (fun t e x hx=>by have:=h.jj t e x hx;simp;omega) (fun b' _ jt=>?_) (fun r j b' jt=>?_) (fun _ _ _ _=>rfl) (fun b' x hx=>?_)
  ·simp at hr
   simp only[Ctx.row,Ctx.at];rw[if_neg (by omega)];exact h.fresh r o (by omega)
  ·simp only[Ctx.at,Ctx.row]at hx
   split at hx
   ·rename_i e;subst e;simp
   ·have:=h.sH b' x hx;simp;omega
  ·simp only[Ctx.at,Ctx.row];rw[if_neg (fun e=>jt (.inr e))]
  ·constructor<;>intro e<;>simp only[Ctx.row,Ctx.at]<;>rw[if_neg (bK r j _ e (by simp))]<;>exact e
  ·by_cases e:b'=H.length
   ·subst e
    rw[List.getElem?_append_right (by simp)]at hx
    simp at hx;subst hx
    exact .inr trivial
   ·have jt:b'<H.length:=by
     have:=(List.getElem?_eq_some_iff.1 hx).1
     simp at this;omega
    rw[List.getElem?_append_left (by simpa using jt)]at hx
    rcases eE kE hx with⟨rfl,rfl⟩|⟨hn,jk⟩
    ·refine .inr ⟨r,o,q,le.φ _ _ hφ,by simp only[Ctx.row,Ctx.at];rw[if_neg Xi];exact hk,aA,c,?_,h3.mono le,h4,w.heap.size,0,#[],by simp[Ctx.at],by simp[Ctx.row,Ctx.at],World.alloc_heap_new w _,List.nodup_range,fun i=>?_,fun c hc=>by cases hc⟩
     ·show(w.heap.push _)[r]?=_
      rw[Array.getElem?_push,if_neg (by omega)];exact h2
     ·rw[List.mem_range,←h3.1]
      exact⟨fun hi=>⟨aA[i],Array.getElem?_eq_getElem hi,by simp⟩,fun ⟨m,hm,_⟩=>(Array.getElem?_eq_some_iff.1 hm).1⟩
    ·exact .inl ⟨fun hh=>hh.elim hn e,jk⟩
 ·have hl:=(List.getElem?_eq_some_iff.1 a).1
  refine⟨?_,by simp only[Ctx.at,Ctx.row];rw[if_neg (by omega)];exact d⟩
  rw[List.getElem?_append_left (by simpa using hl)]
  exact fy a (by rintro rfl;rw[hφ]at d;cases d)
theorem Jh {ty:TypeId}{b bi:Nat}{v:Value}{es:List (T×T)}{ix:List Nat}{cur:Option Nat}(h:SR w0 g H w)(hx:VR g w (.ptr bi 0) v)(hb:H[b]?=some (.cT es ix bi cur)) :
  ∃t H',nE H b bi es ix t H'∧b8 P w0 g H w (Instr.next v false ty) t H':=by
 have kE:b<H.length:=(List.getElem?_eq_some_iff.1 hb).1
 obtain⟨r,o,q,hφ,h1,aA,c,h2,h3,h4,ri,q',seen,h5,h6,h7,h8,h9,aF⟩:=h.eg b _ hb
 cases hx with
 | @ptr _ _ r2 o2 q2 zS =>
  rw[h5]at zS;cases zS
  have au:∀y,Fr g H g (H.set b y):=fun y=>⟨by simp,fun b' x a _ d=>⟨fy a (by rintro rfl;rw[hφ]at d;cases d),d⟩⟩
  rcases run_next_at (P:=P) w ty ri r c c seen aA c h7 h2 h4.1 (Nat.le_refl _)with⟨hz,cy⟩|⟨e,he,w1,Qp,cy⟩
  ·have wG:ix=[]:=by
    refine List.eq_nil_iff_forall_not_mem.2 fun i hi=>?_
    obtain⟨m,hm,hn⟩:=(h9 i).1 hi
    have:m∈leftOf aA seen:=by
     simp only[leftOf,Array.mem_filter]
     exact⟨Array.mem_of_getElem? hm,by simpa using hn⟩
    rw[Array.eq_empty_of_size_eq_zero hz]at this
    simp at this
   refine⟨_,_,.inl ⟨wG,rfl,rfl⟩,.tuple #[.bool false],w,g,by simpa using cy,.refl _ _,?_,.bJ rfl (fun i t v a b=>?_),au _⟩
   ·refine h.step (fun b'=>b'=b) (Tr.refl w) (.refl _ _) (fun _ _ hs=>hs.elim) (fun _ hm=>hm.elim) h.fresh (fun b' x hx=>by rw[List.length_set];exact h.sH b' x hx) (fun t e x hx=>by rw[List.length_set];exact h.jj t e x hx) (fun _ _ _=>rfl) (fun _ _ _ _=>⟨id,id⟩) (fun _ _ _ _=>rfl) (fun b' x hx=>?_)
    rcases eE kE hx with⟨rfl,rfl⟩|⟨hn,jk⟩
    ·refine .inr fun r' o' q' kM=>?_
     rw[hφ]at kM;cases kM
     exact⟨h1,aA,c,h2,h3,h4⟩
    ·exact .inl ⟨hn,jk⟩
   ·cases i with
    | zero=>simp at a b;subst a;subst b;exact .bool _
    | succ i=>simp at a
  ·have DI:e∈aA∧e.born∉seen:=by
    have:e∈leftOf aA seen:=by simpa using he
    simp only[leftOf,Array.mem_filter]at this
    exact⟨this.1,by simpa using this.2⟩
   obtain⟨i,hi,sN⟩:=Array.getElem_of_mem DI.1
   have lu:aA[i]?=some e:=by rw[Array.getElem?_eq_getElem hi,sN]
   have lx:i<es.length:=by rw[←h3.1];exact hi
   have wG:i∈ix:=(h9 i).2 ⟨e,lu,DI.2⟩
   have fP:=h3.2 i es[i] e (List.getElem?_eq_getElem lx) lu
   have trd:Tr w w1 gG iU:=by rcases Qp with rfl|rfl;exact Tr.refl _;exact Tr.drew _
   obtain⟨Nf,fm⟩:=h.Rq trd (by rcases Qp with rfl|rfl<;>rfl)
   have VZ:w1.heap[ri]?=some (.mapIter (some r) c seen c):=by rcases Qp with rfl|rfl<;>exact h7
   have Ji:w1.heap[r]?=some (.map aA c):=by rcases Qp with rfl|rfl<;>exact h2
   have tr:Tr w1 (World.cf w1 ri (.mapIter (some r) c (seen.push e.born) c)) gG (fun r'=>r'=ri):=Tr.yx w1 ri rfl rfl VZ
   have le:Le g w1 g (World.cf w1 ri (.mapIter (some r) c (seen.push e.born) c)):=Le.gZ tr (fun _ _ h=>h) (fun _ _ h=>h) (fun _ _ _ h=>h) (fun _ _ hs=>hs.elim)
   have hrr:r≠ri:=by rintro rfl;rw[Ji]at VZ;cases VZ
   refine⟨_,_,.inr ⟨i,es[i],wG,List.getElem?_eq_getElem lx,rfl,rfl⟩,.tuple #[.bool true,e.key,e.val],_,g,by simpa[setBlock,World.cf]using cy,fm.trans le,?_,.bJ rfl (fun i t v a b=>?_),au _⟩
   ·show SR w0 g _ (World.cf w1 ri (.mapIter (some r) c (seen.push e.born) c))
    refine Nf.step (fun b'=>b'=b) tr le (fun _ _ hs=>hs.elim) (fun r' hm=>⟨b,by rw[hm];exact h6,rfl⟩) (fun r' j oJ=>Nf.fresh r' j (by simpa[World.cf]using oJ)) (fun b' x hx=>by rw[List.length_set];exact h.sH b' x hx) (fun t e x hx=>by rw[List.length_set];exact h.jj t e x hx) (fun _ _ _=>rfl) (fun _ _ _ _=>⟨id,id⟩) (fun _ _ _ _=>rfl) (fun b' x hx=>?_)
    rcases eE kE hx with⟨rfl,rfl⟩|⟨hn,jk⟩
    ·refine .inr ⟨r,o,q,hφ,h1,aA,c,?_,h3.mono (fm.trans le),h4,ri,q',seen.push e.born,h5,h6,qL _ _ (Array.getElem?_eq_some_iff.1 VZ).1,h8.erase _,fun j=>?_,fun c' iS=>?_⟩
     ·rw[qK _ _ hrr];exact Ji
     ·rw[h8.mem_erase_iff,h9 j]
      constructor
      ·rintro⟨Rt,m,hm,hn⟩
       refine⟨m,hm,fun iW=>?_⟩
       rcases Array.mem_push.1 iW with iW|iW
       ·exact hn iW
       ·apply Rt
        have hj:=(Array.getElem?_eq_some_iff.1 hm).1
        have fz:=h4.2
        have e1:(aA.toList.map (·.born))[j]?=some m.born:=by simp[hm]
        have e2:(aA.toList.map (·.born))[i]?=some m.born:=by simp[lu,iW]
        have Qq:j<(aA.toList.map (·.born)).length:=by simpa using hj
        exact(List.getElem?_inj Qq fz).1 (e1.trans e2.symm)
      ·rintro⟨m,hm,hn⟩
       refine⟨fun Rt=>?_,m,hm,fun iW=>hn (Array.mem_push.2 (.inl iW))⟩
       subst Rt
       rw[lu]at hm;cases hm
       exact hn (Array.mem_push.2 (.inr rfl))
     ·cases iS
      exact⟨e,lu,by simp⟩
    ·exact .inl ⟨hn,jk⟩
   ·have MY:=fP.1.mono (fm.trans le)
    have MZ:=fP.2.mono (fm.trans le)
    match i,a,b with
    | 0,a,b=>simp at a b;subst a;subst b;exact .bool _
    | 1,a,b=>simp at a b;subst a;subst b;exact MY
    | 2,a,b=>simp at a b;subst a;subst b;exact MZ
    | i+3,a,b=>simp at a
theorem Jj {b bi c:Nat}{v:Value}{es:List (T×T)}{ix:List Nat}{e:T×T}(h:SR w0 g H w)(hx:VR g w (.ptr bi 0) v)(hb:H[b]?=some (.cT es ix bi (some c)))(he:es[c]?=some e) :
  b8 P w0 g H w (Instr.entry v) (.bJ [e.1,e.2]) H:=by
 obtain⟨r,o,q,hφ,h1,aA,cl,h2,h3,h4,ri,q',seen,h5,h6,h7,h8,h9,aF⟩:=h.eg b _ hb
 cases hx with
 | @ptr _ _ r2 o2 q2 zS =>
  rw[h5]at zS;cases zS
  obtain⟨m,hm,hs⟩:=aF c rfl
  have fP:=h3.2 c e m he hm
  have Xj:m∈aA.toList:=by have:=Array.mem_of_getElem? hm;simpa using this
  have hf:aA.find? (·.born==m.born)=some m:=by rw[←Array.find?_toList];exact find_born m aA.toList h4.2 Xj
  refine b8.same h (v:=.tuple #[m.key,m.val]) ?_ (.bJ rfl fun i t v a b=>?_)
  ·simp[Instr.entry,getObj,Sem.run,h7,h2,hs,hf]
  ·match i,a,b with
   | 0,a,b=>simp at a b;subst a;subst b;exact fP.1
   | 1,a,b=>simp at a b;subst a;subst b;exact fP.2
   | i+2,a,b=>simp at a
theorem Jk {ty rt elem:TypeId}{ei:TypeInfo}{zv:Value}{z:List T}{v:Value}{b off len:Nat}{cs:List T}(hu:P.underlying ty=some (.slice elem))(hi:P.info? elem=some ei)(hz:ei.zero=some zv)(DE:ff zv.cells.toList=some z)
  (h:SR w0 g H w) (hx:VR g w (.ax b off len ei.size) v) (hb:H[b]?=some (.cells cs)) (wO:z.length=ei.size) (hle:off+len*ei.size≤cs.length) :
  b8 P w0 g H w (Builtin.clear_ #[ty] rt #[v]) (.bJ []) (H.set b (.cells (cs.take off++(List.replicate len z).flatten++cs.drop (off+len*ei.size)))):=by
 cases hx with
 | @ax _ _ _ _ r o q cap hφ hc hq =>
  obtain⟨h1,h2,h3⟩:=h.eg b _ hb r o q hφ
  obtain⟨BI,CU⟩:=dL (g:=g) (w:=w) _ _ DE
  have fP:=lr BI wO len
  have Qr:=jD CU len
  have hlen:(List.replicate len z).flatten.length=len*ei.size:=by simp[List.length_flatten,wO]
  have I0:zv.cells.size=ei.size:=by have:=BI.1;simp at this;omega
  have Ng:bF g w (List.replicate len z).flatten (Builtin.zeroCells zv.cells len).toList:=by
   simpa[Builtin.zeroCells,I0]using fP
  obtain⟨le,sr⟩:=h.store hb hφ (by rw[hlen];exact hle) Ng Qr
  rw[hlen]at sr
  refine⟨.tuple #[],_,g,?_,le,sr,.bJ rfl (by simp),by simp,fun b' y' a _ d=>⟨fy a (by rintro rfl;rw[hφ]at d;cases d),d⟩⟩
  have hl:=Ng.1
  rw[hlen]at hl
  cases len with
  | zero =>
   have e:(Builtin.zeroCells zv.cells 0).toList=[]:=List.eq_nil_of_length_eq_zero (by rw[←hl];simp)
   rw[e]
   simp[Builtin.clear_,run_underlying hu,World.setCells]
  | succ len =>
   have cy:=run_storeCells_cells (P:=P) r (o+off) (Builtin.zeroCells zv.cells (len+1)).toList 0 w (fun j hj=>(h2 _ (by omega) (by omega)).2.2) (fun j hj=>(h2 _ (by omega) (by omega)).2.1) (Ng.iR Qr)
   have V0:(zeroValue elem).run P w=.ok zv w:=by simp[zeroValue,bu hi,hz]
   simp only[Nat.add_zero]at cy
   simp[Builtin.clear_,run_underlying hu,V0,cy]
theorem SR.shrink {b:Nat}{cs:List T}(k:Nat)(h:SR w0 g H w)(hb:H[b]?=some (.cells cs))(hφ:∃x,g.φ b=some x):SR w0 g (H.set b (.cells (cs.take k))) w∧Fr g H g (H.set b (.cells (cs.take k))):=by
 have kE:b<H.length:=(List.getElem?_eq_some_iff.1 hb).1
 obtain⟨y,hy⟩:=hφ
 refine⟨?_,by simp,fun b' x a _ d=>⟨fy a (by rintro rfl;rw[hy]at d;cases d),d⟩⟩
 refine h.step (fun b'=>b'=b) (Tr.refl w) (.refl _ _) (fun _ _ hs=>hs.elim) (fun _ hm=>hm.elim) h.fresh (fun b' x hx=>by rw[List.length_set];exact h.sH b' x hx) (fun t e x hx=>by rw[List.length_set];exact h.jj t e x hx) (fun _ _ _=>rfl) (fun _ _ _ _=>⟨id,id⟩) (fun _ _ _ _=>rfl) (fun b' x hx=>?_)
 rcases eE kE hx with⟨rfl,rfl⟩|⟨hn,jk⟩
 ·refine .inr fun r o q hφ=>?_
  obtain⟨h1,h2,h3⟩:=h.eg b' _ hb r o q hφ
  refine⟨by simp;omega,h2,fun i t hi=>h3 i t ?_⟩
  rw[List.getElem?_take]at hi
  split at hi
  ·exact hi
  ·cases hi
 ·exact .inl ⟨hn,jk⟩
end
end Go.Rmp
end

section
namespace Go.Rmp
def aP:Operand→Option X
 | .tmp t=>some (.r t)
 | .const v=>(mW v).map .c
 | .func f=>some (.c (.fn f []))
 | .global _=>none
def fQ:List Operand→Option (List X)
 | []=>some []
 | x :: xs=>match aP x,fQ xs with
  | some y,some ys=>some (y :: ys)
  | _,_=>none
def jU:Option Operand→Option (Option X)
 | none=>some none
 | some x=>(aP x).map some
def mZ:List (Nat×Operand)→Option (List (Nat×X))
 | []=>some []
 | (i,x) :: xs=>match aP x,mZ xs with
  | some y,some ys=>some ((i,y) :: ys)
  | _,_=>none
def ty1:TypeDesc→Option vW
 | .int _=>some .int
 | .string=>some .str
 | .bool=>some .bool
 | _=>none
def kinds (P:Program):List Field→Option (List vW)
 | []=>some []
 | f :: fs=>match (P.underlying f.type).bind ty1,kinds P fs with
  | some k,some ks=>some (k :: ks)
  | _,_=>none
def uT (P:Program)(ty:TypeId):Option KT :=
 match P.underlying ty with
 | some (.struct fs)=>(kinds P fs.toList).map .st
 | some d=>(ty1 d).map .sc
 | none=>none
def zeroOf (P:Program)(ty:TypeId):Option (List T) :=
 match P.info? ty with
 | some i=>match i.zero with
  | some zv=>ff zv.cells.toList
  | none=>none
 | none=>none
def isEq:BinOp→Option Bool
 | .eql=>some false
 | .neq=>some true
 | _=>none
def cls:TypeDesc→Option Iv
 | .pointer _=>some .ptr
 | .slice _=>some .slice
 | .map _ _=>some .map
 | .func _ _ _=>some .func
 | _=>none
def DJ (P:Program)(op:BinOp)(ty:TypeId)(x y:X):Option Bo :=
 match P.underlying ty with
 | some (.int _)|some .string=>some (.bin op x y)
 | some .bool=>(isEq op).map fun n=>.beq n x y
 | some (.struct fs)=>match isEq op,kinds P fs.toList with
  | some n,some ks=>if flat P fs.toList 0 ks&&!P.stoodInHeld ty&&!P.eqGuardType P.depth ty then some (.eqs n ks x y)else none
  | _,_=>none
 | some d=>match isEq op,cls d with
  | some n,some c=>some (.mU n c x y)
  | _,_=>none
 | none=>none
def ti (P:Program)(ty:TypeId)(x:X):Option Bo :=
 match P.underlying ty,P.info? ty with
 | some d,some i=>some (.ld (if et d then i.size else 1) (et d) x)
 | _,_=>none
def m3 (P:Program)(ty:TypeId)(x:X)(f:Nat)(ad:Bool):Option Bo :=
 match P.underlying ty with
 | some (.struct fs)=>match fs[f]? with
  | some f=>match P.underlying f.type,P.info? f.type with
   | some d,some i=>if ad then(if i.size=0 then none else some (.kT f.offset x))else some (.QT f.offset i.size (et d) x)
   | _,_=>none
  | none=>none
 | _=>none
def yC (P:Program)(ty:TypeId)(x i:X)(ad:Bool):Option Bo :=
 match P.underlying ty,ad with
 | some (.slice e),true=>(P.info? e).map fun ei=>.eI ei.size x i
 | some (.array n e),true=>(P.info? e).map fun ei=>.MH n ei.size x i
 | some .string,false=>some (.QU x i)
 | some (.array n e),false=>match P.info? e,P.underlying e with
  | some ei,some d=>some (.VT n ei.size (et d) x i)
  | _,_=>none
 | _,_=>none
def oY (P:Program)(ty:TypeId)(x:X)(lo hi mx:Option X):Option Bo :=
 match P.underlying ty with
 | some .string=>if mx.isSome then none else some (.QV x lo hi)
 | some (.slice e)=>match P.info? e with
  | some ei=>if mx.isSome&&hi.isNone then none else some (.fX ei.size x lo hi mx)
  | none=>none
 | _=>none
def tj (P:Program)(src dst:TypeId)(x:X):Option Bo :=
 match P.underlying src,P.underlying dst with
 | some (.int _),some (.int k)=>some (.iC k x)
 | some .string,some .string=>none
 | some (.slice e),some .string=>match P.underlying e with
  | some (.int .u8)=>some (.uC x)
  | _=>none
 | _,_=>none
def DK:TypeDesc→Bool
 | .int _=>false
 | _=>true
def lU (P:Program)(mu:Bool)(iT:List TypeId)(as:List X):Option Bo :=
 match iT,as with
 | [sT,xT],[x,y]=>match P.underlying sT,P.underlying xT with
  | some (.slice e),some d=>match P.info? e with
   | some ei=>match ei.zero with
    | some zv=>if DK d&&zv.cells.size==ei.size&&ei.bytes != 0 then some (.app ei.size ei.bytes mu x y)else none
    | none=>none
   | none=>none
  | _,_=>none
 | _,_=>none
def wQ (P:Program)(iT:List TypeId)(as:List X):Option Bo :=
 match iT,as with
 | [sT,xT],[x,k]=>match P.underlying sT,P.underlying xT with
  | some (.slice e),some (.int _)=>match P.info? e,zeroOf P e with
   | some ei,some z=>if ei.bytes != 0 then some (.QW ei.size ei.bytes z x k)else none
   | _,_=>none
  | _,_=>none
 | _,_=>none
def jE (P:Program)(mu:Bool)(b:Builtin)(iT:List TypeId)(as:List X):Option Bo :=
 match b,iT,as with
 | .append,iT,as=>match wQ P iT as with
  | some b=>some b
  | none=>lU P mu iT as
 | .cap,[t],[x]=>match P.underlying t with
  | some (.slice _)=>some (.cap x)
  | _=>none
 | .copy,[dT,_],[x,y]=>match P.underlying dT with
  | some (.slice e)=>(P.info? e).map fun ei=>.Bg ei.size x y
  | _=>none
 | .len,[t],[x]=>match P.underlying t with
  | some .string=>some (.len .str x)
  | some (.slice _)=>some (.len .sl x)
  | some (.map _ _)=>some (.len .map x)
  | _=>none
 | .clear,[t],[x]=>match P.underlying t with
  | some (.slice e)=>match P.info? e,zeroOf P e with
   | some ei,some z=>some (.Qf ei.size z x)
   | _,_=>none
  | _=>none
 | .min,_,[x,y]=>some (.mn x y)
 | .max,_,[x,y]=>some (.mx x y)
 | .delete,[t,_],[m,k]=>match P.underlying t with
  | some (.map key _)=>match uT P key with
   | some kt=>if mX P key kt then some (.del kt m k)else none
   | none=>none
  | _=>none
 | _,_,_=>none
def yD (P:Program)(ty:TypeId)(m k:X):Option (Nat×KT×T) :=
 match P.underlying ty with
 | some (.map key e)=>match uT P key,P.info? e with
  | some kt,some ei=>match ei.zero with
   | some zv=>match mW zv with
    | some z=>if mX P key kt then some (e,kt,z)else none
    | none=>none
   | none=>none
  | _,_=>none
 | _=>none
def wR (P:Program)(fs:List Field):Bool:=fs.all fun f=>(P.info? f.type).isSome
def oZ (P:Program)(ty:TypeId)(ps:List (Nat×X)):Option Bo :=
 match P.underlying ty,zeroOf P ty with
 | some (.struct fs),some z=>if wR P fs.toList&&ps.all (fun p=>p.1<fs.size)then
   some (.build z (ps.map fun p=>((((placesOf P fs.toList)[p.1]?).getD (0,0)).1,(((placesOf P fs.toList)[p.1]?).getD (0,0)).2,p.2)))else none
 | _,_=>none
def BL (P:Program)(mu:Bool)(ty:TypeId)(n:Nat)(ps:List (Nat×X)):Option Bo :=
 match P.underlying ty with
 | some (.slice e)=>match P.info? e,zeroOf P e with
  | some ei,some z=>if z.length==ei.size&&decide (n*ei.size≤16777216)then some (if mu then .MK n z ps else .oI n z ps)else none
  | _,_=>none
 | _=>none
def BM (P:Program)(mu:Bool)(ty:TypeId)(l c:X):Option Bo :=
 match P.underlying ty with
 | some (.slice e)=>match P.info? e,zeroOf P e with
  | some ei,some z=>if z.length==ei.size&&ei.size != 0 then some (.WW mu ei.bytes z l c)else none
  | _,_=>none
 | _=>none
def Ly (n:String):Bool:=(Extern.allGenericRows.lookup n).isNone&&(Extern.allTypedRows.lookup n).isNone&&(Extern.allRows.lookup n).isNone
def zT (P:Program)(f:FuncId):Option Nat :=
 match P.funcs[f]? with
 | some fn=>match fn.params[0]? with
  | some t=>match P.underlying t with
   | some (.slice e)=>match P.info? e with
    | some ei=>if fn.name != "runtime.NumGoroutine"&&fn.body.isNone&&(Extern.findNext fn).isNone&&fn.origin=="slices.overlaps"&&Ly fn.name then some ei.size else none
    | none=>none
   | _=>none
  | none=>none
 | none=>none
def bG (P:Program)(mu:Bool):Op→Option Bo
 | .move x | .assign x=>(aP x).map .ay
 | .pick c a b=>match aP c,aP a,aP b with
  | some c,some a,some b=>some (.pick c a b)
  | _,_,_=>none
 | .binOp op ty x y _=>match aP x,aP y with
  | some x,some y=>DJ P op ty x y
  | _,_=>none
 | .unOp op _ x=>(aP x).map (.un op)
 | .convert s d x=>(aP x).bind (tj P s d)
 | .alloc ty=>(zeroOf P ty).map .alloc
 | .box _ x=>(aP x).map .box
 | .build ty ps=>(mZ ps.toList).bind (oZ P ty)
 | .buildSlice ty n ps=>(mZ ps.toList).bind (BL P mu ty n)
 | .load ty x=>(aP x).bind (ti P ty)
 | .store ty a v=>match P.info? ty,aP a,aP v with
  | some i,some a,some v=>some (.st i.size a v)
  | _,_,_=>none
 | .fieldAddr ty x f=>(aP x).bind fun x=>m3 P ty x f true
 | .field ty x f=>(aP x).bind fun x=>m3 P ty x f false
 | .indexAddr ty x i=>match aP x,aP i with
  | some x,some i=>yC P ty x i true
  | _,_=>none
 | .index ty x i=>match aP x,aP i with
  | some x,some i=>yC P ty x i false
  | _,_=>none
 | .slice ty x lo hi mx=>match aP x,jU lo,jU hi,jU mx with
  | some x,some lo,some hi,some mx=>oY P ty x lo hi mx
  | _,_,_,_=>none
 | .makeMap _ none=>some .zC
 | .lookup ty m k ok=>match aP m,aP k with
  | some m,some k=>(yD P ty m k).map fun (_,kt,z)=>.nB kt z ok m k
  | _,_=>none
 | .mapUpdate ty m k v | .insert ty m k v=>match aP m,aP k,aP v with
  | some m,some k,some v=>(yD P ty m k).map fun (_,kt,_)=>.zD kt m k v
  | _,_,_=>none
 | .makeSlice ty l c=>match aP l,aP c with
  | some l,some c=>BM P mu ty l c
  | _,_=>none
 | .makeFunc (.func f) first kS=>if first.size=0 then(fQ kS.toList).map (.Iw f)else none
 | .extract x i=>(aP x).map (.ext i)
 | .nilCheck x=>(aP x).map .uD
 | .range ty m=>match P.underlying ty with
  | some (.map _ _)=>(aP m).map .MI
  | _=>none
 | .next it false=>(aP it).map .qh
 | .entry it=>(aP it).map .MJ
 | .call { callee:=.value (.func f),args,.. }=>match zT P f,fQ args.toList with
  | some n,some [x,y]=>some (.Qe n x y)
  | _,_=>none
 | .call { callee:=.builtin b,args,argTypes }=>(fQ args.toList).bind (jE P mu b argTypes.toList)
 | _=>none
def Jl (P:Program)(w0:World)(g:Ctx)(H:af)(w:World)(s:Sem Next)(t:T)(H':af):Prop :=
 ∃nx v w' g',s.run P w=.ok nx w'∧(nx=.value v∨(nx=.skip∧v=undef))∧Le g w g' w'∧SR w0 g' H' w'∧VR g' w' t v∧Fr g H g' H'
theorem b8.ny {P:Program}{w0 w:World}{g:Ctx}{H H':af}{s:Sem Value}{t:T}(h:b8 P w0 g H w s t H'):Jl P w0 g H w (do pure (.value (←s))) t H':=by
 obtain⟨v,w',g',h1,h2⟩:=h
 exact⟨.value v,v,w',g',by simp[h1],.inl rfl,h2⟩
theorem hO {g:Ctx}{w:World}:VR g w b0 undef:=.bJ rfl (by simp)
section
variable {P:Program} {w0 w:World} {g:Ctx} {H:af} {R:av} {ρ:Operand→Value}
def RV (g:Ctx)(w:World)(R:av)(ρ:Operand→Value)(xs:List Operand):Prop:=∀x∈xs,∀y,aP x=some y→VR g w (y.ev R) (ρ x)
theorem fR:∀(xs:List Operand) (ys:List X),fQ xs=some ys→RV g w R ρ xs→bF g w (ys.map (X.ev R)) (xs.map ρ)
 | [],ys,h,_=>by simp[fQ]at h;subst h;exact bF.nil
 | x :: xs,ys,h,hv=>by
  simp only[fQ]at h
  cases h1:aP x with
  | none=>simp[h1]at h
  | some y =>
   cases h2:fQ xs with
   | none=>simp[h1,h2]at h
   | some ys' =>
    simp[h1,h2]at h;subst h
    exact bF.cons (hv x (by simp) y h1) (fR xs ys' h2 (fun z hz=>hv z (by simp[hz])))
theorem o3:∀(ps:List (Nat×Operand)) (qs:List (Nat×X)),mZ ps=some qs→RV g w R ρ (ps.map (·.2))→PV g w R qs (ps.map fun p=>(p.1,ρ p.2))
 | [],qs,h,_=>by simp[mZ]at h;subst h;exact .nil
 | (i,x) :: ps,qs,h,hv=>by
  simp only[mZ]at h
  cases h1:aP x with
  | none=>simp[h1]at h
  | some y =>
   cases h2:mZ ps with
   | none=>simp[h1,h2]at h
   | some qs' =>
    simp[h1,h2]at h;subst h
    exact .cons (hv x (by simp) y h1) (o3 ps qs' h2 (fun z hz=>hv z (by simp at hz ⊢;exact .inr hz)))
end
section
variable {P:Program} {w0 w:World} {g:Ctx} {H H':af} {R:av} {ρ:Operand→Value} {t:T}
theorem Jm {op:BinOp}{ty:TypeId}{ox oy:Operand}{x y:X}{b:Bo}(hc:DJ P op ty x y=some b)(h:SR w0 g H w)(hx:VR g w (x.ev R) (ρ ox))(hy:VR g w (y.ev R) (ρ oy))(he:ar R H b=some (t,H')) :
  Jl P w0 g H w (do pure (Next.value (←(do eqGuard op ty ox oy (ρ ox) (ρ oy);binOp op ty (ρ ox) (ρ oy))))) t H':=by
 refine b8.ny ?_
 unfold DJ at hc
 cases hu:P.underlying ty with
 | none=>simp[hu]at hc
 | some d =>
  rw[hu]at hc
  have heq:∀n,isEq op=some n→op=if n then .neq else .eql:=by
   intro n hn;cases op<;>simp[isEq]at hn<;>subst hn<;>rfl
  have bin:b=.bin op x y→b8 P w0 g H w (do eqGuard op ty ox oy (ρ ox) (ρ oy);binOp op ty (ρ ox) (ρ oy)) t H':=by
   rintro rfl
   simp only[ar,Option.map_eq_some_iff,Prod.mk.injEq]at he
   obtain⟨t',h1,rfl,rfl⟩:=he
   exact IA h hx hy h1
  have ref:(∃n c,isEq op=some n∧cls d=some c∧b=.mU n c x y)→b8 P w0 g H w (do eqGuard op ty ox oy (ρ ox) (ρ oy);binOp op ty (ρ ox) (ρ oy)) t H':=by
   rintro⟨n,c,h1,h2,rfl⟩
   simp only[ar,Option.map_eq_some_iff,Prod.mk.injEq]at he
   obtain⟨r,h3,rfl,rfl⟩:=he
   rw[heq n h1]
   exact IC hu (by cases d<;>simp[cls]at h2<;>subst h2<;>rfl) h hx hy h3
  have o6:(match isEq op,cls d with|some n,some c=>some (Bo.mU n c x y)|_,_=>none)=some b→(∃n c,isEq op=some n∧cls d=some c∧b=.mU n c x y):=by
   intro hh
   cases h1:isEq op with
   | none=>simp[h1]at hh
   | some n =>
    cases h2:cls d with
    | none=>simp[h1,h2]at hh
    | some c=>simp[h1,h2]at hh;exact⟨n,c,rfl,rfl,hh.symm⟩
  cases d with
  | int k=>simp at hc;exact bin hc.symm
  | string=>simp at hc;exact bin hc.symm
  | bool =>
   simp only[Option.map_eq_some_iff]at hc
   obtain⟨n,h1,rfl⟩:=hc
   simp only[ar]at he
   rw[heq n h1]
   generalize x.ev R=tx at hx he
   generalize y.ev R=Nh at hy he
   cases tx<;>cases Nh<;>simp at he
   obtain⟨rfl,rfl⟩:=he
   exact IB hu h hx hy
  | struct fs =>
   cases h1:isEq op with
   | none=>simp[h1]at hc
   | some n =>
    cases h2:kinds P fs.toList with
    | none=>simp[h1,h2]at hc
    | some ks =>
     simp only[h1,h2]at hc
     split at hc
     ·rename_i cF
      simp only[Bool.and_eq_true,Bool.not_eq_true']at cF
      simp at hc;subst hc
      simp only[ar]at he
      rw[heq n h1]
      generalize x.ev R=tx at hx he
      generalize y.ev R=Nh at hy he
      cases tx<;>cases Nh<;>(try simp only[reduceCtorEq]at he)
      split at he
      ·rename_i hk
       simp only[Option.map_eq_some_iff,Prod.mk.injEq]at he
       obtain⟨r,h3,rfl,rfl⟩:=he
       exact ID hu cF.1.1 cF.1.2 cF.2 h hx hy hk h3
      ·cases he
     ·cases hc
  | pointer _=>exact ref (o6 hc)
  | slice _=>exact ref (o6 hc)
  | map _ _=>exact ref (o6 hc)
  | func _ _ _=>exact ref (o6 hc)
  | invalid=>exact ref (o6 hc)
  | float _=>exact ref (o6 hc)
  | complex _=>exact ref (o6 hc)
  | unsafePointer=>exact ref (o6 hc)
  | array _ _=>exact ref (o6 hc)
  | chan _ _=>exact ref (o6 hc)
  | interface _=>exact ref (o6 hc)
  | tuple _=>exact ref (o6 hc)
  | named _ _=>exact ref (o6 hc)
theorem DL {ty:TypeId}{v:Value}{x:X}{b:Bo}(hc:ti P ty x=some b)(h:SR w0 g H w)(hx:VR g w (x.ev R) v)(he:ar R H b=some (t,H')):Jl P w0 g H w (do pure (Next.value (←Instr.loadAt ty v))) t H':=by
 refine b8.ny ?_
 unfold ti at hc
 cases hu:P.underlying ty with
 | none=>simp[hu]at hc
 | some d =>
  cases hi:P.info? ty with
  | none=>simp[hu,hi]at hc
  | some i =>
   simp only[hu,hi,Option.some.injEq]at hc
   subst hc
   simp only[ar]at he
   cases hl:nC H (if et d then i.size else 1) (x.ev R)with
   | none=>simp[hl]at he
   | some cs =>
    simp only[hl,Option.map_eq_some_iff,Prod.mk.injEq]at he
    obtain⟨t',h1,rfl,rfl⟩:=he
    exact MQ hu hi rfl (fun e=>by rw[if_pos e]) h hx hl h1
theorem tn {ty:TypeId}{v:Value}{x:X}{f:Nat}{ad:Bool}{b:Bo}(hc:m3 P ty x f ad=some b)(h:SR w0 g H w)(hx:VR g w (x.ev R) v)(he:ar R H b=some (t,H')) :
  b8 P w0 g H w (if ad then Instr.fieldAt ty v f else Instr.field ty v f) t H':=by
 unfold m3 at hc
 cases hu:P.underlying ty with
 | none=>simp[hu]at hc
 | some d =>
  cases d<;>simp only[hu]at hc<;>(try (cases hc;done))
  rename_i fs
  cases hf:fs[f]? with
  | none=>simp[hf]at hc
  | some fl =>
   simp only[hf]at hc
   cases hd:P.underlying fl.type with
   | none=>simp[hd]at hc
   | some d =>
    cases hi:P.info? fl.type with
    | none=>simp[hd,hi]at hc
    | some i =>
     simp only[hd,hi]at hc
     cases ad with
     | true =>
      simp only[if_true]at hc
      split at hc
      ·cases hc
      ·rename_i hz
       simp at hc;subst hc
       simp only[ar]at he
       simp only[Option.map_eq_some_iff,Prod.mk.injEq]at he
       obtain⟨t',h1,rfl,rfl⟩:=he
       exact II hu hf hi hz h hx h1
     | false =>
      simp only[Bool.false_eq_true,if_false,Option.some.injEq]at hc
      subst hc
      simp only[ar]at he
      generalize x.ev R=tx at hx he
      cases tx<;>(try simp only[reduceCtorEq]at he)
      rename_i cs
      split at he
      ·rename_i hle
       simp only[Option.map_eq_some_iff,Prod.mk.injEq]at he
       obtain⟨t',h1,rfl,rfl⟩:=he
       exact IJ hu hf hd hi rfl h hx hle h1
      ·cases he
theorem zU {ty:TypeId}{v vi:Value}{x i:X}{ad:Bool}{b:Bo}(hc:yC P ty x i ad=some b)(h:SR w0 g H w)(hx:VR g w (x.ev R) v)(hi:VR g w (i.ev R) vi)(he:ar R H b=some (t,H')) :
  b8 P w0 g H w (if ad then Instr.indexAt ty v vi else Instr.index ty v vi) t H':=by
 unfold yC at hc
 cases hu:P.underlying ty with
 | none=>simp[hu]at hc
 | some d =>
  cases d<;>cases ad<;>simp only[hu]at hc<;>(try (cases hc;done))
  ·-- string
   simp at hc;subst hc
   simp only[ar]at he
   generalize x.ev R=tx at hx he
   cases tx<;>(try simp only[reduceCtorEq]at he)
   cases hn:cq (i.ev R)with
   | none=>simp[hn]at he
   | some n =>
    simp only[hn,Option.map_eq_some_iff,Prod.mk.injEq]at he
    obtain⟨c,h1,rfl,rfl⟩:=he
    exact IM hu h hx hi hn h1
  ·-- slice
   rename_i e
   cases sN:P.info? e with
   | none=>simp[sN]at hc
   | some ei =>
    simp[sN]at hc;subst hc
    simp only[ar]at he
    simp only[Option.bind_eq_some_iff,Option.map_eq_some_iff,Prod.mk.injEq]at he
    obtain⟨n,h1,t',h2,rfl,rfl⟩:=he
    exact IK hu sN h hx hi h1 h2
  ·-- Jn value
   rename_i n e
   cases sN:P.info? e with
   | none=>simp[sN]at hc
   | some ei =>
    cases Ni:P.underlying e with
    | none=>simp[sN,Ni]at hc
    | some d =>
     simp[sN,Ni]at hc;subst hc
     simp only[ar]at he
     generalize x.ev R=tx at hx he
     cases tx<;>(try simp only[reduceCtorEq]at he)
     cases hn:cq (i.ev R)with
     | none=>simp[hn]at he
     | some m =>
      simp only[hn]at he
      split at he
      ·rename_i iL
       simp only[Option.map_eq_some_iff,Prod.mk.injEq]at he
       obtain⟨t',h1,rfl,rfl⟩:=he
       exact IP hu Ni sN rfl h hx hi hn iL.1 iL.2 h1
      ·cases he
  ·-- Jn address
   rename_i n e
   cases sN:P.info? e with
   | none=>simp[sN]at hc
   | some ei =>
    simp[sN]at hc;subst hc
    simp only[ar]at he
    generalize x.ev R=tx at hx he
    cases tx<;>(try simp only[reduceCtorEq]at he)
    cases hn:cq (i.ev R)with
    | none=>simp[hn]at he
    | some m =>
     simp only[hn]at he
     split at he
     ·rename_i aw
      simp at he
      obtain⟨rfl,rfl⟩:=he
      exact IL hu sN h hx hi hn aw
     ·cases he
theorem o7 {x:Option Operand}{y:Option X}(h:jU x=some y)(hv:RV g w R ρ x.toList):OV g w R y (x.map ρ):=by
 cases x with
 | none=>simp[jU]at h;subst h;trivial
 | some x =>
  simp only[jU,Option.map_eq_some_iff]at h
  obtain⟨y',h1,rfl⟩:=h
  exact hv x (by simp) y' h1
theorem BN {ty:TypeId}{v:Value}{x:X}{lo hi mx:Option X}{kV nv Nj:Option Value}{b:Bo}(hc:oY P ty x lo hi mx=some b)(h:SR w0 g H w)(hx:VR g w (x.ev R) v)(kx:OV g w R lo kV)(zV:OV g w R hi nv)(Qs:OV g w R mx Nj)
  (he:ar R H b=some (t,H')):Jl P w0 g H w (do pure (Next.value (←Instr.sliceAt ty v kV nv Nj))) t H':=by
 refine b8.ny ?_
 unfold oY at hc
 cases hu:P.underlying ty with
 | none=>simp[hu]at hc
 | some d =>
  cases d<;>simp only[hu]at hc<;>(try (cases hc;done))
  ·-- string
   cases mx with
   | some _=>simp at hc
   | none =>
    cases Nj with
    | some _=>exact Qs.elim
    | none =>
     simp at hc;subst hc
     simp only[ar]at he
     generalize x.ev R=tx at hx he
     cases tx<;>(try simp only[reduceCtorEq]at he)
     rename_i s
     cases hl:fH R 0 lo with
     | none=>simp[hl]at he
     | some l =>
      cases hh:fH R s.size hi with
      | none=>simp[hl,hh]at he
      | some r =>
       simp only[hl,hh]at he
       split at he
       ·rename_i iL
        simp at he
        obtain⟨rfl,rfl⟩:=he
        exact IQ hu h hx kx zV hl hh iL.1 iL.2
       ·cases he
  ·-- slice
   rename_i e
   cases sN:P.info? e with
   | none=>simp[sN]at hc
   | some ei =>
    simp only[sN]at hc
    split at hc
    ·cases hc
    ·rename_i hmh
     simp at hc;subst hc
     simp only[ar]at he
     generalize x.ev R=tx at hx he
     cases tx<;>(try simp only[reduceCtorEq]at he)
     ·rename_i k es
      cases hl:fH R 0 lo with
      | none=>simp[hl]at he
      | some l =>
       cases hh:fH R es.length hi with
       | none=>simp[hl,hh]at he
       | some r =>
        simp only[hl,hh]at he
        cases mx with
        | none =>
         cases Nj with
         | some _=>exact Qs.elim
         | none =>
          simp only at he
          split at he
          ·rename_i iL
           simp at he
           obtain⟨rfl,rfl⟩:=he
           exact IS hu sN h hx kx zV hl hh iL.1 iL.2.1 iL.2.2
          ·cases he
        | some m =>
         cases Nj with
         | none=>exact Qs.elim
         | some vm =>
          cases hi with
          | none=>simp at hmh
          | some hi =>
           cases nv with
           | none=>exact zV.elim
           | some vh =>
            simp only at he
            cases hm:cq (m.ev R)with
            | none=>simp[hm]at he
            | some m' =>
             simp only[hm]at he
             split at he
             ·rename_i iL
              simp only[Option.some.injEq,Prod.mk.injEq]at he
              obtain⟨rfl,rfl⟩:=he
              exact Ds hu sN h hx kx zV Qs hl hh hm iL.1 iL.2.1 iL.2.2.1 iL.2.2.2
             ·cases he
     ·rename_i bb off len n'
      cases hl:fH R 0 lo with
      | none=>simp[hl]at he
      | some l =>
       cases hh:fH R len hi with
       | none=>simp[hl,hh]at he
       | some r =>
        simp only[hl,hh]at he
        cases mx with
        | some _=>simp at he
        | none =>
         cases Nj with
         | some _=>exact Qs.elim
         | none =>
          simp only at he
          split at he
          ·rename_i iL
           obtain⟨rfl,h1,h2⟩:=iL
           simp only[Option.some.injEq,Prod.mk.injEq]at he
           obtain⟨rfl,rfl⟩:=he
           exact Dt hu sN h hx kx zV hl hh h1 h2
          ·cases he
     ·rename_i bb off len n' cc
      cases hl:fH R 0 lo with
      | none=>simp[hl]at he
      | some l =>
       cases hh:fH R len hi with
       | none=>simp[hl,hh]at he
       | some r =>
        simp only[hl,hh]at he
        cases mx with
        | some _=>simp at he
        | none =>
         cases Nj with
         | some _=>exact Qs.elim
         | none =>
          simp only at he
          split at he
          ·rename_i iL
           obtain⟨rfl,h1,h2⟩:=iL
           simp only[Option.some.injEq,Prod.mk.injEq]at he
           obtain⟨rfl,rfl⟩:=he
           exact Du hu sN h hx kx zV hl hh h1 h2
          ·cases he
theorem DM {src dst:TypeId}{v:Value}{x:X}{b:Bo}(hc:tj P src dst x=some b)(h:SR w0 g H w)(hx:VR g w (x.ev R) v)(he:ar R H b=some (t,H')):Jl P w0 g H w (do pure (Next.value (←convert src dst v))) t H':=by
 refine b8.ny ?_
 unfold tj at hc
 cases hs:P.underlying src with
 | none=>simp[hs]at hc
 | some ds =>
  cases hd:P.underlying dst with
  | none=>simp[hs,hd]at hc
  | some dd =>
   rw[hs,hd]at hc
   cases ds<;>cases dd<;>simp only[reduceCtorEq]at hc
   ·rename_i k0 k
    simp at hc;subst hc
    simp only[ar]at he
    generalize x.ev R=tx at hx he
    cases tx<;>simp at he
    obtain⟨rfl,rfl⟩:=he
    exact IE hs hd h hx
   ·rename_i e
    cases hu:P.underlying e with
    | none=>simp[hu]at hc
    | some d =>
     have Ru:d=.int .u8∧b=.uC x:=by
      rw[hu]at hc
      cases d with
      | int k=>cases k<;>simp at hc;exact⟨rfl,hc.symm⟩
      | _=>simp at hc
     obtain⟨rfl,rfl⟩:=Ru
     simp only[ar]at he
     cases iE:bA H 1 (x.ev R)with
     | none=>simp[iE]at he
     | some es =>
      have Lv:∀s,x.ev R≠.str s:=by
       intro s e;simp only[e]at he;split at he<;>cases he
      have CT:(bytesOf es).map (fun l=>(T.str ⟨l.toArray⟩,H))=some (t,H'):=by
       simp only[iE]at he
       generalize x.ev R=tx at he Lv
       cases tx<;>first|exact he|exact absurd rfl (Lv _)
      simp only[Option.map_eq_some_iff,Prod.mk.injEq]at CT
      obtain⟨l,h1,rfl,rfl⟩:=CT
      exact IH hs hu hd h hx iE Lv h1
end
end Go.Rmp
end
