/- Part of a proof of a law of this seat: the machine of plain values, its simulation, and the contracts of the functions that the law reaches. Conditions: none beyond the given row. -/
import Derived.OrdersIn
import Derived.RangeFuncIn
import Derived.Laws.Sem
import Derived.Laws.World
import Derived.Laws.IdiomCopy
import Derived.ChangeKeysEq
import Derived.Laws.StructEq
import Derived.Laws.BytesString
import Derived.IntWalk
import Derived.Lib.AppendZerosOnto
import Derived.Lib.Overlaps
import Derived.Maps.RangeRun
import Derived.RangeFuncRecord
open Int renaming reduceLT → q3, reduceLE → q4, reduceBEq → q5, reduceBNe → q6, reduceEq → q7
open Nat renaming reduceAdd → q8, reduceLeDiff → q9, reduceLT → j1, reduceEqDiff → j2
set_option linter.unusedSimpArgs false
set_option linter.unusedVariables false
set_option linter.unnecessarySimpa false
set_option maxHeartbeats 4000000
section
namespace Go.Rmp
inductive SK where
 | nil|arg|full|own (t e:Nat)
 deriving DecidableEq
inductive T where
 | int (k:IntKind) (n:Int)
 | bool (b:Bool)
 | str (s:ByteArray)
 | br
 | ptr (b off:Nat)
 | b0 (cs:List T)
 | hY
 | map (b:Nat)
 | sl (k:SK) (es:List (List T))
 | aC (b off len n:Nat)
 | eH (b off len n c:Nat)
 | nG
 | fn (f:Nat) (lR:List T)
 | od (b:Nat)
 | hZ
 | agg (cs:List T)
 | bC (vs:List T)
abbrev ax:=Nat→T
def cf:T:=.bC []
def T.one:T→Bool
 | .agg _ | .bC _=>false
 | _=>true
def T.cells?:T→Option (List T)
 | .agg cs=>some cs
 | .bC _=>none
 | v=>some [v]
def T.erase:T→T
 | .sl _ es=>.sl .arg es
 | v=>v
inductive X where
 | r (t:Nat)
 | c (v:T)
def X.ev (R:ax):X→T
 | .r t=>R t
 | .c v=>v
def pj (R:ax)(d:Nat)(v:T):ax:=fun t=>if t=d then v else R t
def bR (R:ax)(d:Option Nat)(v:T):ax:=match d with|some d=>pj R d v|none=>R
inductive JF where|ptr|slice|map|func
 deriving DecidableEq
inductive Lc where|str|sl|map
inductive xf where|int|str|bool
 deriving DecidableEq
inductive KT where
 | sc (t:xf)
 | st (l:List xf)
def T.zu:xf→T→Bool
 | .int,.int _ _ | .str,.str _ | .bool,.bool _=>true
 | _,_=>false
def fN:List xf→List T→Bool
 | [],[]=>true
 | t :: ts,v :: vs=>v.zu t&&fN ts vs
 | _,_=>false
def T.jF:KT→T→Bool
 | .sc t,v=>v.zu t
 | .st l,.agg cs=>fN l cs
 | _,_=>false
inductive Bo where
 | ar (x:X)
 | pick (c a b:X)
 | bin (op:BinOp) (x y:X)
 | nH (neg:Bool) (c:JF) (x y:X)
 | beq (neg:Bool) (x y:X)
 | eqs (neg:Bool) (ks:List xf) (x y:X)
 | un (op:UnOp) (x:X)
 | fG (k:IntKind) (x:X)
 | AO (x:X)
 | cvb (x:X)
 | len (k:Lc) (x:X)
 | alloc (z:List T)
 | box (x:X)
 | build (z:List T) (ps:List (Nat×Nat×X))
 | mJ (n:Nat) (z:List T) (ps:List (Nat×X))
 | ld (n:Nat) (ag:Bool) (x:X)
 | st (n:Nat) (a v:X)
 | fL (off:Nat) (x:X)
 | Tf (off n:Nat) (ag:Bool) (x:X)
 | eF (st:Nat) (x i:X)
 | N7 (n st:Nat) (x i:X)
 | Tg (x i:X)
 | X5 (n st:Nat) (ag:Bool) (x i:X)
 | Th (x:X) (lo hi:Option X)
 | gH (st:Nat) (x:X) (lo hi mx:Option X)
 | AP
 | om (kt:KT) (z:T) (ok:Bool) (m k:X)
 | AQ (kt:KT) (m k v:X)
 | del (kt:KT) (m k:X)
 | app (st bytes:Nat) (mu:Bool) (x y:X)
 | Zb (mu:Bool) (bytes:Nat) (z:List T) (l c:X)
 | JG (f:Nat) (lR:List X)
 | ext (i:Nat) (x:X)
 | mn (x y:X)
 | mx (x y:X)
 | lS (x:X)
 | cap (x:X)
 | Cl (n:Nat) (x y:X)
 | Sn (n:Nat) (x y:X)
 | N8 (x:X)
 | qM (x:X)
 | N9 (x:X)
 | So (n:Nat) (z:List T) (x:X)
 | Ti (n bytes:Nat) (z:List T) (x k:X)
 | Sp (n:Nat) (z:List T) (ps:List (Nat×X))
abbrev Gd:=Option (Nat×Bool)
structure Rd where
 d:Nat
 op:Bo
 g:Gd
inductive MC where
 | b (op:Bo)
 | call (f:Nat) (as:List X)
 | bJ (f:X) (as:List X)
structure O where
 d:Option Nat
 op:MC
 g:Gd
 Cm:List Rd
inductive C where
 | skip
 | ops (l:List O)
 | seq (a b:C)
 | cond (x:X) (a b:C)
 | block (id:Nat) (a:C)
 | loop (a:C)
 | exit (id:Nat)
 | ret
 | cZ (n:Nat) (x:X) (ps:List Nat) (cj body:C)
inductive Ex where
 | normal|exit (id:Nat)|ret
inductive Oa where
 | ready|busy|done
 deriving DecidableEq
inductive B where
 | cells (cs:List T)
 | map (es:List (T×T))
 | tok (e:Nat)
 | loop (st:Oa) (gk:Option Ex) (n:Nat) (R:Nat→T) (ps:List Nat) (cj body:C)
 | AR
 | dead
 /-- a map that is ranged over: the places still to come;the range's block;the place last told -/
 | da (es:List (T×T)) (ix:List Nat) (bi:Nat) (cur:Option Nat)
 | vw (b:Nat)
abbrev af:=List B
def jS (a b:ByteArray):Bool:=a.toList==b.toList
def strLt (a b:ByteArray):Bool:=Op.bytesLess a.toList b.toList
def cQ (op:BinOp):T→T→Option T
 | .int k a,.int k' b =>
  match op with
  | .shl=>if b<0 then none else some (.int k (k.wrap (a*2^(min b.toNat k.bits))))
  | .shr=>if b<0 then none else some (.int k (a.fdiv (2^(min b.toNat k.bits))))
  | op =>
   if k=k' then
    match op with
    | .add=>some (.int k (k.wrap (a+b)))
    | .sub=>some (.int k (k.wrap (a-b)))
    | .mul=>some (.int k (k.wrap (a*b)))
    | .quo=>if b=0 then none else some (.int k (k.wrap (a.tdiv b)))
    | .rem=>if b=0 then none else some (.int k (a.tmod b))
    | .and=>some (.int k (k.wrap (BitVec.ofInt k.bits a &&& BitVec.ofInt k.bits b).toNat))
    | .or=>some (.int k (k.wrap (BitVec.ofInt k.bits a ||| BitVec.ofInt k.bits b).toNat))
    | .xor=>some (.int k (k.wrap (BitVec.ofInt k.bits a ^^^ BitVec.ofInt k.bits b).toNat))
    | .andNot=>some (.int k (k.wrap (BitVec.ofInt k.bits a &&& ~~~ BitVec.ofInt k.bits b).toNat))
    | .eql=>some (.bool (a==b))
    | .neq=>some (.bool (a != b))
    | .lss=>some (.bool (a<b))
    | .leq=>some (.bool (a≤b))
    | .gtr=>some (.bool (a>b))
    | .geq=>some (.bool (a≥b))
    | _=>none
   else none
 | .str a,.str b =>
  match op with
  | .add=>if a.size+b.size≤9223372036854775807 then some (.str (a++b))else none
  | .eql=>some (.bool (jS a b))
  | .neq=>some (.bool (!jS a b))
  | .lss=>some (.bool (strLt a b))
  | .leq=>some (.bool (strLt a b||jS a b))
  | .gtr=>some (.bool (!(strLt a b||jS a b)))
  | .geq=>some (.bool (!strLt a b))
  | _=>none
 | _,_=>none
def D6 (op:UnOp):T→Option T
 | .int k n =>
  match op with
  | .neg=>some (.int k (k.wrap (0-n)))
  | .xor=>some (.int k (k.wrap (BitVec.ofInt k.bits (if k.signed then -1 else k.max) ^^^ BitVec.ofInt k.bits n).toNat))
  | _=>none
 | .bool b=>match op with | .not=>some (.bool !b)|_=>none
 | _=>none
def lx:JF→T→Option Bool
 | .ptr,.br=>some true
 | .ptr,.ptr _ _ | .ptr,.b0 _=>some false
 | .slice,.sl .nil []=>some true
 | .slice,.sl .full _ | .slice,.sl (.own _ _) _ | .slice,.sl .arg (_ :: _) | .slice,.aC _ _ _ _=>some false
 | .map,.hY=>some true
 | .map,.map _=>some false
 | .func,.nG=>some true
 | .func,.fn _ _=>some false
 | _,_=>none
def dQ (c:JF)(x y:T):Option Bool :=
 match lx c x,lx c y with
 | some true,some b=>some b
 | some b,some true=>some b
 | _,_=>none
def jo:T→T→Option Bool
 | .int k a,.int k' b=>if k=k' then some (a==b)else none
 | .str a,.str b=>some (jS a b)
 | .bool a,.bool b=>some (a==b)
 | _,_=>none
def b7:List T→List T→Option Bool
 | [],[]=>some true
 | a :: as,b :: bs=>match jo a b,b7 as bs with
  | some x,some y=>some (x&&y)
  | _,_=>none
 | _,_=>none
def iP:T→T→Option Bool
 | .agg as,.agg bs=>b7 as bs
 | a,b=>jo a b
def dz (k:T):List (T×T)→Option (Option Nat)
 | []=>some none
 | e :: es=>match iP k e.1 with
  | some true=>some (some 0)
  | some false=>(dz k es).map (Option.map (·+1))
  | none=>none
def ik (H:af):T→Option (List (T×T))
 | .hY=>some []
 | .map b=>match H[b]? with|some (.map es)=>some es|some (.da es _ _ _)=>some es|_=>none
 | _=>none
def nr (cells:List T):List (Nat×List T)→Option (List T)
 | []=>some cells
 | (off,vs) :: rest=>if off+vs.length≤cells.length then nr (cells.take off++vs++cells.drop (off+vs.length)) rest else none
def fO (R:ax):List (Nat×Nat×X)→Option (List (Nat×List T))
 | []=>some []
 | (off,n,x) :: rest=>match (x.ev R).cells?,fO R rest with
  | some cs,some l=>if cs.length=n then some ((off,cs) :: l)else none
  | _,_=>none
def jT (n:Nat)(es:List (List T))(R:ax):List (Nat×X)→Option (List (List T))
 | []=>some es
 | (i,x) :: rest=>match (x.ev R).cells? with
  | some cs=>if cs.length=n∧i<es.length then jT n (es.set i (cs.map T.erase)) R rest else none
  | none=>none
def jU (n:Nat)(es:List (List T))(R:ax):List (Nat×X)→Option (List (List T))
 | []=>some es
 | (i,x) :: rest=>match (x.ev R).cells? with
  | some cs=>if cs.length=n∧i<es.length then jU n (es.set i cs) R rest else none
  | none=>none
def nu (H:af)(n:Nat):T→Option (List T)
 | .ptr b off=>match H[b]? with
  | some (.cells cs)=>if off+n≤cs.length then some ((cs.drop off).take n)else none
  | _=>none
 | .b0 cs=>if n≤cs.length then some (cs.take n)else none
 | _=>none
def valOf (ag:Bool)(cs:List T):Option T :=
 if ag then some (.agg cs)else match cs with | [v]=>some v|_=>none
def Tj (H:af)(vs:List T):T→Option af
 | .ptr b off=>match H[b]? with
  | some (.cells cs)=>if off+vs.length≤cs.length then some (H.set b (.cells (cs.take off++vs++cs.drop (off+vs.length))))else none
  | _=>none
 | _=>none
def oq (off:Nat):T→Option T
 | .ptr b o=>some (.ptr b (o+off))
 | .b0 cs=>if off<cs.length then some (.b0 (cs.drop off))else none
 | _=>none
def dK (n i:Nat):T→Option T
 | .sl _ es=>match es[i]? with
  | some c=>if c.length=n∧n≠0 then some (.b0 c)else none
  | none=>none
 | .aC b off len n'=>if n'=n∧i<len∧n≠0 then some (.ptr b (off+i*n))else none
 | _=>none
def bG (H:af)(n:Nat):T→Option (List (List T))
 | .sl _ es=>if es.all (·.length==n)then some es else none
 | .aC b off len n'=>match H[b]? with
  | some (.cells cs)=>if n'=n∧off+len*n≤cs.length then some ((List.range len).map fun i=>(cs.drop (off+i*n)).take n)else none
  | _=>none
 | .str s=>if n=1 then some (s.data.toList.map fun c=>[.int .u8 c.toNat])else none
 | _=>none
def bytesOf:List (List T)→Option (List UInt8)
 | []=>some []
 | [.int .u8 n] :: es=>(bytesOf es).map (UInt8.ofNat n.toNat :: ·)
 | _=>none
def jG (H:af):Lc→T→Option Nat
 | .str,.str s=>some s.size
 | .sl,.sl _ es=>some es.length
 | .sl,.aC _ _ len _=>some len
 | .sl,.eH _ _ len _ _=>some len
 | .map,.hY=>some 0
 | .map,.map b=>match H[b]? with
  | some (.map es)=>some es.length
  | some (.da es _ _ _)=>some es.length
  | _=>none
 | _,_=>none
def cB:T→Option Nat
 | .int _ n=>if 0≤n then some n.toNat else none
 | _=>none
def hJ (R:ax)(d:Nat):Option X→Option Nat
 | none=>some d
 | some x=>cB (x.ev R)
def SK.cut (k:SK)(len lo hi:Nat):SK :=
 match k with
 | .nil=>.nil
 | .arg=>.arg
 | .full=>if hi=len then .full else .arg
 | .own t e=>if hi=len∧lo<len then .own t e else .arg
def db (ky bytes:Nat):Bool:=(ky+ky/4+512)*bytes≤281474976710656
def fP (H:af)(bytes:Nat)(k:SK)(es new:List (List T)):Option (T×af) :=
 match new with
 | []=>some (.sl k es,H)
 | _ =>
  if db (es.length+new.length) bytes then
   match k with
   | .nil | .full=>some (.sl (.own H.length (es.length+new.length)) (es++new.map (·.map T.erase)),H++[.tok (es.length+new.length)])
   | .own t e=>match H[t]? with
    | some (.tok e')=>if e=e' then some (.sl (.own t (e+new.length)) (es++new.map (·.map T.erase)),H.set t (.tok (e+new.length)))else none
    | _=>none
   | .arg=>none
  else none
def AS:T→Bool
 | .sl _ _ | .aC _ _ _ _=>true
 | _=>false
def lT (H:af)(n bytes:Nat)(x:T)(new:List (List T)):Option (T×af) :=
 match new with
 | []=>if AS x then some (x,H)else none
 | _ =>
  match x with
  | .sl .nil es | .sl .full es =>
   if db (es.length+new.length) bytes∧es=[]then some (.aC H.length 0 new.length n,H++[.cells new.flatten])else none
  | .aC b off len n'=>match H[b]? with
   | some (.cells cs) =>
    if n'=n∧off=0∧len*n=cs.length∧db (len+new.length) bytes then
     some (.aC H.length 0 (len+new.length) n,H.set b .dead++[.cells (cs++new.flatten)])else none
   | _=>none
  | _=>none
def xv:T→T
 | .eH b off len n _=>.aC b off len n
 | t=>t
def iQ (H:af)(n k:Nat):T→Option (List (List T))
 | .aC b off _ n' | .eH b off _ n' _=>match H[b]? with
  | some (.cells cs)=>if n'=n∧off+k*n≤cs.length then some ((List.range k).map fun i=>(cs.drop (off+i*n)).take n)else none
  | _=>none
 | _=>none
def D7:T→Option Nat
 | .aC _ _ len _ | .eH _ _ len _ _=>some len
 | _=>none
def Cn (H:af)(n:Nat)(x y:T):Option (T×af) :=
 match x,D7 y with
 | .aC b off len n',some ly | .eH b off len n' _,some ly =>
  match H[b]?,iQ H n (min ly len) y with
  | some (.cells cs),some new =>
   if n'=n∧n≠0∧off≤cs.length then some (.int .i64 (min ly len:Nat),H.set b (.cells (cs.take off++new.flatten++cs.drop (off+(min ly len)*n))))else none
  | _,_=>none
 | _,_=>none
def D8 (H:af)(n bytes:Nat)(z:List T)(x:T)(k:Nat):Option (T×af) :=
 match x with
 | .eH b off len n' c=>match iQ H n len x with
  | some es=>if n'=n∧n≠0∧0<k∧c<len+k∧z.length=n∧db (len+k) bytes then some (.aC H.length 0 (len+k) n,H++[.cells (es.flatten++(List.replicate k z).flatten)])else none
  | none=>none
 | _=>none
def Co (H:af)(n:Nat)(x y:T):Option (T×af) :=
 match x,y with
 | .aC bv _ _ n1,.eH b _ len n2 _ =>
  match H[bv]?,H[b]? with
  | some (.cells _),some (.cells cs)=>if bv≠b∧n1=n∧n2=n∧0<cs.length then some (.bool false,H)else none
  | _,_=>none
 | _,_=>none
def MD (R:ax)(l:List X):List T:=l.map (X.ev R)
def au (R:ax)(H:af):Bo→Option (T×af)
 | .ar x=>some (x.ev R,H)
 | .pick c a b=>match c.ev R with
  | .bool t=>some (if t then a.ev R else b.ev R,H)
  | _=>none
 | .bin op x y=>(cQ op (x.ev R) (y.ev R)).map (·,H)
 | .nH neg c x y=>(dQ c (x.ev R) (y.ev R)).map fun b=>(.bool (if neg then !b else b),H)
 | .beq neg x y=>match x.ev R,y.ev R with
  | .bool a,.bool b=>some (.bool (if neg then !(a==b)else a==b),H)
  | _,_=>none
 | .eqs neg ks x y=>match x.ev R,y.ev R with
  | .agg as,.agg bs=>if fN ks as then(b7 as bs).map fun b=>(.bool (if neg then !b else b),H)else none
  | _,_=>none
 | .un op x=>(D6 op (x.ev R)).map (·,H)
 | .fG k x=>match x.ev R with
  | .int _ n=>some (.int k (k.wrap n),H)
  | _=>none
 | .AO x=>match bG H 1 (x.ev R)with
  | some es=>match x.ev R with
   | .str _=>none
   | _=>(bytesOf es).map fun l=>(.str ⟨l.toArray⟩,H)
  | none=>none
 | .cvb x=>match x.ev R with
  | .str s=>if s.size=0 then some (.sl .arg [],H)else if s.size≤281474976710656 then some (.sl (.own H.length s.size) (s.data.toList.map fun c=>[.int .u8 c.toNat]),H++[.tok s.size])else none
  | _=>none
 | .len k x=>(jG H k (x.ev R)).map fun (n:Nat)=>(T.int .i64 (n:Int),H)
 | .alloc z=>some (.ptr H.length 0,H++[.cells z])
 | .box x=>(x.ev R).cells?.map fun cs=>(.ptr H.length 0,H++[.cells cs])
 | .build z ps=>match fO R ps with
  | some l=>(nr z l).map fun cs=>(.agg cs,H)
  | none=>none
 | .mJ n z ps=>(jT z.length (List.replicate n z) R ps).map fun es=>(.sl .full es,H)
 | .ld n ag x=>match nu H n (x.ev R)with
  | some cs=>(valOf ag cs).map (·,H)
  | none=>none
 | .st n a v=>match (v.ev R).cells? with
  | some vs=>if vs.length=n then(Tj H vs (a.ev R)).map (cf,·)else none
  | none=>none
 | .fL off x=>(oq off (x.ev R)).map (·,H)
 | .Tf off n ag x=>match x.ev R with
  | .agg cs=>if off+n≤cs.length then(valOf ag ((cs.drop off).take n)).map (·,H)else none
  | _=>none
 | .eF n x i=>(cB (i.ev R)).bind fun i=>(dK n i (x.ev R)).map (·,H)
 | .N7 len n x i=>match x.ev R,cB (i.ev R)with
  | .ptr b off,some i=>if i<len then some (.ptr b (off+i*n),H)else none
  | _,_=>none
 | .Tg x i=>match x.ev R,cB (i.ev R)with
  | .str s,some i=>(s.data[i]?).map fun c=>(.int .u8 c.toNat,H)
  | _,_=>none
 | .X5 len n ag x i=>match x.ev R,cB (i.ev R)with
  | .agg cs,some i=>if i<len∧i*n+n≤cs.length then(valOf ag ((cs.drop (i*n)).take n)).map (·,H)else none
  | _,_=>none
 | .Th x lo hi=>match x.ev R with
  | .str s=>match hJ R 0 lo,hJ R s.size hi with
   | some l,some h=>if l≤h∧h≤s.size then some (.str (s.extract l h),H)else none
   | _,_=>none
  | _=>none
 | .gH n x lo hi mx=>match x.ev R with
  | .sl k es=>match hJ R 0 lo,hJ R es.length hi,mx with
   | some l,some h,none=>if l≤h∧h≤es.length∧es.all (·.length==n)then some (.sl (k.cut es.length l h) ((es.take h).drop l),H)else none
   | some l,some h,some m=>match cB (m.ev R)with
    | some m =>
     if l≤h∧h≤m∧m≤es.length∧es.all (·.length==n)then
      some (.sl (if k=.nil then .nil else if es=[]∧k=.arg then .arg else if h=m then .full else .arg) ((es.take h).drop l),H)else none
    | none=>none
   | _,_,_=>none
  | .aC b off len n'=>match hJ R 0 lo,hJ R len hi,mx with
   | some l,some h,none =>
    if n'=n∧l≤h∧h≤len then some (if l=h then(if l=0 then .aC b off 0 n else .sl .arg [])else .aC b (off+l*n) (h-l) n,H)else none
   | _,_,_=>none
  | .eH b off len n' c=>match hJ R 0 lo,hJ R len hi,mx with
   | some l,some h,none =>
    if n'=n∧l≤h∧h≤c then some (if l<c∨l=0 then .eH b (off+l*n) (h-l) n (c-l)else .sl .arg [],H)else none
   | _,_,_=>none
  | _=>none
 | .AP=>some (.map H.length,H++[.map []])
 | .om kt z ok m k =>
  if (k.ev R).jF kt then
   match ik H (m.ev R)with
   | some es=>match dz (k.ev R) es with
    | some (some i)=>match es[i]? with
     | some e=>some (if ok then .bC [e.2,.bool true]else e.2,H)
     | none=>none
    | some none=>some (if ok then .bC [z,.bool false]else z,H)
    | none=>none
   | none=>none
  else none
 | .AQ kt m k v=>match m.ev R with
  | .map b=>if (k.ev R).jF kt then match H[b]? with
   | some (.map es)=>match dz (k.ev R) es with
    | some (some i)=>some (cf,H.set b (.map (es.set i (k.ev R,v.ev R))))
    | some none=>some (cf,H.set b (.map (es++[(k.ev R,v.ev R)])))
    | none=>none
   | _=>none else none
  | _=>none
 | .del kt m k=>match m.ev R with
  | .map b=>if (k.ev R).jF kt then match H[b]? with
   | some (.map es)=>match dz (k.ev R) es with
    | some (some i)=>some (.bC [],H.set b (.map (es.eraseIdx i)))
    | some none=>some (.bC [],H)
    | none=>none
   | _=>none else none
  | _=>none
 | .app n bytes mu x y=>match bG H n (y.ev R)with
  | some new=>if mu then lT H n bytes (xv (x.ev R)) new else match x.ev R with
   | .sl k es=>if es.all (·.length==n)then fP H bytes k es new else none
   | _=>none
  | none=>none
 | .Zb mu bytes z l c=>match cB (l.ev R),cB (c.ev R)with
  | some l,some c =>
   if l≤c∧c*bytes≤281474976710656∧c≤9223372036854775807 then
    if mu then some (.aC H.length 0 l z.length,H++[.cells (List.replicate l z).flatten])
    else if l=0 then some (.sl .arg [],H)else some (.sl (.own H.length l) (List.replicate l z),H++[.tok l])
   else none
  | _,_=>none
 | .JG f lR=>some (.fn f (MD R lR),H)
 | .ext i x=>match x.ev R with
  | .bC vs=>(vs[i]?).map (·,H)
  | _=>none
 | .mn x y=>match x.ev R,y.ev R with
  | .int k a,.int _ b=>some (.int k (if b<a then b else a),H)
  | _,_=>none
 | .mx x y=>match x.ev R,y.ev R with
  | .int k a,.int _ b=>some (.int k (if b>a then b else a),H)
  | _,_=>none
 | .lS x=>match x.ev R with
  | .br | .hZ | .nG=>none
  | v=>some (v,H)
 | .cap x=>match x.ev R with
  | .eH _ _ _ _ c=>some (.int .i64 (c:Nat),H)
  | _=>none
 | .Cl n x y=>Cn H n (x.ev R) (y.ev R)
 | .N8 x=>match x.ev R with
  | .map b=>(ik H (.map b)).map fun es=>(.ptr H.length 0,H.set b (.da es (List.range es.length) H.length none)++[.vw b])
  | _=>none
 | .qM _=>none
 | .N9 x=>match x.ev R with
  | .ptr bi 0=>match H[bi]? with
   | some (.vw b)=>match H[b]? with
    | some (.da es _ Tk (some c))=>if Tk=bi then(es[c]?).map fun e=>(.bC [e.1,e.2],H)else none
    | _=>none
   | _=>none
  | _=>none
 | .So n z x=>match x.ev R with
  | .aC b off len n'=>match H[b]? with
   | some (.cells cs)=>if n'=n∧z.length=n∧off+len*n≤cs.length then some (cf,H.set b (.cells (cs.take off++(List.replicate len z).flatten++cs.drop (off+len*n))))else none
   | _=>none
  | _=>none
 | .Sn n x y=>Co H n (x.ev R) (y.ev R)
 | .Ti n bytes z x k=>(cB (k.ev R)).bind fun k=>D8 H n bytes z (x.ev R) k
 | .Sp n z ps=>(jU z.length (List.replicate n z) R ps).bind fun es=>if z.length≠0 then some (.aC H.length 0 n z.length,H++[.cells es.flatten])else none
def bV (R:ax):Gd→Bool
 | none=>true
 | some (t,b)=>match R t with
  | .bool c=>c==b
  | _=>false
inductive Rs where
 | t (r:Nat)
 | cl (r n:Nat) (ag:Bool)
structure Fn where
 n:Nat
 np:Nat
 res:List Rs
 body:C
structure Env where
 fn:Nat→Option Fn
 pr:Nat→List T→af→(T→af→Prop)→Prop
 mono:∀f az H (Q Q':T→af→Prop),pr f az H Q→(∀t H',Q t H'→Q' t H')→pr f az H Q'
inductive J where
 | code (c:C) (R:ax)
 | ops (l:List O) (R:ax)
 | call (f:Nat) (as:List T)
inductive Out where
 | ex (e:Ex) (R:ax)
 | val (v:T)
def C.na:C→Bool
 | .seq a b | .cond _ a b=>a.na||b.na
 | .block _ a | .loop a=>a.na
 | .cZ _ _ _ _ _=>true
 | _=>false
def jv (R:ax):List Nat→List T→ax
 | p :: ps,v :: vs=>jv (pj R p v) ps vs
 | _,_=>R
def D9:T→Option Nat
 | .ptr b 0=>some b
 | _=>none
def rh:List T→Option (List Nat)
 | []=>some []
 | t :: ts=>match D9 t,rh ts with
  | some b,some bs=>some (b :: bs)
  | _,_=>none
def marks:T→Option (List Nat)
 | .bC ts=>rh ts
 | _=>none
def ou (t:T)(b:Nat):T:=match t with
 | .bC ts=>.bC (.ptr b 0 :: ts)
 | t=>t
def kill (H:af):List Nat→af
 | []=>H
 | b :: bs=>kill (H.set b .dead) bs
def Ea:Option Ex→Ex
 | none=>.normal
 | some e=>e
def iq (as:List T):ax:=fun t=>as.getD t cf
def zw (R:ax)(H:af):Rs→Option T
 | .t r=>some (R r)
 | .cl r n ag=>match nu H n (R r)with
  | some cs=>valOf ag cs
  | none=>none
def tD (R:ax)(H:af):List Rs→Option (List T)
 | []=>some []
 | x :: xs=>match zw R H x,tD R H xs with
  | some v,some vs=>some (v :: vs)
  | _,_=>none
def Cp:List T→T
 | [v]=>v
 | l=>.bC l
def qB (R:ax)(H:af)(l:List Rs):Option T:=(tD R H l).map Cp
def kz (R:ax)(H:af)(l:List Rd):Prop:=∀r∈l,bV R r.g=true→au R H r.op=some (R r.d,H)
def tE (cs:List T)(off len n:Nat):List (List T):=(List.range len).map fun i=>(cs.drop (off+i*n)).take n
def xw (b:Nat)(cs:List T):T→T
 | .aC b' off len n=>if b'=b∧off+len*n≤cs.length then .sl .arg (tE cs off len n)else .aC b' off len n
 | t=>t
def zx (b:Nat)(cs:List T):T→T
 | .bC vs=>.bC (vs.map (xw b cs))
 | t=>xw b cs t
def AU (b:Nat):T→Prop
 | .bC vs=>∃off len n,T.aC b off len n∈vs
 | .aC b' _ _ _=>b'=b
 | _=>False
def ov (H:af)(b bi:Nat)(es:List (T×T))(ix:List Nat)(t:T)(H':af):Prop :=
 (ix=[]∧t=.bC [.bool false]∧H'=H.set b (.map es))∨∃i e,i∈ix∧es[i]?=some e∧t=.bC [.bool true,e.1,e.2]∧H'=H.set b (.da es (ix.erase i) bi (some i))
inductive W (E:Env):J→af→(Out→af→Prop)→Prop
 | skip {R H Q} (h:Q (.ex .normal R) H):W E (.code .skip R) H Q
 | exit {id R H Q} (h:Q (.ex (.exit id) R) H):W E (.code (.exit id) R) H Q
 | ret {R H Q} (h:Q (.ex .ret R) H):W E (.code .ret R) H Q
 | Sq {l R H Q} (h:W E (.ops l R) H Q):W E (.code (.ops l) R) H Q
 | seq {a b R H Q} (M:Out→af→Prop) (h1:W E (.code a R) H M) (h2:∀R' H',M (.ex .normal R') H'→W E (.code b R') H' Q)
   (h3:∀o H',M o H'→(∀R',o≠.ex .normal R')→Q o H'):W E (.code (.seq a b) R) H Q
 | cond {x a b R H Q} (t:Bool) (hx:x.ev R=.bool t) (h:W E (.code (if t then a else b) R) H Q):W E (.code (.cond x a b) R) H Q
 | block {id a R H Q} (M:Out→af→Prop) (h1:W E (.code a R) H M) (h2:∀R' H',M (.ex (.exit id) R') H'→Q (.ex .normal R') H')
   (h3:∀o H',M o H'→(∀R',o≠.ex (.exit id) R')→Q o H'):W E (.code (.block id a) R) H Q
 | loop {a R H Q} (M:Out→af→Prop) (h1:W E (.code a R) H M) (h2:∀R' H',M (.ex .normal R') H'→W E (.code (.loop a) R') H' Q)
   (h3:∀o H',M o H'→(∀R',o≠.ex .normal R')→Q o H'):W E (.code (.loop a) R) H Q
 | nil {R H Q} (h:Q (.ex .normal R) H):W E (.ops [] R) H Q
 | no {o l R H Q} (hg:bV R o.g=false) (h:W E (.ops l (bR R o.d cf)) H Q):W E (.ops (o :: l) R) H Q
 | op {d b g s l R H Q v H'} (hg:bV R g=true) (he:au R H b=some (v,H')) (hs:kz R H' s) (h:W E (.ops l (bR R d v)) H' Q):W E (.ops (⟨d,.b b,g,s⟩ :: l) R) H Q
 | call {d f as g s l R H Q} (M:Out→af→Prop) (hg:bV R g=true) (h1:W E (.call f (as.map (X.ev R))) H M)
   (hs:∀v H',M (.val v) H'→kz R H' s) (h2:∀v H',M (.val v) H'→W E (.ops l (bR R d v)) H' Q):W E (.ops (⟨d,.call f as,g,s⟩ :: l) R) H Q
 | bJ {d x f cs as g s l R H Q} (M:Out→af→Prop) (hg:bV R g=true) (hf:x.ev R=.fn f cs) (h1:W E (.call f (as.map (X.ev R)++cs)) H M)
   (hs:∀v H',M (.val v) H'→kz R H' s) (h2:∀v H',M (.val v) H'→W E (.ops l (bR R d v)) H' Q):W E (.ops (⟨d,.bJ x as,g,s⟩ :: l) R) H Q
 | Cq {d neg c x y s l R H Q} (hs:s=[]) (h:∀b:Bool,W E (.ops l (bR R d (.bool b))) H Q) (hx:x.ev R=.sl .arg []) (hy:y.ev R=.sl .nil []) (hc:c=.slice) :
   W E (.ops (⟨d,.b (.nH neg c x y),none,s⟩ :: l) R) H Q
 | od {d x b as g s l R H Q n R0 ps cj body} (M1 M:Out→af→Prop) (hg:bV R g=true) (hf:x.ev R=.od b) (hb:H[b]?=some (.loop .ready none n R0 ps cj body)) (hn:as.length=ps.length)
   (h1:W E (.code cj (jv R0 ps (as.map (X.ev R)))) H M1) (DK:∀o H',M1 o H'→(∃R1,o=.ex .normal R1)∧H'[b]?=some (.loop .ready none n R0 ps cj body))
   (h2:∀R1 H1,M1 (.ex .normal R1) H1→W E (.code body R1) (H1.set b (.loop .busy none n R0 ps cj body)) M) (DL:∀o H',M o H'→H'[b]?=some (.loop .busy none n R0 ps cj body))
   (AV:∀R' H',M (.ex .normal R') H'→kz R (H'.set b (.loop .ready none n R0 ps cj body)) s)
   (h3:∀R' H',M (.ex .normal R') H'→W E (.ops l (bR R d (.bool true))) (H'.set b (.loop .ready none n R0 ps cj body)) Q)
   (DM:∀e R' H',M (.ex e R') H'→e≠.normal→kz R (H'.set b (.loop .done (some e) n R0 ps cj body)) s)
   (h4:∀e R' H',M (.ex e R') H'→e≠.normal→W E (.ops l (bR R d (.bool false))) (H'.set b (.loop .done (some e) n R0 ps cj body)) Q):W E (.ops (⟨d,.bJ x as,g,s⟩ :: l) R) H Q
 | cZ {n x ps cj body R H Q f cs} (M:Out→af→Prop) (hx:x.ev R=.fn f cs) (h1:W E (.call f (.od (H.length+1) :: cs)) (H++[.AR,.loop .ready none n R ps cj body]) M)
   (h2:∀v H',M (.val v) H'→∃st gk,st≠.busy∧gk≠some .normal∧H'[H.length+1]?=some (.loop st gk n R ps cj body)∧Q (.ex (Ea gk) (pj R n (ou (R n) H.length))) (H'.set (H.length+1) .dead)) :
   W E (.code (.cZ n x ps cj body) R) H Q
 | Sr {f as H Q fn} (M:Out→af→Prop) (hf:E.fn f=some fn) (hn:as.length=fn.np) (h1:W E (.code fn.body (iq as)) H M)
   (h2:∀o H',M o H'→∃R' bs,(o=.ex .normal R'∨o=.ex .ret R')∧marks (R' fn.n)=some bs∧bs.Nodup∧(∀b∈bs,H'[b]?=some .AR)∧∃v,qB R' (kill H' bs) fn.res=some v∧Q (.val v) (kill H' bs)):W E (.call f as) H Q
 | fn {f as H Q fn} (M:Out→af→Prop) (hf:E.fn f=some fn) (hr:fn.body.na=false) (hn:as.length=fn.np) (h1:W E (.code fn.body (iq as)) H M)
   (h2:∀o H',M o H'→∃R',(o=.ex .normal R'∨o=.ex .ret R')∧∃v,qB R' H' fn.res=some v∧Q (.val v) H'):W E (.call f as) H Q
 | Cr {f as H Q b off len n} (i:Nat) (M:Out→af→Prop) (hi:as[i]?=some (.aC b off len n)) (h1:∀c,len≤c→W E (.call f (as.set i (.eH b off len n c))) H M) (h2:∀v H',M (.val v) H'→Q (.val (xv v)) H'):W E (.call f as) H Q
 | qN {f as H Q} (M:Out→af→Prop) (h1:W E (.call f as) H M) (h2:∀o H',M o H'→∃v b cs,o=.val v∧AU b v∧H'[b]?=some (.cells cs)∧Q (.val (zx b cs v)) (H'.set b .dead)):W E (.call f as) H Q
 | qM {d x g s l R H Q b bi es ix cur} (hg:bV R g=true) (hx:x.ev R=.ptr bi 0) (hb:H[b]?=some (.da es ix bi cur))
   (hs:∀t H',ov H b bi es ix t H'→kz R H' s) (h:∀t H',ov H b bi es ix t H'→W E (.ops l (bR R d t)) H' Q):W E (.ops (⟨d,.b (.qM x),g,s⟩ :: l) R) H Q
 | shr {f as H Q} (M:Out→af→Prop) (h1:W E (.call f as) H M) (h2:∀o H',M o H'→∃v b cs k,o=.val v∧AU b v∧H'[b]?=some (.cells cs)∧Q (.val v) (H'.set b (.cells (cs.take k)))):W E (.call f as) H Q
 | Cs {f as H Q b off len n cs} (i:Nat) (hi:as[i]?=some (.aC b off len n)) (hb:H[b]?=some (.cells cs)) (h:W E (.call f (as.map (zx b cs))) (H.set b .dead) Q):W E (.call f as) H Q
 | pr {f as H Q} (h:E.pr f as H fun v H'=>Q (.val v) H'):W E (.call f as) H Q
inductive Ow where
 | free|nf|mut (b:Nat)|spare (t:Nat)
 deriving DecidableEq
structure Ctx where
 φ:Nat→Option (Nat×Nat×Nat)
 κ:Nat→Nat→Ow
 π:Nat→Nat→Option (Nat×Nat×Nat)
 ck:Nat→C→Code→Prop
def Ct (g:Ctx)(w:World)(r o:Nat)(v:Value):Prop:=g.κ r o=.nf∧w.cell? ⟨r,o,none⟩=some v
def gI (g:Ctx)(k:SK)(r o len cap n:Nat):Prop :=
 match k with
 | .nil=>False
 | .arg=>True
 | .full=>cap=len
 | .own t e=>g.π t e=some (r,o+len*n,o+cap*n)∧0<len
inductive VR (g:Ctx)(w:World):T→Value→Prop
 | int (k n):VR g w (.int k n) (.int k n)
 | bool (b):VR g w (.bool b) (.bool b)
 | str (s):VR g w (.str s) (.string s)
 | br:VR g w .br (.pointer none)
 | ptr {b off r o q} (h:g.φ b=some (r,o,q)):VR g w (.ptr b off) (.pointer (some ⟨r,o+off,none⟩))
 | b0 {cs r o} (dc:Nat→Value) (h1:∀(j:Nat) (t:T),cs[j]?=some t→t.one=true∧Ct g w r (o+j) (dc j)) (h2:∀(j:Nat) (t:T),cs[j]?=some t→VR g w t (dc j)) :
   VR g w (.b0 cs) (.pointer (some ⟨r,o,none⟩))
 | hY:VR g w .hY (.map none)
 | map {b r o q} (h:g.φ b=some (r,o,q)):VR g w (.map b) (.map (some r))
 | slnil:VR g w (.sl .nil []) (.slice none 0 0)
 | jw (a:Option Addr):VR g w (.sl .arg []) (.slice a 0 0)
 | sl {k es r o cap n} (dc:Nat→Nat→Value) (hk:gI g k r o es.length cap n) (hc:es.length≤cap) (hn:∀c∈es,c.length=n)
   (h1:∀(i j:Nat) (c:List T) (t:T),es[i]?=some c→c[j]?=some t→t.one=true∧Ct g w r (o+i*n+j) (dc i j))
   (h2:∀(i j:Nat) (c:List T) (t:T),es[i]?=some c→c[j]?=some t→VR g w t (dc i j)) :
   VR g w (.sl k es) (.slice (some ⟨r,o,none⟩) es.length cap)
 | aC {b off len n r o q cap} (h:g.φ b=some (r,o,q)) (hc:len≤cap) (hq:o+off+cap*n=q):VR g w (.aC b off len n) (.slice (some ⟨r,o+off,none⟩) len cap)
 | eH {b off len n r o q c} (h:g.φ b=some (r,o,q)) (hc:len≤c) (hq:o+off+c*n=q):VR g w (.eH b off len n c) (.slice (some ⟨r,o+off,none⟩) len c)
 | nG:VR g w .nG .nilFunc
 | fn {f lR vs} (hl:vs.size=lR.length) (h:∀(i:Nat) (t:T) (v:Value),lR[i]?=some t→vs[i]?=some v→VR g w t v):VR g w (.fn f lR) (.func (.func f) #[] vs)
 | od {b r o q} (h:g.φ b=some (r,o,q)):VR g w (.od b) (.func (.yield r) #[] #[])
 | hZ:VR g w .hZ .nilIface
 | agg {cs vs} (hl:vs.size=cs.length) (h1:∀t∈cs,t.one=true) (h2:∀(i:Nat) (t:T) (v:Value),cs[i]?=some t→vs[i]?=some v→VR g w t v):VR g w (.agg cs) (.agg vs)
 | bC {cs vs} (hl:vs.size=cs.length) (h2:∀(i:Nat) (t:T) (v:Value),cs[i]?=some t→vs[i]?=some v→VR g w t v):VR g w (.bC cs) (.tuple vs)
structure Le (g:Ctx)(w:World)(g':Ctx)(w':World):Prop where
 φ:∀b x,g.φ b=some x→g'.φ b=some x
 κ:∀r o,g.κ r o=.nf→g'.κ r o=.nf
 π:∀t e x,g.π t e=some x→g'.π t e=some x
 cell:∀r o v,g.κ r o=.nf→w.cell? ⟨r,o,none⟩=some v→w'.cell? ⟨r,o,none⟩=some v
 ck:g'.ck=g.ck
theorem Le.refl (g:Ctx)(w:World):Le g w g w:=⟨fun _ _ h=>h,fun _ _ h=>h,fun _ _ _ h=>h,fun _ _ _ _ h=>h,rfl⟩
theorem Le.trans {g g' Tm:Ctx}{w w' Tn:World}(h:Le g w g' w')(h':Le g' w' Tm Tn):Le g w Tm Tn :=
 ⟨fun b x e=>h'.φ b x (h.φ b x e),fun r o e=>h'.κ r o (h.κ r o e),fun t e x k=>h'.π t e x (h.π t e x k),fun r o v k e=>h'.cell r o v (h.κ r o k) (h.cell r o v k e),h'.ck.trans h.ck⟩
theorem Ct.mono {g g':Ctx}{w w':World}(le:Le g w g' w'){r o:Nat}{v:Value}(h:Ct g w r o v):Ct g' w' r o v:=⟨le.κ _ _ h.1,le.cell _ _ _ h.1 h.2⟩
theorem gI.mono {g g':Ctx}{w w':World}(le:Le g w g' w'){k:SK}{r o len cap n:Nat}(h:gI g k r o len cap n):gI g' k r o len cap n:=by
 cases k with
 | nil=>exact h
 | arg=>exact h
 | full=>exact h
 | own t e=>exact⟨le.π _ _ _ h.1,h.2⟩
theorem VR.mono {g g':Ctx}{w w':World}(le:Le g w g' w'){t:T}{v:Value}(h:VR g w t v):VR g' w' t v:=by
 induction h with
 | int k n=>exact .int k n
 | bool b=>exact .bool b
 | str s=>exact .str s
 | br=>exact .br
 | ptr h=>exact .ptr (le.φ _ _ h)
 | b0 dc h1 _ ih=>exact .b0 dc (fun j t e=>⟨(h1 j t e).1,(h1 j t e).2.mono le⟩) ih
 | hY=>exact .hY
 | map h=>exact .map (le.φ _ _ h)
 | slnil=>exact .slnil
 | jw a=>exact .jw a
 | sl dc hk hc hn h1 _ ih=>exact .sl dc (hk.mono le) hc hn (fun i j c t a b=>⟨(h1 i j c t a b).1,(h1 i j c t a b).2.mono le⟩) ih
 | aC h hc hq=>exact .aC (le.φ _ _ h) hc hq
 | eH h hc hq=>exact .eH (le.φ _ _ h) hc hq
 | nG=>exact .nG
 | fn hl _ ih=>exact .fn hl ih
 | od h=>exact .od (le.φ _ _ h)
 | hZ=>exact .hZ
 | agg hl h1 _ ih=>exact .agg hl h1 ih
 | bC hl _ ih=>exact .bC hl ih
theorem VR.erase {g:Ctx}{w:World}{t:T}{v:Value}(h:VR g w t v):VR g w t.erase v:=by
 cases h with
 | sl dc hk hc hn h1 h2=>exact .sl dc trivial hc hn h1 h2
 | slnil=>exact .jw none
 | jw a=>exact .jw a
 | int k n=>exact .int k n
 | bool b=>exact .bool b
 | str s=>exact .str s
 | br=>exact .br
 | ptr h=>exact .ptr h
 | b0 dc h1 h2=>exact .b0 dc h1 h2
 | hY=>exact .hY
 | map h=>exact .map h
 | aC h hc hq=>exact .aC h hc hq
 | eH h hc hq=>exact .eH h hc hq
 | nG=>exact .nG
 | fn hl h=>exact .fn hl h
 | od h=>exact .od h
 | hZ=>exact .hZ
 | agg hl h1 h2=>exact .agg hl h1 h2
 | bC hl h2=>exact .bC hl h2
theorem Cu (t:T):t.erase.one=t.one:=by cases t<;>rfl
theorem VR.jx {g:Ctx}{w:World}{t:T}{v:Value}(h:VR g w t v)(ho:t.one=true):v.oneCell'=true:=by
 cases h<;>simp_all [T.one,Value.oneCell']
def qO (g:Ctx)(w:World)(b:Nat)(cs:List T)(r o q:Nat):Prop :=
 o+cs.length≤q∧(∀j,o≤j→j<q→g.κ r j=.mut b∧w.frozen? ⟨r,j,none⟩=false∧(w.cell? ⟨r,j,none⟩).isSome=true) ∧
 ∀(i:Nat) (t:T),cs[i]?=some t→t.one=true∧∃v,w.cell? ⟨r,o+i,none⟩=some v∧VR g w t v
def eI (g:Ctx)(w:World)(es:List (T×T))(ay:Array MapEntry):Prop :=
 ay.size=es.length∧∀(i:Nat) (e:T×T) (m:MapEntry),es[i]?=some e→ay[i]?=some m→VR g w e.1 m.key∧VR g w e.2 m.val
def fQ (ay:Array MapEntry)(clock:Nat):Prop:=(∀m∈ay.toList,m.born<clock)∧(ay.toList.map (·.born)).Nodup
def JH (ay:Array MapEntry)(seen:Array Nat)(ix:List Nat)(cur:Option Nat):Prop :=
 ix.Nodup∧(∀i,i∈ix↔∃m,ay[i]?=some m∧m.born∉seen)∧∀c,cur=some c→∃m,ay[c]?=some m∧seen.back?=some m.born
def To (g:Ctx)(w:World)(t e:Nat):Prop :=
 ∃r p q,g.π t e=some (r,p,q)∧p≤q∧(∀j,p≤j→j<q→g.κ r j=.spare t∧w.frozen? ⟨r,j,none⟩=false∧(w.cell? ⟨r,j,none⟩).isSome=true)∧∀e',e<e'→g.π t e'=none
def Oa.real:Oa→LoopState
 | .ready=>.ready
 | .busy=>.busy
 | .done=>.done
def xy:Option Ex→Option Code
 | some .ret=>some .ret
 | some (.exit id)=>some (.exit id)
 | _=>none
def vz (g:Ctx)(w:World)(st:Oa)(gk:Option Ex)(n:Nat)(R:Nat→T)(ps:List Nat)(cj body:C)(rec:Loop):Prop :=
 rec.state=st.real∧rec.pending=xy gk∧rec.params.toList=ps∧rec.tmps.size=n∧(∀t,t<n→VR g w (R t) (rec.tmps.getD t undef))∧(∀p∈ps,p<n)∧g.ck n cj rec.assign∧g.ck n body rec.body
def AW (g:Ctx)(w:World)(b:Nat):B→Prop
 | .cells cs=>∀r o q,g.φ b=some (r,o,q)→qO g w b cs r o q
 | .map es=>∀r o q,g.φ b=some (r,o,q)→g.κ r 0=.mut b∧∃ay clock,w.heap[r]?=some (.map ay clock)∧eI g w es ay∧fQ ay clock
 | .tok e=>To g w b e
 | .loop st gk n R ps cj body=>∀r o q,g.φ b=some (r,o,q)→g.κ r 0=.mut b∧∃rec,w.heap[r]?=some (.loop rec)∧vz g w st gk n R ps cj body rec
 | .AR=>∀r o q,g.φ b=some (r,o,q)→g.κ r 0=.mut b∧w.heap[r]?=some (.deferred (some []))
 | .dead=>True
 | .da es ix bi cur=>∃r o q,g.φ b=some (r,o,q)∧g.κ r 0=.mut b∧∃ay clock,w.heap[r]?=some (.map ay clock)∧eI g w es ay∧fQ ay clock ∧
   ∃ri q' seen,g.φ bi=some (ri,0,q')∧g.κ ri 0=.mut b∧w.heap[ri]?=some (.mapIter (some r) clock seen clock)∧JH ay seen ix cur
 | .vw _=>True
structure SR (w0:World)(g:Ctx)(H:af)(w:World):Prop where
 size:w0.heap.size≤w.heap.size
 kC:∀r,r<w0.heap.size→w.heap[r]?=w0.heap[r]?
 Cv:∀r o,r<w0.heap.size→g.κ r o=.nf
 fresh:∀r o,w.heap.size≤r→g.κ r o=.free
 tF:∀b x,g.φ b=some x→b<H.length
 jH:∀t e x,g.π t e=some x→t<H.length
 eG:∀b x,H[b]?=some x→AW g w b x
 qN:∀r j,w0.heap.size≤r→w.frozen? ⟨r,j,none⟩=false
 env:w.os=w0.os∧w.output=w0.output
def fR:Obj→Bool
 | .map _ _ | .loop _ | .deferred _ | .mapIter _ _ _ _=>true
 | _=>false
structure Tr (w w':World)(S:Nat→Nat→Prop)(M:Nat→Prop):Prop where
 size:w.heap.size≤w'.heap.size
 cell:∀r j,r<w.heap.size→¬S r j→w'.cell? ⟨r,j,none⟩=w.cell? ⟨r,j,none⟩
 qN:∀r j,r<w.heap.size→w'.frozen? ⟨r,j,none⟩=w.frozen? ⟨r,j,none⟩
 eJ:∀r j,r<w.heap.size→(w.cell? ⟨r,j,none⟩).isSome=true→(w'.cell? ⟨r,j,none⟩).isSome=true
 maps:∀r x,¬M r→fR x=true→w.heap[r]?=some x→w'.heap[r]?=some x
 kC:∀r,r<w.heap.size→¬M r→(∀j,¬S r j)→w'.heap[r]?=w.heap[r]?
 zy:∀r j,w.heap.size≤r→w'.frozen? ⟨r,j,none⟩=false
 env:w'.os=w.os∧w'.output=w.output
theorem dI {w:World}{r j:Nat}(h:w.heap.size≤r):w.frozen? ⟨r,j,none⟩=false:=by
 unfold World.frozen?
 rw[Array.getElem?_eq_none h]
theorem kD {w:World}{r j:Nat}{v:Value}(h:w.cell? ⟨r,j,none⟩=some v):r<w.heap.size:=by
 unfold World.cell? at h
 cases hr:w.heap[r]? with
 | none=>simp[hr]at h
 | some x=>exact(Array.getElem?_eq_some_iff.1 hr).1
theorem qO.mono {g g':Ctx}{w w':World}{b:Nat}{cs:List T}{r o q:Nat}(h:qO g w b cs r o q)(le:Le g w g' w')
  (hκ:∀j,o≤j→j<q→g'.κ r j=.mut b) (hf:∀j,o≤j→j<q→w'.frozen? ⟨r,j,none⟩=w.frozen? ⟨r,j,none⟩∧w'.cell? ⟨r,j,none⟩=w.cell? ⟨r,j,none⟩):qO g' w' b cs r o q:=by
 obtain⟨h1,h2,h3⟩:=h
 refine⟨h1,fun j hj hq=>⟨hκ j hj hq,by rw[(hf j hj hq).1];exact(h2 j hj hq).2.1,by rw[(hf j hj hq).2];exact(h2 j hj hq).2.2⟩,fun i t hi=>?_⟩
 have aq:i<cs.length:=(List.getElem?_eq_some_iff.1 hi).1
 obtain⟨h4,v,h5,h6⟩:=h3 i t hi
 exact⟨h4,v,by rw[(hf (o+i) (by omega) (by omega)).2];exact h5,h6.mono le⟩
theorem eI.mono {g g':Ctx}{w w':World}{es:List (T×T)}{ay:Array MapEntry}(h:eI g w es ay)(le:Le g w g' w'):eI g' w' es ay :=
 ⟨h.1,fun i e m a b=>⟨(h.2 i e m a b).1.mono le,(h.2 i e m a b).2.mono le⟩⟩
theorem vz.mono {g g':Ctx}{w w':World}{st:Oa}{gk:Option Ex}{n:Nat}{R:Nat→T}{ps:List Nat}{cj body:C}{rec:Loop}(h:vz g w st gk n R ps cj body rec)(le:Le g w g' w'):vz g' w' st gk n R ps cj body rec:=by
 obtain⟨h1,h2,h3,h4,h5,h6,h7,h8⟩:=h
 exact⟨h1,h2,h3,h4,fun t ht=>(h5 t ht).mono le,h6,by rw[le.ck];exact h7,by rw[le.ck];exact h8⟩
theorem SR.step {w0 w w':World}{g g':Ctx}{H H':af}(h:SR w0 g H w)(Ob:Nat→Prop){S:Nat→Nat→Prop}{M:Nat→Prop}(tr:Tr w w' S M)(le:Le g w g' w')
  (hS:∀r j,S r j→g.κ r j=.free∨(∃b,g.κ r j=.mut b∧Ob b)∨∃b,g.κ r j=.spare b∧Ob b) (hM:∀r,M r→∃b,g.κ r 0=.mut b∧Ob b)
  (Oc:∀r o,w'.heap.size≤r→g'.κ r o=.free) (Zc:∀b x,g'.φ b=some x→b<H'.length) (Tp:∀t e x,g'.π t e=some x→t<H'.length)
  (kφ:∀b,b<H.length→¬Ob b→g'.φ b=g.φ b) (kκ:∀r j b,¬Ob b→(g.κ r j=.mut b→g'.κ r j=.mut b)∧(g.κ r j=.spare b→g'.κ r j=.spare b))
  (kπ:∀t e,t<H.length→¬Ob t→g'.π t e=g.π t e)
  (hb:∀b x,H'[b]?=some x→(¬Ob b∧H[b]?=some x)∨AW g' w' b x):SR w0 g' H' w':=by
 have nS:∀r j,r<w0.heap.size→¬S r j:=by
  intro r j hr hs
  have:=h.Cv r j hr
  rcases hS r j hs with e|⟨b,e,_⟩|⟨b,e,_⟩<;>simp[this]at e
 have nM:∀r,r<w0.heap.size→¬M r:=by
  intro r hr hm
  have:=h.Cv r 0 hr
  obtain⟨b,e,_⟩:=hM r hm
  simp[this]at e
 refine⟨Nat.le_trans h.size tr.size,fun r hr=>?_,fun r o hr=>le.κ _ _ (h.Cv r o hr),Oc,Zc,Tp,fun b x hx=>?_,fun r j hr=>(by
  by_cases hw:r<w.heap.size
  ·rw[tr.qN r j hw];exact h.qN r j hr
  ·exact tr.zy r j (by omega)),tr.env.1.trans h.env.1,tr.env.2.trans h.env.2⟩
 ·rw[tr.kC r (Nat.lt_of_lt_of_le hr h.size) (nM r hr) (fun j=>nS r j hr)]
  exact h.kC r hr
 ·rcases hb b x hx with⟨nt,ku⟩|qP
  ·have aq:b<H.length:=(List.getElem?_eq_some_iff.1 ku).1
   have hk:=h.eG b x ku
   have nSm:∀r j,g.κ r j=.mut b∨g.κ r j=.spare b→¬S r j:=by
    intro r j hm hs
    rcases hS r j hs with e|⟨b',e,ht⟩|⟨b',e,ht⟩<;>rcases hm with hm|hm<;>simp[hm]at e
    ·exact nt (e▸ht)
    ·exact nt (e▸ht)
   cases x with
   | cells cs =>
    intro r o q hφ
    have lO:g.φ b=some (r,o,q):=by rw[←kφ b aq nt];exact hφ
    have hc:=hk r o q lO
    refine hc.mono le (fun j a c=>(kκ r j b nt).1 (hc.2.1 j a c).1) fun j a c=>?_
    have hh:=hc.2.1 j a c
    have hr:r<w.heap.size:=by
     cases hv:w.cell? ⟨r,j,none⟩with
     | none=>simp[hv]at hh
     | some v=>exact kD hv
    exact⟨tr.qN r j hr,tr.cell r j hr (nSm r j (.inl hh.1))⟩
   | map es =>
    intro r o q hφ
    have lO:g.φ b=some (r,o,q):=by rw[←kφ b aq nt];exact hφ
    obtain⟨h1,ay,c,h2,h3⟩:=hk r o q lO
    refine⟨(kκ r 0 b nt).1 h1,ay,c,tr.maps r _ (fun hm=>?_) rfl h2,h3.1.mono le,h3.2⟩
    obtain⟨b',e,ht⟩:=hM r hm
    rw[h1]at e;cases e;exact nt ht
   | da es ix bi cur =>
    obtain⟨r,o,q,hφ,h1,ay,c,h2,h3,h4,ri,q',seen,h5,h6,h7,h8⟩:=hk
    refine⟨r,o,q,le.φ _ _ hφ,(kκ r 0 b nt).1 h1,ay,c,tr.maps r _ (fun hm=>?_) rfl h2,h3.mono le,h4,ri,q',seen,le.φ _ _ h5,(kκ ri 0 b nt).1 h6,tr.maps ri _ (fun hm=>?_) rfl h7,h8⟩
    ·obtain⟨b',e,ht⟩:=hM r hm
     rw[h1]at e;cases e;exact nt ht
    ·obtain⟨b',e,ht⟩:=hM ri hm
     rw[h6]at e;cases e;exact nt ht
   | vw _=>trivial
   | tok e =>
    obtain⟨r,p,q,h1,h2,h3,h4⟩:=hk
    refine⟨r,p,q,le.π _ _ _ h1,h2,fun j a c=>?_,fun e' he=>by rw[kπ b e' aq nt];exact h4 e' he⟩
    have hh:=h3 j a c
    have hr:r<w.heap.size:=by
     cases hv:w.cell? ⟨r,j,none⟩with
     | none=>simp[hv]at hh
     | some v=>exact kD hv
    exact⟨(kκ r j b nt).2 hh.1,by rw[tr.qN r j hr];exact hh.2.1,by rw[tr.cell r j hr (nSm r j (.inr hh.1))];exact hh.2.2⟩
   | loop st gk n R ps cj body =>
    intro r o q hφ
    have lO:g.φ b=some (r,o,q):=by rw[←kφ b aq nt];exact hφ
    obtain⟨h1,rec,h2,h3⟩:=hk r o q lO
    refine⟨(kκ r 0 b nt).1 h1,rec,tr.maps r _ (fun hm=>?_) rfl h2,h3.mono le⟩
    obtain⟨b',e,ht⟩:=hM r hm
    rw[h1]at e;cases e;exact nt ht
   | AR =>
    intro r o q hφ
    have lO:g.φ b=some (r,o,q):=by rw[←kφ b aq nt];exact hφ
    obtain⟨h1,h2⟩:=hk r o q lO
    refine⟨(kκ r 0 b nt).1 h1,tr.maps r _ (fun hm=>?_) rfl h2⟩
    obtain⟨b',e,ht⟩:=hM r hm
    rw[h1]at e;cases e;exact nt ht
   | dead=>trivial
  ·exact qP
def Fr (g:Ctx)(H:af)(g':Ctx)(H':af):Prop :=
 H.length≤H'.length∧∀b x,H[b]?=some x→(∀e,x≠.tok e)→g.φ b=none→H'[b]?=some x∧g'.φ b=none
theorem Fr.refl (g:Ctx)(H:af):Fr g H g H:=⟨Nat.le_refl _,fun _ _ h _ k=>⟨h,k⟩⟩
theorem Fr.trans {g g' Tm:Ctx}{H H' xz:af}(h:Fr g H g' H')(h':Fr g' H' Tm xz):Fr g H Tm xz :=
 ⟨Nat.le_trans h.1 h'.1,fun b x a c d=>let ⟨e,f⟩:=h.2 b x a c d;h'.2 b x e c f⟩
def cq (P:Program)(w0:World)(g:Ctx)(H:af)(w:World)(s:Sem Value)(t:T)(H':af):Prop :=
 ∃v w' g',s.run P w=.ok v w'∧Le g w g' w'∧SR w0 g' H' w'∧VR g' w' t v∧Fr g H g' H'
theorem cq.same {P:Program}{w0:World}{g:Ctx}{H:af}{w:World}{s:Sem Value}{t:T}{v:Value}(h:SR w0 g H w)(hr:s.run P w=.ok v w)(hv:VR g w t v):cq P w0 g H w s t H :=
 ⟨v,w,g,hr,.refl _ _,h,hv,.refl _ _⟩
def bL (g:Ctx)(w:World)(ts:List T)(vs:List Value):Prop:=ts.length=vs.length∧∀(i:Nat) (t:T) (v:Value),ts[i]?=some t→vs[i]?=some v→VR g w t v
theorem bL.mono {g g':Ctx}{w w':World}(le:Le g w g' w'){ts:List T}{vs:List Value}(h:bL g w ts vs):bL g' w' ts vs:=⟨h.1,fun i t v a b=>(h.2 i t v a b).mono le⟩
theorem bL.nil {g:Ctx}{w:World}:bL g w [] []:=⟨rfl,fun i t v h=>by simp at h⟩
theorem bL.cons {g:Ctx}{w:World}{t:T}{v:Value}{ts:List T}{vs:List Value}(h:VR g w t v)(hs:bL g w ts vs):bL g w (t :: ts) (v :: vs) :=
 ⟨by simp[hs.1],fun i a b ha hb=>by
  cases i with
  | zero=>simp at ha hb;subst ha;subst hb;exact h
  | succ i=>exact hs.2 i a b (by simpa using ha) (by simpa using hb)⟩
theorem bL.head {g:Ctx}{w:World}{t:T}{v:Value}{ts:List T}{vs:List Value}(h:bL g w (t :: ts) (v :: vs)):VR g w t v:=h.2 0 t v rfl rfl
theorem bL.tail {g:Ctx}{w:World}{t:T}{v:Value}{ts:List T}{vs:List Value}(h:bL g w (t :: ts) (v :: vs)):bL g w ts vs :=
 ⟨by have:=h.1;simpa using this,fun i a b ha hb=>h.2 (i+1) a b (by simpa using ha) (by simpa using hb)⟩
theorem bL.append {g:Ctx}{w:World}{ts Od:List T}{vs Ss:List Value}(h:bL g w ts vs)(h':bL g w Od Ss):bL g w (ts++Od) (vs++Ss):=by
 refine⟨by simp[h.1,h'.1],fun i t v ha hb=>?_⟩
 rw[List.getElem?_append]at ha hb
 rw[←h.1]at hb
 split at ha
 ·rename_i hi;rw[if_pos hi]at hb;exact h.2 i t v ha hb
 ·rename_i hi;rw[if_neg hi]at hb;exact h'.2 _ t v ha hb
theorem bL.take {g:Ctx}{w:World}{ts:List T}{vs:List Value}(n:Nat)(h:bL g w ts vs):bL g w (ts.take n) (vs.take n) :=
 ⟨by simp[h.1],fun i t v ha hb=>by
  rw[List.getElem?_take]at ha hb
  split at ha
  ·rename_i hi;rw[if_pos hi]at hb;exact h.2 i t v ha hb
  ·simp at ha⟩
theorem bL.drop {g:Ctx}{w:World}{ts:List T}{vs:List Value}(n:Nat)(h:bL g w ts vs):bL g w (ts.drop n) (vs.drop n) :=
 ⟨by simp[h.1],fun i t v ha hb=>by
  rw[List.getElem?_drop]at ha hb
  exact h.2 _ t v ha hb⟩
def cI (cs:List T):Prop:=∀t∈cs,t.one=true
theorem bL.jx {g:Ctx}{w:World}{ts:List T}{vs:List Value}(h:bL g w ts vs)(ho:cI ts):∀v∈vs,v.oneCell'=true:=by
 intro v hv
 obtain⟨i,hi,rfl⟩:=List.getElem_of_mem hv
 have lF:i<ts.length:=by rw[h.1];exact hi
 exact(h.2 i ts[i] vs[i] (List.getElem?_eq_getElem lF) (List.getElem?_eq_getElem hi)).jx (ho _ (List.getElem_mem lF))
theorem dA (r o j:Nat):(⟨r,o,none⟩:Addr).add j=⟨r,o+j,none⟩:=by
 unfold Addr.add;split<;>simp_all
theorem rl {w:World}{r o:Nat}:∀(n:Nat) (f:Nat→Value),(∀j,j<n→w.cell? ⟨r,o+j,none⟩=some (f j))→∀(j:Nat) (v:Value),((List.range n).map f)[j]?=some v→w.cell? ⟨r,o+j,none⟩=some v:=by
 intro n f h j v hv
 have hj:j<n:=by
  have:=(List.getElem?_eq_some_iff.1 hv).1
  simpa using this
 rw[h j hj]
 simp[hj]at hv
 rw[hv]
theorem pt {w0 w:World}{g:Ctx}{H:af}{n:Nat}{p:T}{vp:Value}{cs:List T}(h:SR w0 g H w)(hv:VR g w p vp)(he:nu H n p=some cs) :
  ∃r o vs,vp=.pointer (some ⟨r,o,none⟩)∧vs.length=n∧(∀(j:Nat) (v:Value),vs[j]?=some v→w.cell? ⟨r,o+j,none⟩=some v)∧bL g w cs vs∧cI cs:=by
 cases hv with
 | @ptr b off r o q hφ =>
  simp only[nu]at he
  cases hb:H[b]? with
  | none=>simp[hb]at he
  | some x =>
   cases x with
   | cells ME =>
    simp only[hb]at he
    split at he
    ·rename_i hle
     simp at he
     subst he
     obtain⟨h1,h2,h3⟩:=h.eG b _ hb r o q hφ
     have key:∀j,j<n→∃t v,ME[off+j]?=some t∧t.one=true∧w.cell? ⟨r,o+off+j,none⟩=some v∧VR g w t v:=by
      intro j hj
      have aq:off+j<ME.length:=by omega
      obtain⟨a,v,b',c⟩:=h3 (off+j) ME[off+j] (List.getElem?_eq_getElem aq)
      exact⟨_,v,List.getElem?_eq_getElem aq,a,by rw[Nat.add_assoc];exact b',c⟩
     refine⟨r,o+off,(List.range n).map (fun j=>(w.cell? ⟨r,o+off+j,none⟩).getD undef),rfl,by simp,rl n _ (fun j hj=>?_),⟨by simp;omega,fun i t v ha jN=>?_⟩,fun t ht=>?_⟩
     ·obtain⟨t,v,_,_,e,_⟩:=key j hj
      simp[e]
     ·have hi:i<n:=by
       have:=(List.getElem?_eq_some_iff.1 jN).1
       simpa using this
      obtain⟨t',v',e1,e2,e3,e4⟩:=key i hi
      simp[hi]at jN
      rw[e3]at jN;simp at jN
      rw[List.getElem?_take,if_pos hi,List.getElem?_drop,e1]at ha
      simp at ha
      subst ha;subst jN;exact e4
     ·obtain⟨i,hi,rfl⟩:=List.getElem_of_mem ht
      simp at hi
      obtain⟨t',v',e1,e2,_,_⟩:=key i (by omega)
      have Oe:=(List.getElem?_eq_some_iff.1 e1).2
      simp[Oe,e2]
    ·simp at he
   | map _=>simp[hb]at he
   | tok _=>simp[hb]at he
   | _=>simp[hb]at he
 | @b0 ME r o dc h1 h2 =>
  simp only[nu]at he
  split at he
  ·rename_i hle
   simp at he
   subst he
   have get:∀i,i<n→∃t,ME[i]?=some t:=fun i hi=>⟨ME[i]'(by omega),List.getElem?_eq_getElem _⟩
   refine⟨r,o,(List.range n).map dc,rfl,by simp,rl n _ (fun j hj=>?_),⟨by simp;omega,fun i t v ha hb=>?_⟩,fun t ht=>?_⟩
   ·obtain⟨t,e⟩:=get j hj
    exact(h1 j t e).2.2
   ·have hi:i<n:=by
     have:=(List.getElem?_eq_some_iff.1 hb).1
     simpa using this
    simp[hi]at hb
    rw[List.getElem?_take,if_pos hi]at ha
    rw[←hb];exact h2 i t ha
   ·obtain⟨i,hi,rfl⟩:=List.getElem_of_mem ht
    simp at hi
    have:ME[i]?=some ME[i]:=List.getElem?_eq_getElem _
    simp
    exact(h1 i _ this).1
  ·simp at he
 | _=>simp[nu]at he
theorem bL.agg {g:Ctx}{w:World}{cs:List T}{vs:List Value}(h:bL g w cs vs)(ho:cI cs):VR g w (.agg cs) (.agg vs.toArray) :=
 .agg (by simp[h.1]) ho (fun i t v ha hb=>h.2 i t v ha (by simpa using hb))
theorem bL.bC {g:Ctx}{w:World}{cs:List T}{vs:List Value}(h:bL g w cs vs):VR g w (.bC cs) (.tuple vs.toArray) :=
 .bC (by simp[h.1]) (fun i t v ha hb=>h.2 i t v ha (by simpa using hb))
theorem VR.gJ {g:Ctx}{w:World}{cs:List T}{v:Value}(h:VR g w (.agg cs) v):∃vs:List Value,v=.agg vs.toArray∧bL g w cs vs∧cI cs:=by
 cases h with
 | @agg _ vs hl h1 h2=>exact⟨vs.toList,by simp,⟨by simp[hl],fun i t v ha hb=>h2 i t v ha (by simpa using hb)⟩,h1⟩
theorem VR.JI {g:Ctx}{w:World}{cs:List T}{v:Value}(h:VR g w (.bC cs) v):∃vs:List Value,v=.tuple vs.toArray∧bL g w cs vs:=by
 cases h with
 | @bC _ vs hl h2=>exact⟨vs.toList,by simp,⟨by simp[hl],fun i t v ha hb=>h2 i t v ha (by simpa using hb)⟩⟩
theorem jV {g:Ctx}{w:World}{t:T}{v:Value}{cs:List T}(h:VR g w t v)(hc:t.cells?=some cs):bL g w cs v.cells.toList∧cI cs:=by
 by_cases ha:∃c,t=.agg c
 ·obtain⟨c,rfl⟩:=ha
  simp[T.cells?]at hc;subst hc
  obtain⟨vs,rfl,h1,h2⟩:=h.gJ
  exact⟨by simpa[Value.cells]using h1,h2⟩
 ·by_cases ht:∃c,t=.bC c
  ·obtain⟨c,rfl⟩:=ht;simp[T.cells?]at hc
  ·have e:cs=[t]:=by cases t<;>simp_all [T.cells?]
   have o:t.one=true:=by cases t<;>simp_all [T.one]
   have ev:v.cells=#[v]:=by
    have:=h.jx o
    cases v<;>simp_all [Value.cells,Value.oneCell']
   subst e
   rw[ev]
   exact⟨bL.cons h bL.nil,by simpa[cI]using o⟩
theorem rm {g:Ctx}{w:World}{cs:List T}{vs:List Value}{ag:Bool}{t:T}(h:bL g w cs vs)(ho:cI cs)(hv:valOf ag cs=some t) :
  (ag=true→VR g w t (.agg vs.toArray))∧(ag=false→∃v,vs=[v]∧VR g w t v):=by
 cases ag with
 | true=>simp[valOf]at hv;subst hv;exact⟨fun _=>h.agg ho,by simp⟩
 | false =>
  refine⟨by simp,fun _=>?_⟩
  cases cs with
  | nil=>simp[valOf]at hv
  | cons c cs =>
   cases cs with
   | nil =>
    simp[valOf]at hv;subst hv
    cases vs with
    | nil=>have:=h.1;simp at this
    | cons v vs =>
     cases vs with
     | nil=>exact⟨v,rfl,h.head⟩
     | cons _ _=>have:=h.1;simp at this
   | cons _ _=>simp[valOf]at hv
theorem bu {P:Program}{w:World}{t:TypeId}{i:TypeInfo}(h:P.info? t=some i):(typeInfo t).run P w=.ok i w:=by
 simp[typeInfo,h]
def eM:TypeDesc→Bool
 | .struct _ | .array _ _=>true
 | _=>false
theorem fv {P:Program}{t:TypeId}{d:TypeDesc}(h:P.underlying t=some d)(w:World):(isAgg t).run P w=.ok (eM d) w:=by
 simp only[isAgg,Sem.run_bind,run_underlying h,Result.andThen_ok]
 cases d<;>rfl
theorem Of {P:Program}{w0 w:World}{g:Ctx}{H:af}{n:Nat}{ag:Bool}{p t:T}{vp:Value}{cs:List T}{ty:TypeId}{d:TypeDesc}{i:TypeInfo}
  (hd:P.underlying ty=some d) (hi:P.info? ty=some i) (xA:eM d=ag) (hn:ag=true→i.size=n)
  (h:SR w0 g H w) (hv:VR g w p vp) (he:nu H n p=some cs) (ht:valOf ag cs=some t):cq P w0 g H w (Instr.loadAt ty vp) t H:=by
 obtain⟨r,o,vs,rfl,h1,h2,h3,h4⟩:=pt h hv he
 obtain⟨ha,hb⟩:=rm h3 h4 ht
 cases ag with
 | true =>
  refine cq.same h (v:=.agg vs.toArray) ?_ (ha rfl)
  have:=run_loadCells_list (P:=P) w ⟨r,o,none⟩ vs (fun j v hj=>by rw[dA];exact h2 j v hj)
  simp[Instr.loadAt,Instr.sureAddr,loadVar,fv hd,xA,sizeOf,bu hi,hn rfl,←h1,this]
 | false =>
  obtain⟨v,rfl,gw⟩:=hb rfl
  refine cq.same h (v:=v) ?_ gw
  have:=h2 0 v rfl
  simp at this
  simp[Instr.loadAt,Instr.sureAddr,loadVar,fv hd,xA,run_load,this]
theorem JJ {P:Program}{w0 w:World}{g:Ctx}{H:af}{n:Nat}{ag:Bool}{p t:T}{vp:Value}{cs:List T}{ty:TypeId}{d:TypeDesc}{i:TypeInfo}
  (hd:P.underlying ty=some d) (hi:P.info? ty=some i) (xA:eM d=ag) (hn:ag=true→i.size=n)
  (h:SR w0 g H w) (hv:VR g w p vp) (he:nu H n p=some cs) (ht:valOf ag cs=some t):∃v w' g',(Instr.loadAt ty vp).run P w=.ok v w'∧w'=w∧VR g' w t v∧g'=g:=by
 obtain⟨r,o,vs,rfl,h1,h2,h3,h4⟩:=pt h hv he
 obtain⟨ha,hb⟩:=rm h3 h4 ht
 cases ag with
 | true =>
  refine⟨.agg vs.toArray,w,g,?_,rfl,ha rfl,rfl⟩
  have:=run_loadCells_list (P:=P) w ⟨r,o,none⟩ vs (fun j v hj=>by rw[dA];exact h2 j v hj)
  simp[Instr.loadAt,Instr.sureAddr,loadVar,fv hd,xA,sizeOf,bu hi,hn rfl,←h1,this]
 | false =>
  obtain⟨v,rfl,gw⟩:=hb rfl
  refine⟨v,w,g,?_,rfl,gw,rfl⟩
  have:=h2 0 v rfl
  simp at this
  simp[Instr.loadAt,Instr.sureAddr,loadVar,fv hd,xA,run_load,this]
section
variable {P:Program} {w:World} {op:BinOp} {ty:TypeId} {x y:Operand}
theorem ug {k k':IntKind}{a b:Int}:(eqGuard op ty x y (.int k a) (.int k' b)).run P w=.ok () w:=by cases op<;>rfl
theorem uh {a b:ByteArray}:(eqGuard op ty x y (.string a) (.string b)).run P w=.ok () w:=by cases op<;>rfl
theorem kE {a b:Bool}:(eqGuard op ty x y (.bool a) (.bool b)).run P w=.ok () w:=by cases op<;>rfl
theorem Cw {a b:Option Addr}:(eqGuard op ty x y (.pointer a) (.pointer b)).run P w=.ok () w:=by cases op<;>rfl
theorem xB {a b:Option Addr}{c d e f:Nat}:(eqGuard op ty x y (.slice a c d) (.slice b e f)).run P w=.ok () w:=by cases op<;>rfl
theorem Cx {a b:Option Nat}:(eqGuard op ty x y (.map a) (.map b)).run P w=.ok () w:=by cases op<;>rfl
theorem Eb {f:Go.Fn}{a b:Array Value}:(eqGuard op ty x y (.func f a b) .nilFunc).run P w=.ok () w:=by cases op<;>rfl
theorem Ec {f:Go.Fn}{a b:Array Value}:(eqGuard op ty x y .nilFunc (.func f a b)).run P w=.ok () w:=by cases op<;>rfl
theorem Ed:(eqGuard op ty x y .nilFunc .nilFunc).run P w=.ok () w:=by cases op<;>rfl
end
section
variable {P:Program} {w:World} {ty:TypeId}
theorem ui (n:Nat)(h:P.underlying ty=some .bool)(a b:Bool):(Op.equalIn (n+1) ty (.bool a) (.bool b)).run P w=.ok (a==b) w:=by
 rw[Op.equalIn];simp only[Sem.run_bind,run_underlying h,Result.andThen_ok];rfl
theorem Ee (n:Nat){k:IntKind}(h:P.underlying ty=some (.int k))(a b:Int)(k':IntKind):(Op.equalIn (n+1) ty (.int k' a) (.int k' b)).run P w=.ok (a==b) w:=by
 rw[Op.equalIn];simp only[Sem.run_bind,run_underlying h,Result.andThen_ok];simp
theorem Ef (n:Nat)(h:P.underlying ty=some .string)(a b:ByteArray):(Op.equalIn (n+1) ty (.string a) (.string b)).run P w=.ok (a==b) w:=by
 rw[Op.equalIn];simp only[Sem.run_bind,run_underlying h,Result.andThen_ok];rfl
theorem gP {x y:Value}{b:Bool}(h:∀n,(Op.equalIn (n+1) ty x y).run P w=.ok b w):(Op.equal ty x y).run P w=.ok b w:=h 9999
theorem rn (h:P.underlying ty=some .bool)(a b:Bool):(Op.equal ty (.bool a) (.bool b)).run P w=.ok (a==b) w:=gP fun n=>ui n h a b
end
theorem JK {P:Program}{w0 w:World}{g:Ctx}{H:af}{op:BinOp}{x y t:T}{vx vy:Value}{ty:TypeId}{ox oy:Operand}
  (h:SR w0 g H w) (hx:VR g w x vx) (hy:VR g w y vy) (he:cQ op x y=some t):cq P w0 g H w (do eqGuard op ty ox oy vx vy;binOp op ty vx vy) t H:=by
 cases hx<;>cases hy<;>(try (simp[cQ]at he;done))
 case int.int k a k' b =>
  have key:∃v,(binOp op ty (.int k a) (.int k' b)).run P w=.ok v w∧VR g w t v:=by
   cases op<;>simp only[cQ]at he<;>(repeat' (split at he))<;>(try (simp at he;done)) <;>
    (simp at he;subst he;first
     | (refine⟨_,?_,.int _ _⟩;simp_all [binOp,Op.shift,Op.intArith,Op.intDiv,Op.intBits,Op.intCmp];done)
     | (refine⟨_,?_,.int _ _⟩;rename_i hs;simp only[binOp,Op.shift,if_neg hs,Sem.run_pure];done)
     | (refine⟨_,?_,.bool _⟩;simp_all [binOp,Op.shift,Op.intArith,Op.intDiv,Op.intBits,Op.intCmp];done))
  obtain⟨v,hr,hv⟩:=key
  refine cq.same h (v:=v) ?_ hv
  simp[ug,uh,kE,hr]
 case str.str a b =>
  have key:∃v,(binOp op ty (.string a) (.string b)).run P w=.ok v w∧VR g w t v:=by
   cases op<;>simp only[cQ]at he<;>(repeat' (split at he))<;>(try (simp at he;done)) <;>
    (simp at he;subst he;first
     | (refine⟨_,?_,.str _⟩;rename_i hs;simp[binOp,Op.stringOp,IntKind.max,IntKind.signed,IntKind.bits];omega)
     | (refine⟨_,?_,.bool _⟩;simp[binOp,Op.stringOp,jS,strLt];done))
  obtain⟨v,hr,hv⟩:=key
  refine cq.same h (v:=v) ?_ hv
  simp[ug,uh,kE,hr]
theorem JL {P:Program}{w0 w:World}{g:Ctx}{H:af}{neg:Bool}{a b:Bool}{vx vy:Value}{ty:TypeId}{ox oy:Operand}(hu:P.underlying ty=some .bool)
  (h:SR w0 g H w) (hx:VR g w (.bool a) vx) (hy:VR g w (.bool b) vy) :
  cq P w0 g H w (do eqGuard (if neg then .neq else .eql) ty ox oy vx vy;binOp (if neg then .neq else .eql) ty vx vy) (.bool (if neg then !(a==b)else a==b)) H:=by
 cases hx;cases hy
 cases neg
 ·refine cq.same h (v:=.bool (a==b)) ?_ (.bool _)
  simp only[Bool.false_eq_true,if_false,Sem.run_bind,kE,Result.andThen_ok,binOp,rn hu,Sem.run_pure]
 ·refine cq.same h (v:=.bool (!(a==b))) ?_ (.bool _)
  simp only[if_true,Sem.run_bind,kE,Result.andThen_ok,binOp,rn hu,Sem.run_pure]
def Eg:JF→TypeDesc→Bool
 | .ptr,.pointer _ | .slice,.slice _ | .map,.map _ _ | .func,.func _ _ _=>true
 | _,_=>false
theorem xC {g:Ctx}{w:World}{c:JF}{x:T}{vx:Value}{b:Bool}(hx:VR g w x vx)(h:lx c x=some b) :
  match c with
  | .ptr=>∃a:Option Addr,vx=.pointer a∧a.isNone=b
  | .slice=>∃(a:Option Addr) (l p:Nat),vx=.slice a l p∧a.isNone=b
  | .map=>∃r:Option Nat,vx=.map r∧r.isNone=b
  | .func=>(b=true∧vx=.nilFunc)∨(b=false∧∃f vs,vx=.func f #[] vs):=by
 cases c<;>cases hx<;>first
  | (change (none:Option Bool)=some b at h;simp at h;done)
  | (change some true=some b at h;simp at h;subst h;simp;done)
  | (change some false=some b at h;simp at h;subst h;simp;done)
  | skip
 case slice.sl k es r o cap n dc hk hc hn h1 h2 =>
  have hb:b=false:=by
   cases k
   ·exact hk.elim
   ·cases es with
    | nil=>change (none:Option Bool)=some b at h;simp at h
    | cons _ _=>change some false=some b at h;simpa using h.symm
   ·change some false=some b at h;simpa using h.symm
   ·change some false=some b at h;simpa using h.symm
  subst hb
  exact⟨_,_,_,rfl,rfl⟩
theorem JM {P:Program}{w0 w:World}{g:Ctx}{H:af}{neg:Bool}{c:JF}{x y:T}{b:Bool}{vx vy:Value}{ty:TypeId}{ox oy:Operand}{d:TypeDesc}
  (hu:P.underlying ty=some d) (hc:Eg c d=true)
  (h:SR w0 g H w) (hx:VR g w x vx) (hy:VR g w y vy) (he:dQ c x y=some b) :
  cq P w0 g H w (do eqGuard (if neg then .neq else .eql) ty ox oy vx vy;binOp (if neg then .neq else .eql) ty vx vy) (.bool (if neg then !b else b)) H:=by
 have key:(∀op,(eqGuard op ty ox oy vx vy).run P w=.ok () w)∧(Op.equal ty vx vy).run P w=.ok b w∧∀neg:Bool,(binOp (if neg then .neq else .eql) ty vx vy).run P w=((Op.equal ty vx vy).run P w).andThen fun b w'=>.ok (.bool (if neg then !b else b)) w':=by
  unfold dQ at he
  cases Eh:lx c x with
  | none=>simp[Eh]at he
  | some bx =>
   cases hny:lx c y with
   | none=>cases bx<;>simp[Eh,hny]at he
   | some bY =>
    have e:b=(bx&&bY)∧(bx=true∨bY=true):=by
     cases bx<;>cases bY<;>simp_all
    obtain⟨rfl,hor⟩:=e
    have h1:=xC hx Eh
    have h2:=xC hy hny
    cases c with
    | ptr =>
     obtain⟨a,rfl,rfl⟩:=h1
     obtain⟨a',rfl,rfl⟩:=h2
     cases d<;>simp[Eg]at hc
     refine⟨fun op=>Cw,gP fun n=>?_,fun neg=>by cases neg<;>simp[binOp]⟩
     rw[Op.equalIn];simp only[Sem.run_bind,run_underlying hu,Result.andThen_ok]
     cases a<;>cases a'<;>simp_all
    | slice =>
     obtain⟨a,l,p,rfl,rfl⟩:=h1
     obtain⟨a',l',p',rfl,rfl⟩:=h2
     cases d<;>simp[Eg]at hc
     refine⟨fun op=>xB,gP fun n=>?_,fun neg=>by cases neg<;>simp[binOp]⟩
     rw[Op.equalIn];simp only[Sem.run_bind,run_underlying hu,Result.andThen_ok]
     cases a<;>cases a'<;>simp_all
    | map =>
     obtain⟨a,rfl,rfl⟩:=h1
     obtain⟨a',rfl,rfl⟩:=h2
     cases d<;>simp[Eg]at hc
     refine⟨fun op=>Cx,gP fun n=>?_,fun neg=>by cases neg<;>simp[binOp]⟩
     rw[Op.equalIn];simp only[Sem.run_bind,run_underlying hu,Result.andThen_ok]
     cases a<;>cases a'<;>simp_all
    | func =>
     cases d<;>simp[Eg]at hc
     rcases h1 with⟨rfl,rfl⟩|⟨rfl,f,vs,rfl⟩<;>rcases h2 with⟨rfl,rfl⟩|⟨rfl,f',Ss,rfl⟩
     ·refine⟨fun op=>Ed,gP fun n=>?_,fun neg=>by cases neg<;>simp[binOp]⟩
      rw[Op.equalIn];simp[run_underlying hu]
     ·refine⟨fun op=>Ec,gP fun n=>?_,fun neg=>by cases neg<;>simp[binOp]⟩
      rw[Op.equalIn];simp[run_underlying hu]
     ·refine⟨fun op=>Eb,gP fun n=>?_,fun neg=>by cases neg<;>simp[binOp]⟩
      rw[Op.equalIn];simp[run_underlying hu]
     ·simp at hor
 obtain⟨k1,k2,k3⟩:=key
 refine cq.same h (v:=.bool (if neg then !b else b)) ?_ (.bool _)
 simp only[Sem.run_bind,k1,Result.andThen_ok,k3,k2]
section
variable {P:Program} {w0 w:World} {g:Ctx} {H:af}
def Je:xf→TypeDesc→Bool
 | .int,.int _ | .str,.string | .bool,.bool=>true
 | _,_=>false
def flat (P:Program):List Field→Nat→List xf→Bool
 | [],_,[]=>true
 | f :: fs,off,k :: ks=>f.offset==off&&f.name != "_"&&(match P.underlying f.type with | some d=>Je k d | none=>false)&&flat P fs (off+1) ks
 | _,_,_=>false
theorem AX {n:Nat}{ty:TypeId}{d:TypeDesc}{k:xf}(hu:P.underlying ty=some d)(hk:Je k d=true){a b:T}{va vb:Value}{r:Bool}(ha:VR g w a va)(hb:VR g w b vb)(h1:a.zu k=true)(he:jo a b=some r) :
  (Op.equalIn (n+1) ty va vb).run P w=.ok r w:=by
 cases k<;>cases d<;>simp[Je]at hk<;>cases ha<;>simp[T.zu]at h1<;>cases hb<;>simp[jo]at he
 ·obtain⟨rfl,rfl⟩:=he
  rw[Ee n hu]
 ·subst he
  rw[Ef n hu,beq_toListBytes];rfl
 ·subst he
  rw[ui n hu]
theorem pw {ty:TypeId}{d:TypeDesc}{k:xf}(hu:P.underlying ty=some d)(hk:Je k d=true){xs:Array Value}{off:Nat}{v:Value}(h:xs[off]?=some v):(part ty xs off).run P w=.ok v w:=by
 have:eM d=false:=by cases k<;>cases d<;>simp_all [Je,eM]
 simp[part,fv hu,this,h]
theorem qo {n:Nat}:∀(fs:List Field) (off:Nat) (ks:List xf) (cs ds:List T) (xs ys:Array Value) (r:Bool),flat P fs off ks=true→fN ks cs=true →
  (∀(i:Nat) (t:T),cs[i]?=some t→∃v,xs[off+i]?=some v∧VR g w t v)→(∀(i:Nat) (t:T),ds[i]?=some t→∃v,ys[off+i]?=some v∧VR g w t v)→b7 cs ds=some r →
  (Op.eqFields (n+1) xs ys fs).run P w=.ok r w
 | [],off,ks,cs,ds,xs,ys,r,hf,hk,hc,hd,he=>by
  cases ks with
  | nil =>
   cases cs with
   | nil=>cases ds<;>simp[b7]at he;subst he;rfl
   | cons _ _=>simp[fN]at hk
  | cons _ _=>simp[flat]at hf
 | f :: fs,off,ks,cs,ds,xs,ys,r,hf,hk,hc,hd,he=>by
  cases ks with
  | nil=>simp[flat]at hf
  | cons k ks =>
   cases cs with
   | nil=>simp[fN]at hk
   | cons c cs =>
    cases ds with
    | nil=>simp[b7]at he
    | cons d ds =>
     simp only[flat,Bool.and_eq_true,beq_iff_eq,bne_iff_ne]at hf
     obtain⟨⟨⟨Cy,Ei⟩,Jf⟩,gm⟩:=hf
     simp only[fN,Bool.and_eq_true]at hk
     cases hu:P.underlying f.type with
     | none=>simp[hu]at Jf
     | some de =>
      simp[hu]at Jf
      obtain⟨va,zz,vA⟩:=hc 0 c rfl
      obtain⟨vb,kF,lP⟩:=hd 0 d rfl
      simp only[Nat.add_zero]at zz kF
      simp only[b7]at he
      cases e1:jo c d with
      | none=>simp[e1]at he
      | some r1 =>
       cases e2:b7 cs ds with
       | none=>simp[e1,e2]at he
       | some r2 =>
        simp[e1,e2]at he;subst he
        have ih:=qo (n:=n) fs (off+1) ks cs ds xs ys r2 gm hk.2 (fun i t hi=>by have:=hc (i+1) t (by simpa using hi);rwa[show off+1+i=off+(i+1) by omega])
         (fun i t hi=>by have:=hd (i+1) t (by simpa using hi);rwa[show off+1+i=off+(i+1) by omega]) e2
        simp only[Op.eqFields,Ei,ne_eq,not_false_eq_true,if_true,Sem.run_bind,Cy,pw hu Jf zz,pw hu Jf kF,Result.andThen_ok,AX hu Jf vA lP hk.1 e1]
        cases r1
        ·simp
        ·simp[ih]
theorem bL.gM {ts:List T}{vs:List Value}(h:bL g w ts vs)(i:Nat)(t:T)(hi:ts[i]?=some t):∃v,vs.toArray[i]?=some v∧VR g w t v:=by
 have aq:i<vs.length:=by rw[←h.1];exact(List.getElem?_eq_some_iff.1 hi).1
 exact⟨vs[i],by simp[aq],h.2 i t _ hi (List.getElem?_eq_getElem aq)⟩
theorem uj {ty:TypeId}{fs:Array Field}{ks:List xf}(hu:P.underlying ty=some (.struct fs))(hf:flat P fs.toList 0 ks=true)(hp:P.stoodInHeld ty=false){cs ds:List T}{xs ys:List Value}{r:Bool}
  (hk:fN ks cs=true) (hx:bL g w cs xs) (hy:bL g w ds ys) (he:b7 cs ds=some r) (n:Nat):(Op.equalIn (n+1+1) ty (.agg xs.toArray) (.agg ys.toArray)).run P w=.ok r w:=by
 have Su:P.fieldsOf ty=fs:=by simp[Program.fieldsOf,hu]
 rw[run_equalIn_struct w (n+1) ty _ _ (by rw[Su];exact hu) hp,Su]
 exact qo _ 0 ks cs ds _ _ r hf hk (fun i t hi=>by simpa using hx.gM i t hi) (fun i t hi=>by simpa using hy.gM i t hi) he
theorem JN {neg:Bool}{ks:List xf}{cs ds:List T}{r:Bool}{vx vy:Value}{ty:TypeId}{ox oy:Operand}{fs:Array Field}
  (hu:P.underlying ty=some (.struct fs)) (hf:flat P fs.toList 0 ks=true) (hp:P.stoodInHeld ty=false) (hg:P.eqGuardType P.depth ty=false)
  (h:SR w0 g H w) (hx:VR g w (.agg cs) vx) (hy:VR g w (.agg ds) vy) (hk:fN ks cs=true) (he:b7 cs ds=some r) :
  cq P w0 g H w (do eqGuard (if neg then .neq else .eql) ty ox oy vx vy;binOp (if neg then .neq else .eql) ty vx vy) (.bool (if neg then !r else r)) H:=by
 obtain⟨xs,rfl,Jg,_⟩:=hx.gJ
 obtain⟨ys,rfl,Sv,_⟩:=hy.gJ
 have e:(Op.equalIn 10000 ty (.agg xs.toArray) (.agg ys.toArray)).run P w=.ok r w:=uj hu hf hp hk Jg Sv he 9998
 refine cq.same h (v:=.bool (if neg then !r else r)) ?_ (.bool _)
 cases neg
 ·simp only[Bool.false_eq_true,if_false,Sem.run_bind,run_eqGuard_agg w _ _ _ _ _ _ hg,Result.andThen_ok,run_eql_struct,e]
 ·simp only[if_true,Sem.run_bind,run_eqGuard_agg w _ _ _ _ _ _ hg,Result.andThen_ok,run_neq_struct,e]
theorem Og {op:UnOp}{x t:T}{vx:Value}(h:SR w0 g H w)(hx:VR g w x vx)(he:D6 op x=some t):cq P w0 g H w (Op.unary op vx) t H:=by
 cases hx<;>(try (simp[D6]at he;done))<;>cases op<;>simp[D6]at he<;>subst he
 ·exact cq.same h (by simp[Op.unary,Op.intArith]) (.int _ _)
 ·exact cq.same h (by simp[Op.unary,Op.intBits]) (.int _ _)
 ·exact cq.same h (by simp[Op.unary]) (.bool _)
theorem JO {src dst:TypeId}{ds:TypeDesc}{k k0:IntKind}{n:Int}{vx:Value}(hs:P.underlying src=some ds)(hd:P.underlying dst=some (.int k))(h:SR w0 g H w)(hx:VR g w (.int k0 n) vx) :
  cq P w0 g H w (convert src dst vx) (.int k (k.wrap n)) H:=by
 cases hx
 exact cq.same h (by simp[convert,run_underlying hs,run_underlying hd,Conv.intToInt]) (.int _ _)
theorem Ej {c:Bool}{x y:T}{vc vx vy:Value}(h:SR w0 g H w)(hc:VR g w (.bool c) vc)(hx:VR g w x vx)(hy:VR g w y vy) :
  cq P w0 g H w (do pure (if ←asBool vc then vx else vy)) (if c then x else y) H:=by
 cases hc
 refine cq.same h (v:=if c then vx else vy) (by simp[asBool]) ?_
 cases c<;>simpa
def Zd:Lc→TypeDesc→Bool
 | .str,.string | .sl,.slice _ | .map,.map _ _=>true
 | _,_=>false
theorem JP {ty rt:TypeId}{d:TypeDesc}{k:Lc}{x:T}{vx:Value}{n:Nat}(hu:P.underlying ty=some d)(hd:Zd k d=true)
  (h:SR w0 g H w) (hx:VR g w x vx) (he:jG H k x=some n):cq P w0 g H w (Builtin.len_ #[ty] rt #[vx]) (.int .i64 n) H:=by
 refine cq.same h (v:=.int .i64 n) ?_ (.int _ _)
 cases k<;>cases d<;>(first|(simp[Zd]at hd;done)|skip)<;>cases hx<;>simp[jG]at he
 ·subst he;simp[Builtin.len_,run_underlying hu,goInt]
 ·subst he;simp[Builtin.len_,run_underlying hu,goInt]
 ·subst he;simp[Builtin.len_,run_underlying hu,goInt]
 ·subst he;simp[Builtin.len_,run_underlying hu,goInt]
 ·subst he;simp[Builtin.len_,run_underlying hu,goInt]
 ·subst he;simp[Builtin.len_,run_underlying hu,goInt]
 ·subst he;simp[Builtin.len_,run_underlying hu,goInt]
 ·rename_i b r o q hφ
  cases hb:H[b]? with
  | none=>simp[hb]at he
  | some y =>
   cases y<;>simp[hb]at he
   ·rename_i es
    obtain⟨_,ay,c,h2,h3,_⟩:=h.eG b _ hb r o q hφ
    subst he
    simp[Builtin.len_,run_underlying hu,goInt,getObj,Sem.run,h2,h3.1]
   ·rename_i es _ _ _
    obtain⟨r',o',q',lO,_,ay,c,h2,h3,_⟩:=h.eG b _ hb
    rw[hφ]at lO;cases lO
    subst he
    simp[Builtin.len_,run_underlying hu,goInt,getObj,Sem.run,h2,h3.1]
theorem oA {n:Nat}{x:T}{vx:Value}{es:List (List T)}(h:SR w0 g H w)(hx:VR g w x vx)(he:bG H n x=some es)(hs:∀s,x≠.str s) :
  ∃(a:Option Addr) (cap:Nat) (vs:List Value),vx=.slice a es.length cap∧es.length≤cap∧(a=none→es=[]∧cap=0)∧(∀a',a=some a'→(es≠[]→a'.spot=none)∧∀(j:Nat) (v:Value),vs[j]?=some v→w.cell? (a'.add j)=some v) ∧
   bL g w es.flatten vs∧vs.length=es.length*n∧cI es.flatten∧∀c∈es,c.length=n:=by
 cases hx with
 | slnil=>simp[bG]at he;subst he;exact⟨none,0,[],rfl,Nat.le_refl _,fun _=>⟨rfl,rfl⟩,(by simp),bL.nil,by simp,by simp[cI],by simp⟩
 | jw a=>simp[bG]at he;subst he;exact⟨a,0,[],rfl,Nat.le_refl _,fun _=>⟨rfl,rfl⟩,(by simp),bL.nil,by simp,by simp[cI],by simp⟩
 | @sl k DN r o cap n' dc hk hc hn h1 h2 =>
  simp only[bG]at he
  split at he
  ·rename_i bD
   simp at he;subst he
   have nv:∀c∈DN,c.length=n:=by simpa using bD
   have key:∀(i j:Nat),i<DN.length→j<n→∃c t,DN[i]?=some c∧c[j]?=some t∧t.one=true∧w.cell? ⟨r,o+i*n+j,none⟩=some (dc i j)∧VR g w t (dc i j):=by
    intro i j hi hj
    have e1:DN[i]?=some DN[i]:=List.getElem?_eq_getElem hi
    have l1:(DN[i]).length=n:=nv _ (List.getElem_mem hi)
    have l2:(DN[i]).length=n':=hn _ (List.getElem_mem hi)
    have e2:(DN[i])[j]?=some ((DN[i])[j]'(by omega)):=List.getElem?_eq_getElem _
    have a:=h1 i j _ _ e1 e2
    have tG:n'=n:=by omega
    exact⟨_,_,e1,e2,a.1,by rw[←tG];exact a.2.2,h2 i j _ _ e1 e2⟩
   have build:∀(l:List (List T)) (k:Nat),(∀i c,l[i]?=some c→DN[k+i]?=some c)→∃vs:List Value,vs.length=l.length*n∧bL g w l.flatten vs∧cI l.flatten ∧
     ∀(j:Nat) (v:Value),vs[j]?=some v→w.cell? ⟨r,o+k*n+j,none⟩=some v:=by
    intro l
    induction l with
    | nil=>intro k _;exact⟨[],by simp,bL.nil,by simp[cI],by simp⟩
    | cons c l ih =>
     intro k hk
     have nI:=hk 0 c rfl
     simp only[Nat.add_zero]at nI
     have Oh:k<DN.length:=(List.getElem?_eq_some_iff.1 nI).1
     have mM:c.length=n:=nv c (List.mem_of_getElem? nI)
     obtain⟨vs,a1,a2,a3,a4⟩:=ih (k+1) (fun i c' hi=>by have:=hk (i+1) c' (by simpa using hi);rwa[show k+1+i=k+(i+1) by omega])
     refine⟨(List.range n).map (dc k)++vs,by simp[a1,Nat.succ_mul];omega,?_,?_,fun j v hj=>?_⟩
     ·rw[List.flatten_cons]
      refine bL.append ⟨by simp[mM],fun i t v hi hv=>?_⟩ a2
      have aq:i<n:=by have:=(List.getElem?_eq_some_iff.1 hv).1;simpa using this
      obtain⟨c',t',e1,e2,_,_,e5⟩:=key k i Oh aq
      rw[nI]at e1;cases e1
      rw[hi]at e2;cases e2
      simp[aq]at hv
      rw[←hv];exact e5
     ·rw[List.flatten_cons]
      intro t ht
      rcases List.mem_append.1 ht with ht|ht
      ·obtain⟨i,hi,rfl⟩:=List.getElem_of_mem ht
       obtain⟨c',t',e1,e2,e3,_,_⟩:=key k i Oh (by omega)
       rw[nI]at e1;cases e1
       rw[List.getElem?_eq_getElem hi]at e2;cases e2
       exact e3
      ·exact a3 t ht
     ·rw[List.getElem?_append]at hj
      split at hj
      ·rename_i aq
       simp at aq
       simp[aq]at hj
       obtain⟨c',t',_,_,_,e4,_⟩:=key k j Oh aq
       rw[←hj];exact e4
      ·rename_i eQ
       simp at eQ hj
       have:=a4 _ v hj
       rwa[show o+(k+1)*n+(j-n)=o+k*n+j by rw[Nat.succ_mul];omega]at this
   obtain⟨vs,a1,a2,a3,a4⟩:=build DN 0 (fun i c h=>by simpa using h)
   refine⟨some ⟨r,o,none⟩,cap,vs,rfl,hc,by simp,fun a' ha=>?_,a2,a1,a3,nv⟩
   cases ha
   exact⟨fun _=>rfl,fun j v hj=>by rw[dA];simpa using a4 j v hj⟩
  ·simp at he
 | @aC b off len n' r o q cap hφ hc hq =>
  simp only[bG]at he
  cases hb:H[b]? with
  | none=>simp[hb]at he
  | some y =>
   cases y with
   | cells cs =>
    simp only[hb]at he
    split at he
    ·rename_i cM
     obtain⟨rfl,hle⟩:=cM
     simp at he
     obtain⟨h1,h2,h3⟩:=h.eG b _ hb r o q hφ
     have hlen:es.length=len:=by rw[←he];simp
     have hn:∀c∈es,c.length=n':=by
      rw[←he]
      intro c ir
      obtain⟨i,hi,rfl⟩:=List.mem_map.1 ir
      simp at hi
      have:i*n'+n'≤len*n':=by rw[←Nat.succ_mul];exact Nat.mul_le_mul_right _ hi
      simp;omega
     have ti:∀m,m≤len→((List.range m).map fun i=>(cs.drop (off+i*n')).take n').flatten=(cs.drop off).take (m*n'):=by
      intro m
      induction m with
      | zero=>intro _;simp
      | succ m ih =>
       intro hm
       rw[List.range_succ,List.map_append,List.flatten_append,ih (by omega)]
       simp only[List.map_cons,List.map_nil,List.flatten_cons,List.flatten_nil,List.append_nil]
       rw[Nat.succ_mul,List.take_add,List.drop_drop]
     have MF:es.flatten=(cs.drop off).take (len*n'):=by rw[←he];exact ti len (Nat.le_refl _)
     have hp:nu H (len*n') (.ptr b off)=some ((cs.drop off).take (len*n')):=by simp[nu,hb,hle]
     obtain⟨r',o',vs,e1,e2,e3,e4,e5⟩:=pt h (.ptr hφ) hp
     cases e1
     refine⟨some ⟨r,o+off,none⟩,cap,vs,by rw[hlen],by omega,by simp,fun a' ha=>?_,by rw[MF];exact e4,by rw[e2,hlen],by rw[MF];exact e5,hn⟩
     cases ha
     exact⟨fun _=>rfl,fun j v hj=>by rw[dA];exact e3 j v hj⟩
    ·simp at he
   | map _=>simp[hb]at he
   | tok _=>simp[hb]at he
   | _=>simp[hb]at he
 | str s=>exact absurd rfl (hs s)
 | _=>simp[bG]at he
theorem rq:∀(es:List (List T)) (l:List UInt8),bytesOf es=some l→∃ns:List Int,es=ns.map (fun n=>[T.int .u8 n])∧l=ns.map (fun n=>UInt8.ofNat n.toNat)
 | [],l,h=>⟨[],rfl,by simpa[bytesOf]using h.symm⟩
 | [.int .u8 n] :: es,l,h=>by
  simp only[bytesOf,Option.map_eq_some_iff]at h
  obtain⟨l',h1,rfl⟩:=h
  obtain⟨ns,rfl,rfl⟩:=rq es l' h1
  exact⟨n :: ns,rfl,rfl⟩
 | [] :: es,l,h=>by simp[bytesOf]at h
 | (_ :: _ :: _) :: es,l,h=>by simp[bytesOf]at h
 | [.int .i8 n] :: es,l,h=>by simp[bytesOf]at h
 | [.int .i16 n] :: es,l,h=>by simp[bytesOf]at h
 | [.int .i32 n] :: es,l,h=>by simp[bytesOf]at h
 | [.int .i64 n] :: es,l,h=>by simp[bytesOf]at h
 | [.int .u16 n] :: es,l,h=>by simp[bytesOf]at h
 | [.int .u32 n] :: es,l,h=>by simp[bytesOf]at h
 | [.int .u64 n] :: es,l,h=>by simp[bytesOf]at h
 | [.bool _] :: es,l,h=>by simp[bytesOf]at h
 | [.str _] :: es,l,h=>by simp[bytesOf]at h
 | [.br] :: es,l,h=>by simp[bytesOf]at h
 | [.ptr _ _] :: es,l,h=>by simp[bytesOf]at h
 | [.b0 _] :: es,l,h=>by simp[bytesOf]at h
 | [.hY] :: es,l,h=>by simp[bytesOf]at h
 | [.map _] :: es,l,h=>by simp[bytesOf]at h
 | [.sl _ _] :: es,l,h=>by simp[bytesOf]at h
 | [.aC _ _ _ _] :: es,l,h=>by simp[bytesOf]at h
 | [.nG] :: es,l,h=>by simp[bytesOf]at h
 | [.fn _ _] :: es,l,h=>by simp[bytesOf]at h
 | [.hZ] :: es,l,h=>by simp[bytesOf]at h
 | [.agg _] :: es,l,h=>by simp[bytesOf]at h
 | [.bC _] :: es,l,h=>by simp[bytesOf]at h
theorem foldl_push (ns:List Int):∀(b:ByteArray),ns.foldl (fun r n=>r.push (UInt8.ofNat n.toNat)) b=⟨b.data++(ns.map (fun n=>UInt8.ofNat n.toNat)).toArray⟩:=by
 induction ns with
 | nil=>intro b;simp
 | cons n ns ih=>intro b;rw[List.foldl_cons,ih];cases b;simp[ByteArray.push]
theorem Tq (ns:List Int):(ns.map fun n=>[T.int .u8 n]).flatten=ns.map (T.int .u8):=by
 induction ns with
 | nil=>rfl
 | cons n ns ih=>simp only[List.map_cons,List.flatten_cons,ih];rfl
theorem JQ {src dst e:TypeId}{x:T}{vx:Value}{es:List (List T)}{l:List UInt8}(hs:P.underlying src=some (.slice e))(hb:P.underlying e=some (.int .u8))(hd:P.underlying dst=some .string)
  (h:SR w0 g H w) (hx:VR g w x vx) (he:bG H 1 x=some es) (hn:∀s,x≠.str s) (hl:bytesOf es=some l):cq P w0 g H w (convert src dst vx) (.str ⟨l.toArray⟩) H:=by
 obtain⟨a,cap,vs,rfl,_,h1,h2,h3,h4,h5,_⟩:=oA h hx he hn
 obtain⟨ns,rfl,rfl⟩:=rq es l hl
 refine cq.same h ?_ (.str _)
 rw[run_convert_bytes_string w src dst e a _ cap hs hb hd]
 cases a with
 | none =>
  have:=h1 rfl
  have MG:ns=[]:=by simpa using this.1
  subst MG
  simp[Conv.bytesToString];rfl
 | some a =>
  obtain⟨_,h6⟩:=h2 a rfl
  have jq:vs=ns.map (Value.int .u8):=by
   apply List.ext_getElem?
   intro i
   have hlen:vs.length=ns.length:=by simpa using h4
   by_cases hi:i<ns.length
   ·have hv:vs[i]?=some vs[i]:=List.getElem?_eq_getElem (by omega)
    have ht:((ns.map fun n=>[T.int .u8 n]).flatten)[i]?=some (T.int .u8 ns[i]):=by
     rw[Tq];simp[hi]
    have:=h3.2 i _ _ ht hv
    rw[hv]
    simp only[List.getElem?_map,List.getElem?_eq_getElem hi,Option.map_some]
    congr 1
    generalize vs[i]=vv at this
    cases this;rfl
   ·rw[List.getElem?_eq_none (by omega),List.getElem?_eq_none (by simpa using hi)]
  have:=run_loadCells_list (P:=P) w a vs h6
  rw[h4]at this
  have hl:(ns.map fun n=>[T.int .u8 n]).length*1=(ns.map fun n=>[T.int .u8 n]).length:=Nat.mul_one _
  rw[hl]at this
  rw[run_bytesToString w a _ cap ns (by rw[this,jq]),foldl_push]
  show Result.ok (Value.string ⟨#[]++_⟩) w=_
  simp
end
section
variable {P:Program} {w0 w:World} {g:Ctx} {H:af}
def ru:Value→Option T
 | .int k n=>some (.int k n)
 | .bool b=>some (.bool b)
 | .string s=>some (.str s)
 | .pointer none=>some .br
 | .slice none 0 0=>some (.sl .nil [])
 | .map none=>some .hY
 | .nilFunc=>some .nG
 | .nilIface=>some .hZ
 | _=>none
def fw:List Value→Option (List T)
 | []=>some []
 | v :: vs=>match ru v,fw vs with
  | some t,some ts=>some (t :: ts)
  | _,_=>none
def nJ:Value→Option T
 | .agg cs=>(fw cs.toList).map .agg
 | .tuple cs=>if cs.size=0 then some (.bC [])else none
 | v=>ru v
theorem uk {v:Value}{t:T}(h:ru v=some t):VR g w t v∧t.one=true:=by
 unfold ru at h
 split at h<;>simp at h<;>subst h
 ·exact⟨.int _ _,rfl⟩
 ·exact⟨.bool _,rfl⟩
 ·exact⟨.str _,rfl⟩
 ·exact⟨.br,rfl⟩
 ·exact⟨.slnil,rfl⟩
 ·exact⟨.hY,rfl⟩
 ·exact⟨.nG,rfl⟩
 ·exact⟨.hZ,rfl⟩
theorem dZ:∀(vs:List Value) (ts:List T),fw vs=some ts→bL g w ts vs∧cI ts
 | [],ts,h=>by simp[fw]at h;subst h;exact⟨bL.nil,by simp[cI]⟩
 | v :: vs,ts,h=>by
  simp only[fw]at h
  cases h1:ru v with
  | none=>simp[h1]at h
  | some t =>
   cases h2:fw vs with
   | none=>simp[h1,h2]at h
   | some Od =>
    simp[h1,h2]at h;subst h
    obtain⟨a,b⟩:=uk (g:=g) (w:=w) h1
    obtain⟨c,d⟩:=dZ vs Od h2
    exact⟨bL.cons a c,by intro x hx;rcases List.mem_cons.1 hx with rfl|hx;exact b;exact d x hx⟩
theorem mN {v:Value}{t:T}(h:nJ v=some t):VR g w t v:=by
 unfold nJ at h
 split at h
 ·rename_i cs
  simp only[Option.map_eq_some_iff]at h
  obtain⟨ts,h1,rfl⟩:=h
  obtain⟨a,b⟩:=dZ (g:=g) (w:=w) _ _ h1
  have:=a.agg b
  simpa using this
 ·rename_i cs
  split at h
  ·rename_i hs
   simp at h;subst h
   have:cs=#[]:=Array.eq_empty_of_size_eq_zero hs
   subst this
   exact .bC rfl (by simp)
  ·simp at h
 ·exact(uk h).1
theorem eR {x:T}{vx:Value}{i:Nat}(hx:VR g w x vx)(h:cB x=some i):∃(k:IntKind) (n:Int),vx=.int k n∧0≤n∧n.toNat=i:=by
 cases hx<;>simp[cB]at h
 exact⟨_,_,rfl,h.1,h.2⟩
theorem Cz {cs:List T}{r o off:Nat}(h:VR g w (.b0 cs) (.pointer (some ⟨r,o,none⟩))):VR g w (.b0 (cs.drop off)) (.pointer (some ⟨r,o+off,none⟩)):=by
 cases h with
 | b0 dc h1 h2 =>
  refine .b0 (fun j=>dc (off+j)) (fun j t e=>?_) (fun j t e=>?_)
  ·rw[List.getElem?_drop]at e
   have:=h1 (off+j) t e
   exact⟨this.1,by rw[Nat.add_assoc];exact this.2⟩
  ·rw[List.getElem?_drop]at e
   exact h2 (off+j) t e
theorem JR {ty:TypeId}{fs:Array Field}{i:Nat}{f:Field}{fi:TypeInfo}{x t:T}{vx:Value}(hu:P.underlying ty=some (.struct fs))(hf:fs[i]?=some f)(hi:P.info? f.type=some fi)(hz:fi.size≠0)
  (h:SR w0 g H w) (hx:VR g w x vx) (he:oq f.offset x=some t) :
  cq P w0 g H w (Instr.fieldAt ty vx i) t H:=by
 cases hx<;>simp[oq]at he
 case ptr b off r o q hφ =>
  subst he
  refine cq.same h (v:=.pointer (some ⟨r,o+(off+f.offset),none⟩)) ?_ (.ptr hφ)
  simp[Instr.fieldAt,Instr.sureAddr,run_underlying hu,hf,fieldPlace,sizeOf,bu hi,hz,dA,Nat.add_assoc]
 case b0 cs r o dc h1 h2 =>
  obtain⟨_,rfl⟩:=he
  refine cq.same h (v:=.pointer (some ⟨r,o+f.offset,none⟩)) ?_ (Cz (.b0 dc h1 h2))
  simp[Instr.fieldAt,Instr.sureAddr,run_underlying hu,hf,fieldPlace,sizeOf,bu hi,hz,dA]
theorem xD {ty:TypeId}{d:TypeDesc}{i:TypeInfo}{ag:Bool}{n off:Nat}{cs:List T}{vs:List Value}{t:T}(hd:P.underlying ty=some d)(hi:P.info? ty=some i)(xA:eM d=ag)(hn:i.size=n)
  (hv:bL g w cs vs) (ho:cI cs) (hle:off+n≤cs.length) (he:valOf ag ((cs.drop off).take n)=some t):∃v,(part ty vs.toArray off).run P w=.ok v w∧VR g w t v:=by
 have h1:=(hv.drop off).take n
 have h2:cI ((cs.drop off).take n):=fun x hx=>ho x (List.mem_of_mem_drop (List.mem_of_mem_take hx))
 obtain⟨ha,hb⟩:=rm h1 h2 he
 cases ag with
 | true =>
  refine⟨_,?_,ha rfl⟩
  simp[part,fv hd,xA,sizeOf,bu hi,hn]
 | false =>
  obtain⟨v,h3,h4⟩:=hb rfl
  refine⟨v,?_,h4⟩
  have h5:vs[off]?=some v:=by
   have:((vs.drop off).take n)[0]?=some v:=by rw[h3];rfl
   rw[List.getElem?_take]at this
   split at this
   ·rw[List.getElem?_drop]at this;simpa using this
   ·simp at this
  simp[part,fv hd,xA,h5]
theorem JS {ty:TypeId}{fs:Array Field}{i:Nat}{f:Field}{fi:TypeInfo}{d:TypeDesc}{cs:List T}{t:T}{vx:Value}{ag:Bool}(hu:P.underlying ty=some (.struct fs))(hf:fs[i]?=some f)(hd:P.underlying f.type=some d)(hi:P.info? f.type=some fi)
  (xA:eM d=ag) (h:SR w0 g H w) (hx:VR g w (.agg cs) vx) (hle:f.offset+fi.size≤cs.length) (he:valOf ag ((cs.drop f.offset).take fi.size)=some t):cq P w0 g H w (Instr.field ty vx i) t H:=by
 obtain⟨vs,rfl,h1,h2⟩:=hx.gJ
 obtain⟨v,hr,hv⟩:=xD (P:=P) hd hi xA rfl h1 h2 hle he
 exact cq.same h (by simp[Instr.field,run_underlying hu,hf,asAgg,hr]) hv
theorem JT {ty elem:TypeId}{ei:TypeInfo}{x ix t:T}{i:Nat}{vx vi:Value}(hu:P.underlying ty=some (.slice elem))(hi:P.info? elem=some ei)
  (h:SR w0 g H w) (hx:VR g w x vx) (xE:VR g w ix vi) (hn:cB ix=some i) (he:dK ei.size i x=some t):cq P w0 g H w (Instr.indexAt ty vx vi) t H:=by
 obtain⟨k,m,rfl,tj,DP⟩:=eR xE hn
 cases hx<;>simp[dK]at he
 case sl k' es r o cap n dc hk hc zj h1 h2 =>
  cases jm:es[i]? with
  | none=>simp[jm]at he
  | some c =>
   simp[jm]at he
   obtain⟨⟨mM,bF⟩,rfl⟩:=he
   have aq:i<es.length:=(List.getElem?_eq_some_iff.1 jm).1
   have hcn:c.length=n:=zj c (List.mem_of_getElem? jm)
   have tG:n=ei.size:=by omega
   subst tG
   refine cq.same h (v:=.pointer (some ⟨r,o+i*ei.size,none⟩)) ?_ (.b0 (dc i) (fun j t e=>h1 i j c t jm e) (fun j t e=>h2 i j c t jm e))
   have zA:m<es.length:=by omega
   simp[Instr.indexAt,asIntOf,run_underlying hu,tj,zA,sizeOf,bu hi,dA,DP]
 case aC b off len n r o q cap hφ hc hq =>
  obtain⟨⟨rfl,aq,bF⟩,rfl⟩:=he
  refine cq.same h (v:=.pointer (some ⟨r,o+(off+i*ei.size),none⟩)) ?_ (.ptr hφ)
  have zA:m<len:=by omega
  simp[Instr.indexAt,asIntOf,run_underlying hu,tj,zA,sizeOf,bu hi,dA,DP,Nat.add_assoc]
theorem JU {ty elem:TypeId}{len:Nat}{ei:TypeInfo}{ix:T}{b off i:Nat}{vx vi:Value}(hu:P.underlying ty=some (.array len elem))(hi:P.info? elem=some ei)
  (h:SR w0 g H w) (hx:VR g w (.ptr b off) vx) (xE:VR g w ix vi) (hn:cB ix=some i) (aq:i<len):cq P w0 g H w (Instr.indexAt ty vx vi) (.ptr b (off+i*ei.size)) H:=by
 obtain⟨k,m,rfl,tj,DP⟩:=eR xE hn
 cases hx with
 | @ptr _ _ r o q hφ =>
  refine cq.same h (v:=.pointer (some ⟨r,o+(off+i*ei.size),none⟩)) ?_ (.ptr hφ)
  have zA:m<len:=by omega
  simp[Instr.indexAt,Instr.sureAddr,asIntOf,run_underlying hu,tj,zA,sizeOf,bu hi,dA,DP,Nat.add_assoc]
theorem JV {ty:TypeId}{ix:T}{s:ByteArray}{i:Nat}{c:UInt8}{vx vi:Value}(hu:P.underlying ty=some .string)
  (h:SR w0 g H w) (hx:VR g w (.str s) vx) (xE:VR g w ix vi) (hn:cB ix=some i) (hc:s.data[i]?=some c):cq P w0 g H w (Instr.index ty vx vi) (.int .u8 c.toNat) H:=by
 obtain⟨k,m,rfl,tj,DP⟩:=eR xE hn
 cases hx
 refine cq.same h ?_ (.int _ _)
 have ir:s[i]?=some c:=by
  have aq:i<s.data.size:=(Array.getElem?_eq_some_iff.1 hc).1
  have h2:=(Array.getElem?_eq_some_iff.1 hc).2
  have rv:i<s.size:=aq
  rw[getElem?_pos s i rv]
  exact congrArg some h2
 simp[Instr.index,asIntOf,run_underlying hu,tj,DP,ir]
theorem JW {ty elem:TypeId}{len i:Nat}{ei:TypeInfo}{d:TypeDesc}{ag:Bool}{ix t:T}{cs:List T}{vx vi:Value}(hu:P.underlying ty=some (.array len elem))(hd:P.underlying elem=some d)(hi:P.info? elem=some ei)(xA:eM d=ag)
  (h:SR w0 g H w) (hx:VR g w (.agg cs) vx) (xE:VR g w ix vi) (hn:cB ix=some i) (aq:i<len) (hle:i*ei.size+ei.size≤cs.length) (he:valOf ag ((cs.drop (i*ei.size)).take ei.size)=some t):cq P w0 g H w (Instr.index ty vx vi) t H:=by
 obtain⟨k,m,rfl,tj,DP⟩:=eR xE hn
 obtain⟨vs,rfl,h1,h2⟩:=hx.gJ
 obtain⟨v,hr,hv⟩:=xD (P:=P) hd hi xA rfl h1 h2 hle he
 have zA:m<len:=by omega
 exact cq.same h (by simp[Instr.index,asIntOf,run_underlying hu,tj,zA,sizeOf,bu hi,DP,hr]) hv
def OV (g:Ctx)(w:World)(R:ax):Option X→Option Value→Prop
 | none,none=>True
 | some x,some v=>VR g w (x.ev R) v
 | _,_=>False
def Oi (l:Nat):Option Value→Prop
 | none=>l=0
 | some v=>∃k n,v=.int k n∧0≤n∧n.toNat=l
theorem run_sliceBound {k:IntKind}{n:Int}{y:Nat}{c:BoundsCode}(h0:0≤n)(hy:n.toNat≤y):(Instr.sliceBound (.int k n) y c).run P w=.ok n.toNat w:=by
 have:n≤y:=by omega
 simp[Instr.sliceBound,asIntOf,h0,this]
theorem iG {R:ax}{Jh:Bool}{len cap d l hh:Nat}{lo hi:Option X}{lU oe:Option Value}(og:OV g w R lo lU)
  (zB:OV g w R hi oe) (hl:hJ R 0 lo=some l) (um:hJ R d hi=some hh) (hd:hi=none→d=len) (h1:l≤hh) (h2:hh≤cap) :
  (Instr.sliceBounds Jh len cap lU oe none).run P w=.ok (l,hh,cap) w:=by
 have eh:∀c,(match oe with|some v=>Instr.sliceBound v cap c|none=>pure len:Sem Nat).run P w=.ok hh w:=by
  intro c
  cases hi with
  | none =>
   cases oe with
   | none=>simp[hJ]at um;simp[←um,hd rfl]
   | some _=>exact zB.elim
  | some x =>
   cases oe with
   | none=>exact zB.elim
   | some v =>
    obtain⟨k,n,rfl,a,b⟩:=eR zB um
    subst b
    exact run_sliceBound a h2
 have el:∀c,(match lU with|some v=>Instr.sliceBound v hh c|none=>pure 0:Sem Nat).run P w=.ok l w:=by
  intro c
  cases lo with
  | none =>
   cases lU with
   | none=>simp[hJ]at hl;simp[←hl]
   | some _=>exact og.elim
  | some x =>
   cases lU with
   | none=>exact og.elim
   | some v =>
    obtain⟨k,n,rfl,a,b⟩:=eR og hl
    subst b
    exact run_sliceBound a h1
 have eh':=eh (if Jh then .sliceAcap else .sliceAlen)
 have el':=el .sliceB
 cases oe<;>cases lU<;>simp_all [Instr.sliceBounds]
theorem JX {R:ax}{ty:TypeId}{s:ByteArray}{l hh:Nat}{lo hi:Option X}{lU oe:Option Value}{vx:Value}(hu:P.underlying ty=some .string)
  (h:SR w0 g H w) (hx:VR g w (.str s) vx) (og:OV g w R lo lU)
  (zB:OV g w R hi oe) (hl:hJ R 0 lo=some l) (um:hJ R s.size hi=some hh) (h1:l≤hh) (h2:hh≤s.size) :
  cq P w0 g H w (Instr.sliceAt ty vx lU oe none) (.str (s.extract l hh)) H:=by
 cases hx
 refine cq.same h ?_ (.str _)
 have:=iG (P:=P) (Jh:=false) og zB hl um (fun _=>rfl) h1 h2
 simp[Instr.sliceAt,run_underlying hu,Instr.slice,this]
theorem AY {k k':SK}{es:List (List T)}{r o cap vB n l m:Nat}{a:Option Addr}(dc:Nat→Nat→Value)(hn:∀c∈es,c.length=n)
  (h1:∀(i j:Nat) (c:List T) (t:T),es[i]?=some c→c[j]?=some t→t.one=true∧Ct g w r (o+i*n+j) (dc i j))
  (h2:∀(i j:Nat) (c:List T) (t:T),es[i]?=some c→c[j]?=some t→VR g w t (dc i j))
  (Oj:l≤m) (hm:m≤es.length) (oB:m-l≤vB) (hk:gI g k' r (o+l*n) (m-l) vB n) :
  VR g w (.sl k' ((es.take m).drop l)) (.slice (some ⟨r,o+l*n,none⟩) (m-l) vB):=by
 have hlen:((es.take m).drop l).length=m-l:=by simp;omega
 have get:∀i c,((es.take m).drop l)[i]?=some c→es[l+i]?=some c:=by
  intro i c hi
  rw[List.getElem?_drop,List.getElem?_take]at hi
  split at hi
  ·exact hi
  ·simp at hi
 have:=VR.sl (g:=g) (w:=w) (k:=k') (es:=(es.take m).drop l) (r:=r) (o:=o+l*n) (cap:=vB) (n:=n) (fun i j=>dc (l+i) j) (by rw[hlen];exact hk) (by omega)
  (fun c hc=>hn c (List.mem_of_mem_take (List.mem_of_mem_drop hc)))
  (fun i j c t a b=>⟨(h1 (l+i) j c t (get i c a) b).1,by
   have:=(h1 (l+i) j c t (get i c a) b).2
   rwa[show o+l*n+i*n+j=o+(l+i)*n+j by rw[Nat.add_mul];omega]⟩)
  (fun i j c t a b=>h2 (l+i) j c t (get i c a) b)
 rwa[hlen]at this
theorem JY {R : ax}{ty elem : TypeId}{ei : TypeInfo}{k : SK}{es : List (List T)}{l hh : Nat}{lo hi : Option X}{lU oe : Option Value}{vx : Value}(hu : P.underlying ty = some (.slice elem))(lF : P.info? elem = some ei)
    (h : SR w0 g H w) (hx : VR g w (.sl k es) vx) (og : OV g w R lo lU)
    (zB : OV g w R hi oe) (hl : hJ R 0 lo = some l) (um : hJ R es.length hi = some hh) (h1 : l ≤ hh) (h2 : hh ≤ es.length) (bD : es.all (·.length == ei.size) = true) :
    cq P w0 g H w (Instr.sliceAt ty vx lU oe none) (.sl (k.cut es.length l hh) ((es.take hh).drop l)) H := by
  have nv : ∀c ∈ es, c.length = ei.size := by simpa using bD
  cases hx with
  | slnil =>
    simp at h2; subst h2
    have zk : l = 0 := by omega
    subst zk
    have := iG (P := P) (w := w) (g := g) (Jh := true) (cap := 0) og zB hl um (fun _ => rfl) h1 (Nat.le_refl _)
    simp only[List.length_nil]at this
    exact cq.same h (v := .slice none 0 0) (by simp[Instr.sliceAt, run_underlying hu, Instr.slice, this, sizeOf, bu lF]) (by simpa[SK.cut]using VR.slnil)
  | jw a =>
    simp at h2; subst h2
    have zk : l = 0 := by omega
    subst zk
    have := iG (P := P) (w := w) (g := g) (Jh := true) (cap := 0) og zB hl um (fun _ => rfl) h1 (Nat.le_refl _)
    simp only[List.length_nil]at this
    exact cq.same h (v := .slice a 0 0) (by cases a<;>simp[Instr.sliceAt, run_underlying hu, Instr.slice, this, sizeOf, bu lF]) (by simpa[SK.cut]using VR.jw a)
  | @sl _ _ r o cap n dc hk hc hn h3 h4 =>
    have := iG (P := P) (w := w) (g := g) (Jh := true) (cap := cap) og zB hl um (fun _ => rfl) h1 (by omega)
    have hr : (Instr.sliceAt ty (.slice (some ⟨r, o, none⟩) es.length cap) lU oe none).run P w = .ok (.slice (some (if cap = l then⟨r, o, none⟩else⟨r, o + l * ei.size, none⟩)) (hh - l) (cap - l)) w := by
      simp[Instr.sliceAt, run_underlying hu, Instr.slice, this, sizeOf, bu lF, dA]
      split<;>rfl
    by_cases he : l<hh
    · -- Sw is left
      have mM : cap ≠ l := by omega
      simp only[mM, if_false]at hr
      have tG : n = ei.size := by
        cases es with
        | nil => simp at h2; omega
        | cons c es => have a := hn c (by simp); have b := nv c (by simp); omega
      subst tG
      refine cq.same h hr (AY (k := k) (cap := cap) (a := none) dc hn h3 h4 h1 h2 (by omega) ?_)
      cases k with
      | nil => exact hk.elim
      | arg => trivial
      | full =>
        simp only[SK.cut]; split
        · rename_i e; simp only[gI]at hk ⊢; omega
        · trivial
      | own t e =>
        simp only[SK.cut]; split
        · rename_i e'
          simp only[gI]at hk ⊢
          refine⟨?_, by omega⟩
          rw[hk.1]
          have e1 : o + l * ei.size + (hh - l) * ei.size = o + es.length * ei.size := by
            rw[Nat.add_assoc, ←Nat.add_mul]; congr 2; omega
          have e2 : o + l * ei.size + (cap - l) * ei.size = o + cap * ei.size := by
            rw[Nat.add_assoc, ←Nat.add_mul]; congr 2; omega
          rw[e1, e2]
        · trivial
    · have hle : l = hh := by omega
      subst hle
      have hd : (es.take l).drop l = [] := by simp
      rw[hd]
      have vr : ∀a : Addr, a.spot = none → VR g w (.sl .arg []) (.slice (some a) 0 (cap - l)) := by
        intro a ha
        obtain⟨ab, ao, as⟩ := a
        simp at ha; subst ha
        exact .sl (n := 0) (fun _ _ => .nilIface) trivial (by simp) (by simp) (by simp) (by simp)
      have bT : k.cut es.length l l = .arg ∨ (k.cut es.length l l = .full ∧ cap = l) := by
        cases k with
        | nil => exact hk.elim
        | arg => exact .inl rfl
        | full => simp only[SK.cut]; split
                  · rename_i e; right; simp only[gI]at hk; exact⟨rfl, by omega⟩
                  · exact .inl rfl
        | own t e => simp only[SK.cut]; split
                     · omega
                     · exact .inl rfl
      rcases bT with e|⟨e, mM⟩
      · rw[e]
        refine cq.same h hr ?_
        rw[Nat.sub_self]
        exact vr _ (by split<;>rfl)
      · rw[e]
        refine cq.same h hr ?_
        rw[Nat.sub_self, mM, Nat.sub_self]
        have AZ : ∀a : Addr, a.spot = none → VR g w (.sl .full []) (.slice (some a) 0 0) := by
          intro a ha
          obtain⟨ab, ao, as⟩ := a
          simp at ha; subst ha
          exact .sl (n := 0) (fun _ _ => .nilIface) rfl (by simp) (by simp) (by simp) (by simp)
        exact AZ _ (by split<;>rfl)
theorem px {Jh:Bool}{len cap l hh m:Nat}{lU:Option Value}{k:IntKind}{nm:Int}{vh:Value}
  (tj:0≤nm) (Ze:nm.toNat=m) (Ol:m≤cap) (um:∃k n,vh=.int k n∧0≤n∧n.toNat=hh) (h2:hh≤m)
  (hl:Oi l lU) (h1:l≤hh) :
  (Instr.sliceBounds Jh len cap lU (some vh) (some (.int k nm))).run P w=.ok (l,hh,m) w:=by
 subst Ze
 obtain⟨kh,nh,rfl,a,b⟩:=um
 subst b
 cases lU with
 | none=>simp only[Oi]at hl;subst hl;simp[Instr.sliceBounds,run_sliceBound tj Ol,run_sliceBound a h2]
 | some v =>
  obtain⟨kl,nl,rfl,c,d⟩:=hl
  subst d
  simp[Instr.sliceBounds,run_sliceBound tj Ol,run_sliceBound a h2,run_sliceBound c h1]
theorem Ek {R:ax}{ty elem:TypeId}{ei:TypeInfo}{k:SK}{es:List (List T)}{l hh m:Nat}{lo:Option X}{hi mx:X}{lU:Option Value}{oe vm:Value}{vx:Value}(hu:P.underlying ty=some (.slice elem))(lF:P.info? elem=some ei)
  (h:SR w0 g H w) (hx:VR g w (.sl k es) vx) (og:OV g w R lo lU)
  (zB:VR g w (hi.ev R) oe) (hvm:VR g w (mx.ev R) vm) (hl:hJ R 0 lo=some l) (um:cB (hi.ev R)=some hh) (hm:cB (mx.ev R)=some m) (h1:l≤hh) (h2:hh≤m) (Ts:m≤es.length) (bD:es.all (·.length==ei.size)=true) :
  cq P w0 g H w (Instr.sliceAt ty vx lU (some oe) (some vm)) (.sl (if k=.nil then .nil else if es=[]∧k=.arg then .arg else if hh=m then .full else .arg) ((es.take hh).drop l)) H:=by
 have nv:∀c∈es,c.length=ei.size:=by simpa using bD
 have lG:Oi l lU:=by
  cases lo<;>cases lU
  ·simp[hJ]at hl;exact hl.symm
  ·exact og.elim
  ·exact og.elim
  ·exact eR og hl
 obtain⟨km,nm,rfl,tj,Ze⟩:=eR hvm hm
 have hb:∀cap,m≤cap→(Instr.sliceBounds true es.length cap lU (some oe) (some (.int km nm))).run P w=.ok (l,hh,m) w :=
  fun cap hc=>px tj Ze hc (eR zB um) h2 lG h1
 cases hx with
 | slnil =>
  simp at Ts;subst Ts
  obtain rfl:hh=0:=by omega
  obtain rfl:l=0:=by omega
  have:=hb 0 (Nat.le_refl _)
  simp only[List.length_nil]at this
  exact cq.same h (v:=.slice none 0 0) (by simp[Instr.sliceAt,run_underlying hu,Instr.slice,this,sizeOf,bu lF]) (by simpa using VR.slnil)
 | jw a =>
  simp at Ts;subst Ts
  obtain rfl:hh=0:=by omega
  obtain rfl:l=0:=by omega
  have:=hb 0 (Nat.le_refl _)
  simp only[List.length_nil]at this
  exact cq.same h (v:=.slice a 0 0) (by cases a<;>simp[Instr.sliceAt,run_underlying hu,Instr.slice,this,sizeOf,bu lF]) (by simpa using VR.jw a)
 | @sl _ _ r o cap n dc hk hc hn h3 h4 =>
  have Tt:k≠.nil:=by rintro rfl;exact hk.elim
  simp only[Tt,if_false]
  have hr:(Instr.sliceAt ty (.slice (some ⟨r,o,none⟩) es.length cap) lU (some oe) (some (.int km nm))).run P w=.ok (.slice (some (if m=l then⟨r,o,none⟩else⟨r,o+l*ei.size,none⟩)) (hh-l) (m-l)) w:=by
   simp[Instr.sliceAt,run_underlying hu,Instr.slice,hb cap (by omega),sizeOf,bu lF,dA]
   split<;>rfl
  by_cases he:l<hh
  ·have mM:m≠l:=by omega
   simp only[mM,if_false]at hr
   have bF:es≠[]:=by rintro rfl;simp at Ts;omega
   have tG:n=ei.size:=by
    cases es with
    | nil=>exact absurd rfl bF
    | cons c es=>have a:=hn c (by simp);have b:=nv c (by simp);omega
   subst tG
   simp only[bF,false_and,if_false]
   refine cq.same h hr (AY (k:=k) (cap:=cap) (a:=none) dc hn h3 h4 h1 (by omega) (by omega) ?_)
   split
   ·rename_i e;simp only[gI];omega
   ·trivial
  ·obtain rfl:l=hh:=by omega
   have hd:(es.take l).drop l=[]:=by simp
   rw[hd]
   have AZ:∀(a:Addr) (c:Nat) (k':SK),a.spot=none→(k'=.arg∨(k'=.full∧c=0))→VR g w (.sl k' []) (.slice (some a) 0 c):=by
    intro a c k' ha kv
    obtain⟨ab,ao,as⟩:=a
    simp at ha;subst ha
    refine .sl (n:=0) (fun _ _=>.nilIface) ?_ (by simp) (by simp) (by simp) (by simp)
    rcases kv with rfl|⟨rfl,rfl⟩
    ·trivial
    ·rfl
   refine cq.same h hr ?_
   rw[Nat.sub_self]
   refine AZ _ _ _ (by split<;>rfl) ?_
   split
   ·exact .inl rfl
   ·split
    ·exact .inr ⟨rfl,by omega⟩
    ·exact .inl rfl
theorem El {R:ax}{ty elem:TypeId}{ei:TypeInfo}{b off len l hh:Nat}{lo hi:Option X}{lU oe:Option Value}{vx:Value}(hu:P.underlying ty=some (.slice elem))(lF:P.info? elem=some ei)
  (h:SR w0 g H w) (hx:VR g w (.aC b off len ei.size) vx) (og:OV g w R lo lU)
  (zB:OV g w R hi oe) (hl:hJ R 0 lo=some l) (um:hJ R len hi=some hh) (h1:l≤hh) (h2:hh≤len) :
  cq P w0 g H w (Instr.sliceAt ty vx lU oe none) (if l=hh then(if l=0 then .aC b off 0 ei.size else .sl .arg [])else .aC b (off+l*ei.size) (hh-l) ei.size) H:=by
 cases hx with
 | @aC _ _ _ _ r o q cap hφ hc hq =>
  have:=iG (P:=P) (w:=w) (g:=g) (Jh:=true) (cap:=cap) og zB hl um (fun _=>rfl) h1 (by omega)
  have hr:(Instr.sliceAt ty (.slice (some ⟨r,o+off,none⟩) len cap) lU oe none).run P w=.ok (.slice (some (if cap=l then⟨r,o+off,none⟩else⟨r,o+off+l*ei.size,none⟩)) (hh-l) (cap-l)) w:=by
   simp[Instr.sliceAt,run_underlying hu,Instr.slice,this,sizeOf,bu lF,dA]
   split<;>rfl
  refine cq.same h hr ?_
  have key:∀a:Addr,a=⟨r,o+(off+l*ei.size),none⟩→(cap≠l∨l=0)→VR g w (.aC b (off+l*ei.size) (hh-l) ei.size) (.slice (some a) (hh-l) (cap-l)):=by
   rintro a rfl mM
   refine .aC hφ (by omega) ?_
   rw[←hq]
   have:l*ei.size+(cap-l)*ei.size=cap*ei.size:=by rw[←Nat.add_mul];congr 1;omega
   omega
  split
  ·rename_i e;subst e
   split
   ·rename_i e;subst e
    have:=key (if cap=0 then⟨r,o+off,none⟩else⟨r,o+off+0*ei.size,none⟩) (by split<;>simp) (.inr rfl)
    simpa using this
   ·rw[Nat.sub_self]
    have AZ:∀(a:Addr) (c:Nat),a.spot=none→VR g w (.sl .arg []) (.slice (some a) 0 c):=by
     intro a c ha
     obtain⟨ab,ao,as⟩:=a
     simp at ha;subst ha
     exact .sl (n:=0) (fun _ _=>.nilIface) trivial (by simp) (by simp) (by simp) (by simp)
    exact AZ _ _ (by split<;>rfl)
  ·have mM:cap≠l:=by omega
   exact key _ (by rw[if_neg mM,Nat.add_assoc]) (.inl mM)
theorem Em {R:ax}{ty elem:TypeId}{ei:TypeInfo}{b off len c l hh:Nat}{lo hi:Option X}{lU oe:Option Value}{vx:Value}(hu:P.underlying ty=some (.slice elem))(lF:P.info? elem=some ei)
  (h:SR w0 g H w) (hx:VR g w (.eH b off len ei.size c) vx) (og:OV g w R lo lU)
  (zB:OV g w R hi oe) (hl:hJ R 0 lo=some l) (um:hJ R len hi=some hh) (h1:l≤hh) (h2:hh≤c) :
  cq P w0 g H w (Instr.sliceAt ty vx lU oe none) (if l<c∨l=0 then .eH b (off+l*ei.size) (hh-l) ei.size (c-l)else .sl .arg []) H:=by
 cases hx with
 | @eH _ _ _ _ r o q cap hφ hc hq =>
  have:=iG (P:=P) (w:=w) (g:=g) (Jh:=true) (cap:=c) og zB hl um (fun _=>rfl) h1 (by omega)
  have hr:(Instr.sliceAt ty (.slice (some ⟨r,o+off,none⟩) len c) lU oe none).run P w=.ok (.slice (some (if c=l then⟨r,o+off,none⟩else⟨r,o+off+l*ei.size,none⟩)) (hh-l) (c-l)) w:=by
   simp[Instr.sliceAt,run_underlying hu,Instr.slice,this,sizeOf,bu lF,dA]
   split<;>rfl
  refine cq.same h hr ?_
  by_cases h3:l<c∨l=0
  case neg =>
   rw[if_neg h3]
   have e0:hh-l=0:=by omega
   have AZ:∀(a:Addr) (c:Nat),a.spot=none→VR g w (.sl .arg []) (.slice (some a) 0 c):=by
    intro a c ha
    obtain⟨ab,ao,as⟩:=a
    simp at ha;subst ha
    exact .sl (n:=0) (fun _ _=>.nilIface) trivial (by simp) (by simp) (by simp) (by simp)
   rw[e0]
   exact AZ _ _ (by split<;>rfl)
  rw[if_pos h3]
  have e:(if c=l then(⟨r,o+off,none⟩:Addr)else⟨r,o+off+l*ei.size,none⟩)=⟨r,o+(off+l*ei.size),none⟩:=by
   split
   ·have:l=0:=by omega
    subst this;simp
   ·simp[Nat.add_assoc]
  rw[e]
  refine .eH hφ (by omega) ?_
  rw[←hq]
  have:l*ei.size+(c-l)*ei.size=c*ei.size:=by rw[←Nat.add_mul];congr 1;omega
  omega
end
section
variable {P:Program} {w0 w:World} {g:Ctx} {H:af}
def nK (P:Program)(ty:TypeId):KT→Bool
 | .sc t=>match P.underlying ty with|some d=>Je t d|none=>false
 | .st ks=>match P.underlying ty with|some (.struct fs)=>flat P fs.toList 0 ks&&!P.stoodInHeld ty|_=>false
theorem En {e:Bool}{n:Nat}{ty:TypeId}{d:TypeDesc}{k:xf}{v:Value}(hu:P.underlying ty=some d)(hk:Je k d=true):(Instr.checkKey e (n+1) ty v).run P w=.ok () w:=by
 rw[Instr.checkKey];simp only[Sem.run_bind,run_underlying hu,Result.andThen_ok]
 cases k<;>cases d<;>simp[Je]at hk<;>cases v<;>rfl
theorem oC {e:Bool}{n:Nat}:∀(fs:List Field) (off:Nat) (ks:List xf) (cs:List T) (xs:Array Value),flat P fs off ks=true→cs.length=ks.length →
  (∀(i:Nat) (t:T),cs[i]?=some t→∃v,xs[off+i]?=some v∧VR g w t v) →
  (forIn fs PUnit.unit (fun f _=>if f.name≠"_" then (do let x ← part f.type xs f.offset;Instr.checkKey e (n+1) f.type x;pure (ForInStep.yield PUnit.unit))
   else pure (ForInStep.yield PUnit.unit)):Sem PUnit).run P w=.ok PUnit.unit w
 | [],off,ks,cs,xs,hf,hl,hc=>by simp
 | f :: fs,off,ks,cs,xs,hf,hl,hc=>by
  cases ks with
  | nil=>simp[flat]at hf
  | cons k ks =>
   cases cs with
   | nil=>simp at hl
   | cons c cs =>
    simp only[flat,Bool.and_eq_true,beq_iff_eq,bne_iff_ne]at hf
    obtain⟨⟨⟨Cy,Ei⟩,Jf⟩,gm⟩:=hf
    cases hu:P.underlying f.type with
    | none=>simp[hu]at Jf
    | some de =>
     simp[hu]at Jf
     obtain⟨va,zz,vA⟩:=hc 0 c rfl
     simp only[Nat.add_zero]at zz
     have ih:=oC (e:=e) (n:=n) fs (off+1) ks cs xs gm (by simpa using hl) (fun i t hi=>by have:=hc (i+1) t (by simpa using hi);rwa[show off+1+i=off+(i+1) by omega])
     simp only[List.forIn_cons,Sem.run_bind,Ei,ne_eq,not_false_eq_true,if_true,Cy,pw hu Jf zz,Result.andThen_ok,En hu Jf,Sem.run_pure]
     exact ih
theorem ry:∀(ks:List xf) (cs:List T),fN ks cs=true→cs.length=ks.length
 | [],[],_=>rfl
 | _ :: ks,_ :: cs,h=>by simp[fN]at h;simp[ry ks cs h.2]
 | [],_ :: _,h=>by simp[fN]at h
 | _ :: _,[],h=>by simp[fN]at h
theorem lV {e:Bool}{ty:TypeId}{kt:KT}{k:T}{vk:Value}(kG:nK P ty kt=true)(hk:VR g w k vk)(h:k.jF kt=true):(Instr.checkKey e 10000 ty vk).run P w=.ok () w:=by
 cases kt with
 | sc t =>
  simp only[nK]at kG
  cases hu:P.underlying ty with
  | none=>simp[hu]at kG
  | some d=>simp[hu]at kG;exact En (n:=9999) hu kG
 | st ks =>
  simp only[nK]at kG
  cases hu:P.underlying ty with
  | none=>simp[hu]at kG
  | some d =>
   cases d<;>simp[hu]at kG
   rename_i fs
   cases k<;>simp[T.jF]at h
   rename_i cs
   obtain⟨xs,rfl,Jg,_⟩:=hk.gJ
   show(Instr.checkKey e (9998+1+1) ty _).run P w=_
   rw[Instr.checkKey];simp only[Sem.run_bind,run_underlying hu,Result.andThen_ok]
   rw[←Array.forIn_toList]
   rw[oC (g:=g) (e:=e) (n:=9998) fs.toList 0 ks cs xs.toArray kG.1 (ry _ _ h) (fun i t hi=>by simpa using Jg.gM i t hi)]
   rfl
theorem Eo {n:Nat}{ty:TypeId}{kt:KT}{a b:T}{va vb:Value}{r:Bool}(kG:nK P ty kt=true)(ha:VR g w a va)(hb:VR g w b vb)(hk:a.jF kt=true)(he:iP a b=some r) :
  (Op.equalIn (n+1+1) ty va vb).run P w=.ok r w:=by
 cases kt with
 | sc t =>
  simp only[nK]at kG
  cases hu:P.underlying ty with
  | none=>simp[hu]at kG
  | some d =>
   simp[hu]at kG
   have DQ:jo a b=some r:=by
    cases a<;>simp[T.jF]at hk<;>(first|exact he|(cases t<;>simp[T.zu]at hk))
   exact AX hu kG ha hb hk DQ
 | st ks =>
  simp only[nK]at kG
  cases hu:P.underlying ty with
  | none=>simp[hu]at kG
  | some d =>
   cases d<;>simp[hu]at kG
   rename_i fs
   cases a<;>simp[T.jF]at hk
   rename_i cs
   cases b<;>simp[iP,jo]at he
   rename_i ds
   obtain⟨xs,rfl,Jg,_⟩:=ha.gJ
   obtain⟨ys,rfl,Sv,_⟩:=hb.gJ
   exact uj hu kG.1 (by simpa using kG.2) hk Jg Sv he n
theorem zC {t:xf}{d:TypeDesc}{a b:T}{va vb:Value}{r:Bool}(hd:Je t d=true)(ha:VR g w a va)(hb:VR g w b vb)(hk:a.zu t=true)(he:iP a b=some r):Instr.sameNow d va vb=some r:=by
 cases t<;>cases d<;>simp[Je]at hd<;>cases ha<;>simp[T.zu]at hk<;>cases hb<;>simp[iP,jo]at he
 ·obtain⟨rfl,rfl⟩:=he;simp[Instr.sameNow]
 ·subst he;simp[Instr.sameNow,jS,beq_toListBytes]
 ·subst he;simp[Instr.sameNow]
theorem vC {ty:TypeId}{kt:KT}{k:T}{vk:Value}(kG:nK P ty kt=true)(hk:VR g w k vk)(h:k.jF kt=true)(es:List (T×T))(ay:List MapEntry)(hl:ay.length=es.length)
  (hh:∀(i:Nat) (e:T×T) (m:MapEntry),es[i]?=some e→ay[i]?=some m→VR g w e.1 m.key∧VR g w e.2 m.val) {r:Option Nat} (hr:dz k es=some r) :
  (Instr.findKey ty vk ay).run P w=.ok (r.bind fun i=>(ay[i]?).map fun m=>(i,m.val)) w:=by
 cases kt with
 | sc t =>
  simp only[nK]at kG
  cases hu:P.underlying ty with
  | none=>simp[hu]at kG
  | some d =>
   simp[hu]at kG
   have key:∀(es:List (T×T)) (ay:List MapEntry) (j:Nat) (r:Option Nat),ay.length=es.length→(∀(i:Nat) (e:T×T) (m:MapEntry),es[i]?=some e→ay[i]?=some m→VR g w e.1 m.key∧VR g w e.2 m.val) →
     dz k es=some r→Instr.findNow d vk ay j=some (r.bind fun i=>(ay[i]?).map fun m=>(j+i,m.val)):=by
    intro es
    induction es with
    | nil =>
     intro ay j r hl _ hr
     simp[dz]at hr;subst hr
     cases ay with
     | nil=>rfl
     | cons _ _=>simp at hl
    | cons e es ih =>
     intro ay j r hl hh hr
     cases ay with
     | nil=>simp at hl
     | cons m ay =>
      have h0:=hh 0 e m rfl rfl
      simp only[dz]at hr
      cases he:iP k e.1 with
      | none=>simp[he]at hr
      | some b =>
       have hs:=zC kG hk h0.1 h he
       cases b with
       | true=>simp[he]at hr;subst hr;simp[Instr.findNow,hs]
       | false =>
        simp only[he,Option.map_eq_some_iff]at hr
        obtain⟨r',h1,rfl⟩:=hr
        simp only[Instr.findNow,hs]
        rw[ih ay (j+1) r' (by simpa using hl) (fun i e' m' a b=>hh (i+1) e' m' (by simpa using a) (by simpa using b)) h1]
        cases r' with
        | none=>rfl
        | some i=>simp;cases ay[i]?<;>simp;omega
   have:=key es ay 0 r hl hh hr
   simp only[Instr.findKey,Sem.run_bind,run_underlying hu,Result.andThen_ok,this,Sem.run_pure]
   simp
 | st ks =>
  have Zf:=kG
  simp only[nK]at kG
  cases hu:P.underlying ty with
  | none=>simp[hu]at kG
  | some d =>
   cases d<;>simp[hu]at kG
   rename_i fs
   have key:∀(es:List (T×T)) (ay:List MapEntry) (j:Nat) (r:Option Nat),ay.length=es.length→(∀(i:Nat) (e:T×T) (m:MapEntry),es[i]?=some e→ay[i]?=some m→VR g w e.1 m.key∧VR g w e.2 m.val) →
     dz k es=some r→(Instr.findAsking ty vk ay j).run P w=.ok (r.bind fun i=>(ay[i]?).map fun m=>(j+i,m.val)) w:=by
    intro es
    induction es with
    | nil =>
     intro ay j r hl _ hr
     simp[dz]at hr;subst hr
     cases ay with
     | nil=>rfl
     | cons _ _=>simp at hl
    | cons e es ih =>
     intro ay j r hl hh hr
     cases ay with
     | nil=>simp at hl
     | cons m ay =>
      have h0:=hh 0 e m rfl rfl
      simp only[dz]at hr
      cases he:iP k e.1 with
      | none=>simp[he]at hr
      | some b =>
       have hs:(Op.equal ty vk m.key).run P w=.ok b w:=Eo (n:=9998) Zf hk h0.1 h he
       cases b with
       | true=>simp[he]at hr;subst hr;simp[Instr.findAsking,hs]
       | false =>
        simp only[he,Option.map_eq_some_iff]at hr
        obtain⟨r',h1,rfl⟩:=hr
        simp only[Instr.findAsking,Sem.run_bind,hs,Result.andThen_ok,Bool.false_eq_true,if_false]
        rw[ih ay (j+1) r' (by simpa using hl) (fun i e' m' a b=>hh (i+1) e' m' (by simpa using a) (by simpa using b)) h1]
        cases r' with
        | none=>rfl
        | some i=>simp;cases ay[i]?<;>simp;omega
   have kv:=key es ay 0 r hl hh hr
   cases ay with
   | nil =>
    simp only[Instr.findKey,Sem.run_bind,run_underlying hu,Result.andThen_ok,Instr.findNow,Sem.run_pure]
    exact kv
   | cons m ay =>
    have:Instr.findNow (.struct fs) vk (m :: ay) 0=none:=by simp[Instr.findNow,Instr.sameNow]
    simp only[Instr.findKey,Sem.run_bind,run_underlying hu,Result.andThen_ok,this]
    simpa using kv
def Ep (w:World)(vm:Value)(ay:Array MapEntry):Prop:=(vm=.map none∧ay=#[])∨∃r c,vm=.map (some r)∧w.heap[r]?=some (.map ay c)
theorem CA {m:T}{vm:Value}{es:List (T×T)}(h:SR w0 g H w)(hm:VR g w m vm)(jm:ik H m=some es):∃ay,Ep w vm ay∧eI g w es ay:=by
 cases hm<;>simp[ik]at jm
 ·subst jm;exact⟨#[],.inl ⟨rfl,rfl⟩,⟨rfl,by simp⟩⟩
 ·rename_i b r' o q hφ
  cases hb:H[b]? with
  | none=>simp[hb]at jm
  | some y =>
   cases y<;>simp[hb]at jm
   ·subst jm
    obtain⟨_,ay,c,h2,h3,_⟩:=h.eG b _ hb r' o q hφ
    exact⟨ay,.inr ⟨r',c,rfl,h2⟩,h3⟩
   ·subst jm
    obtain⟨r2,o',q',lO,_,ay,c,h2,h3,_⟩:=h.eG b _ hb
    rw[hφ]at lO;cases lO
    exact⟨ay,.inr ⟨r',c,rfl,h2⟩,h3⟩
theorem rz {ty key elem:TypeId}{ei:TypeInfo}{zv vm vk:Value}{ok:Bool}{ay:Array MapEntry}{r:Option (Nat×Value)}(hu:P.underlying ty=some (.map key elem))(hi:P.info? elem=some ei)(hz:ei.zero=some zv)
  (he:Ep w vm ay) (hc:(Instr.checkKey ay.isEmpty 10000 key vk).run P w=.ok () w) (hf:(Instr.findKey key vk ay.toList).run P w=.ok r w) :
  (Instr.lookup ty vm vk ok).run P w=.ok (match r with|some (_,v)=>if ok then .tuple #[v,.bool true]else v|none=>if ok then .tuple #[zv,.bool false]else zv) w:=by
 rcases he with⟨rfl,rfl⟩|⟨rr,c,rfl,h2⟩
 ·have qQ:(Instr.findKey key vk []).run P w=.ok r w:=hf
  have ir:(Instr.checkKey true 10000 key vk).run P w=.ok () w:=hc
  simp only[Instr.lookup,Sem.run_bind,run_underlying hu,Result.andThen_ok]
  cases r with
  | none=>simp[ir,qQ,zeroValue,bu hi,hz]
  | some x=>obtain⟨i,v⟩:=x;simp[ir,qQ]
 ·simp only[Instr.lookup,Sem.run_bind,run_underlying hu,Result.andThen_ok]
  cases r with
  | none=>simp[getObj,Sem.run,h2,hc,hf,zeroValue,bu hi,hz]
  | some x=>obtain⟨i,v⟩:=x;simp[getObj,Sem.run,h2,hc,hf]
theorem A0 {ty key elem:TypeId}{ei:TypeInfo}{zv:Value}{kt:KT}{z m k t:T}{ok:Bool}{vm vk:Value}{es:List (T×T)}{r:Option Nat}(hu:P.underlying ty=some (.map key elem))(hi:P.info? elem=some ei)(hz:ei.zero=some zv)(qR:nJ zv=some z)
  (kG:nK P key kt=true) (h:SR w0 g H w) (hm:VR g w m vm) (hk:VR g w k vk) (zD:k.jF kt=true)
  (jm:ik H m=some es) (hr:dz k es=some r)
  (ht:(match r with|some i=>(es[i]?).map fun e=>if ok then T.bC [e.2,.bool true]else e.2|none=>some (if ok then .bC [z,.bool false]else z))=some t):cq P w0 g H w (Instr.lookup ty vm vk ok) t H:=by
 obtain⟨ay,X6,hE⟩:=CA h hm jm
 have hf:=vC kG hk zD es ay.toList (by simpa using hE.1) (fun i e m a b=>hE.2 i e m a (by simpa using b)) hr
 have hc:=lV (e:=ay.isEmpty) kG hk zD
 have zvr:VR g w z zv:=mN qR
 cases r with
 | none =>
  simp only[Option.some.injEq]at ht
  subst ht
  refine cq.same h (rz hu hi hz X6 hc hf) ?_
  cases ok
  ·exact zvr
  ·exact bL.bC (bL.cons zvr (bL.cons (.bool _) bL.nil))
 | some i =>
  cases he:es[i]? with
  | none=>simp[he]at ht
  | some e =>
   have aq:i<ay.size:=by rw[hE.1];exact(List.getElem?_eq_some_iff.1 he).1
   have rA:ay[i]?=some ay[i]:=Array.getElem?_eq_getElem aq
   have hv:=(hE.2 i e _ he rA).2
   simp only[he,Option.map_some,Option.some.injEq]at ht
   subst ht
   have hx:((some i:Option Nat).bind fun i=>(ay.toList[i]?).map fun m=>(i,m.val))=some (i,ay[i].val):=by simp[aq]
   rw[hx]at hf
   refine cq.same h (rz hu hi hz X6 hc hf) ?_
   cases ok
   ·exact hv
   ·exact bL.bC (bL.cons hv (bL.cons (.bool _) bL.nil))
theorem JZ {vs:List T}{i:Nat}{t:T}{vx:Value}(h:SR w0 g H w)(hx:VR g w (.bC vs) vx)(he:vs[i]?=some t):cq P w0 g H w (Instr.extract vx i) t H:=by
 obtain⟨xs,rfl,Jg⟩:=hx.JI
 obtain⟨v,h1,h2⟩:=Jg.gM i t he
 exact cq.same h (by simp at h1;simp[Instr.extract,h1]) h2
theorem Om {rt:TypeId}{jy:Array TypeId}{k k':IntKind}{a b:Int}{vx vy:Value}(h:SR w0 g H w)(hx:VR g w (.int k a) vx)(hy:VR g w (.int k' b) vy):cq P w0 g H w (Builtin.min_ jy rt #[vx,vy]) (.int k (if b<a then b else a)) H:=by
 cases hx;cases hy
 exact cq.same h (by simp[Builtin.min_,Builtin.min2]) (.int _ _)
theorem On {rt:TypeId}{jy:Array TypeId}{k k':IntKind}{a b:Int}{vx vy:Value}(h:SR w0 g H w)(hx:VR g w (.int k a) vx)(hy:VR g w (.int k' b) vy):cq P w0 g H w (Builtin.max_ jy rt #[vx,vy]) (.int k (if b>a then b else a)) H:=by
 cases hx;cases hy
 exact cq.same h (by simp[Builtin.max_,Builtin.max2]) (.int _ _)
end
section
variable {P:Program} {w0 w:World} {g:Ctx} {H:af}
def iu:Nat→Nat→Prop:=fun _ _=>False
def jz:Nat→Prop:=fun _=>False
theorem Tr.drew (w:World):Tr w w.drew iu jz:=⟨Nat.le_refl _,fun _ _ _ _=>rfl,fun _ _ _=>rfl,fun _ _ _ h=>h,fun _ _ _ _ h=>h,fun _ _ _ _=>rfl,fun _ _ h=>dI h,rfl,rfl⟩
theorem Tr.refl (w:World):Tr w w iu jz:=⟨Nat.le_refl _,fun _ _ _ _=>rfl,fun _ _ _=>rfl,fun _ _ _ h=>h,fun _ _ _ _ h=>h,fun _ _ _ _=>rfl,fun _ _ h=>dI h,rfl,rfl⟩
theorem Tr.alloc (w:World)(o:Obj)(ho:fR o=true∨∃c t,o=.cells c t):Tr w (w.alloc o) iu jz where
 size:=by simp
 cell r j hr _:=World.cell?_alloc_lt w o ⟨r,j,none⟩ hr
 qN r j hr:=World.frozen?_alloc_old w o ⟨r,j,none⟩ (Nat.ne_of_lt hr)
 eJ r j hr h:=by rw[World.cell?_alloc_lt w o ⟨r,j,none⟩ hr];exact h
 maps r x _ _ h:=by
  have hr:r<w.heap.size:=(Array.getElem?_eq_some_iff.1 h).1
  simp only[World.alloc,Array.getElem?_push];rw[if_neg (by omega)];exact h
 kC r hr _ _:=by simp only[World.alloc,Array.getElem?_push];rw[if_neg (by omega)]
 zy r j hr:=by
  by_cases e:r=w.heap.size
  ·subst e
   have e1:(w.alloc o).heap[w.heap.size]?=some o:=by show(w.heap.push o)[w.heap.size]?=some o;simp
   unfold World.frozen?
   rw[e1]
   rcases ho with ho|⟨c,t,rfl⟩
   ·cases o<;>simp[fR]at ho<;>rfl
   ·simp
  ·rw[World.frozen?_alloc_old w o ⟨r,j,none⟩ e];exact dI hr
 env:=⟨rfl,rfl⟩
theorem Tr.trans {w w' Tn:World}{S:Nat→Nat→Prop}{M:Nat→Prop}(h:Tr w w' S M)(h':Tr w' Tn S M):Tr w Tn S M where
 size:=Nat.le_trans h.size h'.size
 cell r j hr hs:=(h'.cell r j (Nat.lt_of_lt_of_le hr h.size) hs).trans (h.cell r j hr hs)
 qN r j hr:=(h'.qN r j (Nat.lt_of_lt_of_le hr h.size)).trans (h.qN r j hr)
 eJ r j hr hs:=h'.eJ r j (Nat.lt_of_lt_of_le hr h.size) (h.eJ r j hr hs)
 maps r x hm hs h1:=h'.maps r x hm hs (h.maps r x hm hs h1)
 kC r hr hm hs:=(h'.kC r (Nat.lt_of_lt_of_le hr h.size) hm hs).trans (h.kC r hr hm hs)
 zy r j hr:=by
  by_cases hw:r<w'.heap.size
  ·rw[h'.qN r j hw];exact h.zy r j hr
  ·exact h'.zy r j (by omega)
 env:=⟨h'.env.1.trans h.env.1,h'.env.2.trans h.env.2⟩
theorem cN (r:Nat):∀(vs:List Value) (o:Nat) (w:World) (r' j:Nat),¬(r'=r∧o≤j∧j<o+vs.length)→(w.setCells r o vs).cell? ⟨r',j,none⟩=w.cell? ⟨r',j,none⟩
 | [],_,_,_,_,_=>rfl
 | v :: vs,o,w,r',j,h=>by
  rw[World.setCells,cN r vs (o+1) _ r' j (by simp at h ⊢;omega),World.cell?_setCell_other]
  intro e
  simp at e
  exact h ⟨e.1.symm,by omega,by simp;omega⟩
theorem cR (r:Nat):∀(vs:List Value) (o:Nat) (w:World),(∀j,o≤j→j<o+vs.length→(w.cell? ⟨r,j,none⟩).isSome=true)→∀(i:Nat) (v:Value),vs[i]?=some v→(w.setCells r o vs).cell? ⟨r,o+i,none⟩=some v
 | [],_,_,_,i,v,h=>by simp at h
 | u :: vs,o,w,hs,i,v,h=>by
  rw[World.setCells]
  cases i with
  | zero =>
   simp at h;subst h
   rw[cN r vs (o+1) _ r _ (by omega)]
   obtain⟨x,hx⟩:=Option.isSome_iff_exists.1 (hs o (Nat.le_refl _) (by simp))
   exact World.cell?_setCell_same w ⟨r,o,none⟩ u hx
  | succ i =>
   have:=cR r vs (o+1) (w.setCell ⟨r,o,none⟩ u) (fun j h1 h2=>by
    rw[World.cell?_setCell_other _ _ _ _ (by simp;omega)]
    exact hs j (by omega) (by simp;omega)) i v (by simpa using h)
   rwa[show o+(i+1)=o+1+i by omega]
theorem ea (r:Nat):∀(vs:List Value) (o:Nat) (w:World),(w.setCells r o vs).heap.size=w.heap.size
 | [],_,_=>rfl
 | v :: vs,o,w=>by rw[World.setCells,ea r vs,World.size_setCell]
theorem nw (r:Nat):∀(vs:List Value) (o:Nat) (w:World) (r':Nat),r'≠r→(w.setCells r o vs).heap[r']?=w.heap[r']?
 | [],_,_,_,_=>rfl
 | v :: vs,o,w,r',h=>by
  rw[World.setCells,nw r vs _ _ r' h]
  simp only[World.setCell,Array.getElem?_modify];rw[if_neg (fun e=>h e.symm)]
theorem oD (r:Nat):∀(vs:List Value) (o:Nat) (w:World) (r':Nat) (x:Obj),fR x=true→w.heap[r']?=some x→(w.setCells r o vs).heap[r']?=some x
 | [],_,_,_,_,_,h=>h
 | v :: vs,o,w,r',x,hs,h=>by
  rw[World.setCells]
  refine oD r vs _ _ r' x hs ?_
  simp only[World.setCell,Array.getElem?_modify]
  split
  ·rename_i e;rw[h];cases x<;>simp[fR]at hs<;>rfl
  ·exact h
theorem oE (r:Nat):∀(vs:List Value) (o:Nat) (w:World),(w.setCells r o vs).os=w.os∧(w.setCells r o vs).output=w.output
 | [],_,_=>⟨rfl,rfl⟩
 | v :: vs,o,w=>by rw[World.setCells];exact oE r vs _ _
def xF (r o n:Nat):Nat→Nat→Prop:=fun r' j=>r'=r∧o≤j∧j<o+n
theorem Tr.setCells (w:World)(r o:Nat)(vs:List Value)(hs:∀j,o≤j→j<o+vs.length→(w.cell? ⟨r,j,none⟩).isSome=true):Tr w (w.setCells r o vs) (xF r o vs.length) jz where
 size:=by rw[ea];exact Nat.le_refl _
 cell r' j _ h:=cN r vs o w r' j h
 qN r' j _:=World.frozen?_setCells r vs o w _
 eJ r' j _ h:=by
  by_cases e:r'=r∧o≤j∧j<o+vs.length
  ·obtain⟨rfl,e1,e2⟩:=e
   have hi:j-o<vs.length:=by omega
   have:=cR r' vs o w hs (j-o) _ (List.getElem?_eq_getElem hi)
   rw[show o+(j-o)=j by omega]at this
   rw[this];rfl
  ·rw[cN r vs o w r' j e];exact h
 maps r' x _ hs h:=oD r vs o w r' x hs h
 kC r' _ _ h:=by
  by_cases e:r'=r
  ·cases vs with
   | nil=>rfl
   | cons v vs=>exact absurd ⟨e,Nat.le_refl _,by simp⟩ (h o)
  ·exact nw r vs o w r' e
 zy r' j hr:=by rw[World.frozen?_setCells];exact dI hr
 env:=oE r vs o w
def Ctx.row (g:Ctx)(r:Nat)(f:Nat→Ow):Ctx:={ g with κ:=fun r' j=>if r'=r then f j else g.κ r' j }
def Ctx.at (g:Ctx)(b:Nat)(x:Nat×Nat×Nat):Ctx:={ g with φ:=fun b'=>if b'=b then some x else g.φ b' }
def Ctx.tok (g:Ctx)(t e:Nat)(x:Nat×Nat×Nat):Ctx:={ g with π:=fun t' e'=>if t'=t∧e'=e then some x else g.π t' e' }
theorem Le.iR {w':World}{g':Ctx}{S:Nat→Nat→Prop}{M:Nat→Prop}(tr:Tr w w' S M)(hφ:∀b x,g.φ b=some x→g'.φ b=some x)(hκ:∀r o,g.κ r o=.nf→g'.κ r o=.nf)(hπ:∀t e x,g.π t e=some x→g'.π t e=some x)
  (hS:∀r j,S r j→g.κ r j≠.nf) (hck:g'.ck=g.ck:=by rfl):Le g w g' w' :=
 ⟨hφ,hκ,hπ,fun r o v hk hc=>by rw[tr.cell r o (kD hc) (fun hs=>hS r o hs hk)];exact hc,hck⟩
theorem SR.nf {c:Array Value}{ty:TypeId}{w1:World}(h:SR w0 g H w)(tr:Tr w w1 iu jz)(hz:w1.heap.size=w.heap.size) :
  Le g w (g.row w.heap.size fun _=>.nf) (w1.alloc (.cells c ty))∧SR w0 (g.row w.heap.size fun _=>.nf) H (w1.alloc (.cells c ty))∧Fr g H (g.row w.heap.size fun _=>.nf) H ∧
  ∀(j:Nat) (v:Value),c[j]?=some v→Ct (g.row w.heap.size fun _=>.nf) (w1.alloc (.cells c ty)) w.heap.size j v:=by
 have xG:=tr.trans (Tr.alloc w1 (.cells c ty) (.inr ⟨_,_,rfl⟩))
 have le:Le g w (g.row w.heap.size fun _=>.nf) (w1.alloc (.cells c ty)):=Le.iR xG (fun _ _ h=>h) (fun r o hk=>by simp only[Ctx.row];split;rfl;exact hk) (fun _ _ _ h=>h) (fun _ _ hs=>hs.elim)
 refine⟨le,?_,⟨Nat.le_refl _,fun _ _ a _ b=>⟨a,b⟩⟩,fun j v hj=>⟨by simp[Ctx.row],?_⟩⟩
 ·refine h.step (fun _=>False) xG le (fun _ _ hs=>hs.elim) (fun _ hm=>hm.elim) (fun r o hr=>?_) h.tF h.jH (fun _ _ _=>rfl) (fun r j b _=>?_) (fun _ _ _ _=>rfl) (fun b x hx=>.inl ⟨fun hf=>hf,hx⟩)
  ·simp at hr
   simp only[Ctx.row];rw[if_neg (by omega)];exact h.fresh r o (by omega)
  ·have bF:∀ow,g.κ r j=ow→ow≠.free→r≠w.heap.size:=by rintro ow e hn rfl;exact hn (e▸h.fresh _ j (Nat.le_refl _))
   constructor<;>intro e<;>simp only[Ctx.row]<;>rw[if_neg (bF _ e (by simp))]<;>exact e
 ·rw[←hz,World.cell?_alloc_new];exact hj
theorem SR.mut {c:Array Value}{ty:TypeId}{w1:World}{H':af}{b:Nat}{cs:List T}(h:SR w0 g H w)(tr:Tr w w1 iu jz)(hz:w1.heap.size=w.heap.size)
  (hb:H'[b]?=some (.cells cs)) (hn:g.φ b=none) (hH:∀b' x,b'≠b→H'[b']?=some x→H[b']?=some x∨x=.dead) (hl:H.length≤H'.length) (av:∀b' x,H[b']?=some x→(∀e,x≠.tok e)→g.φ b'=none→b'≠b→H'[b']?=some x)
  (hc:∀(i:Nat) (t:T),cs[i]?=some t→t.one=true∧∃v,c[i]?=some v∧VR g w t v) :
  Le g w ((g.row w.heap.size fun _=>.mut b).at b (w.heap.size,0,c.size)) (w1.alloc (.cells c ty))∧SR w0 ((g.row w.heap.size fun _=>.mut b).at b (w.heap.size,0,c.size)) H' (w1.alloc (.cells c ty)) ∧
  (∀b' x,H[b']?=some x→(∀e,x≠.tok e)→g.φ b'=none→b'≠b→H'[b']?=some x∧((g.row w.heap.size fun _=>.mut b).at b (w.heap.size,0,c.size)).φ b'=none):=by
 have xG:=tr.trans (Tr.alloc w1 (.cells c ty) (.inr ⟨_,_,rfl⟩))
 have bF:∀r j ow,g.κ r j=ow→ow≠.free→r≠w.heap.size:=by rintro r j ow e hn rfl;exact hn (e▸h.fresh _ j (Nat.le_refl _))
 have le:Le g w ((g.row w.heap.size fun _=>.mut b).at b (w.heap.size,0,c.size)) (w1.alloc (.cells c ty)):=Le.iR xG
  (fun b' x hx=>by simp only[Ctx.at,Ctx.row];split;rename_i e;subst e;rw[hn]at hx;simp at hx;exact hx)
  (fun r o hk=>by simp only[Ctx.row,Ctx.at];rw[if_neg (bF r o _ hk (by simp))];exact hk) (fun _ _ _ h=>h) (fun _ _ hs=>hs.elim)
 refine⟨le,?_,fun b' x a a' d e=>⟨av b' x a a' d e,by simp only[Ctx.at,Ctx.row];rw[if_neg e];exact d⟩⟩
 refine h.step (fun b'=>b'=b) xG le (fun _ _ hs=>hs.elim) (fun _ hm=>hm.elim) (fun r o hr=>?_) (fun b' x hx=>?_) (fun t e x hx=>Nat.lt_of_lt_of_le (h.jH t e x hx) hl) (fun b' _ jN=>?_) (fun r j b' jN=>?_) (fun _ _ _ _=>rfl) (fun b' x hx=>?_)
 ·simp at hr
  simp only[Ctx.row,Ctx.at];rw[if_neg (by omega)];exact h.fresh r o (by omega)
 ·simp only[Ctx.at,Ctx.row]at hx
  split at hx
  ·rename_i e;subst e;exact(List.getElem?_eq_some_iff.1 hb).1
  ·exact Nat.lt_of_lt_of_le (h.tF b' x hx) hl
 ·simp only[Ctx.at,Ctx.row];rw[if_neg jN]
 ·constructor<;>intro e<;>simp only[Ctx.row,Ctx.at]<;>rw[if_neg (bF r j _ e (by simp))]<;>exact e
 ·by_cases e:b'=b
  ·subst e
   right
   rw[hb]at hx;cases hx
   intro r o q hq
   simp only[Ctx.at,if_true,Option.some.injEq,Prod.mk.injEq]at hq
   obtain⟨rfl,rfl,rfl⟩:=hq
   have tH:∀i,i<cs.length→i<c.size:=fun i hi=>by
    obtain⟨_,v,hv,_⟩:=hc i _ (List.getElem?_eq_getElem hi)
    exact(Array.getElem?_eq_some_iff.1 hv).1
   refine⟨?_,fun j _ hj=>⟨by simp[Ctx.row,Ctx.at],by rw[←hz];simp,by rw[←hz,World.cell?_alloc_new,Array.getElem?_eq_getElem hj];rfl⟩,fun i t hi=>?_⟩
   ·cases mM:cs.length with
    | zero=>omega
    | succ n=>have:=tH n (by omega);omega
   ·obtain⟨h1,v,h2,h3⟩:=hc i t hi
    exact⟨h1,v,by rw[←hz,World.cell?_alloc_new,Nat.zero_add];exact h2,h3.mono le⟩
  ·rcases hH b' x e hx with jW|rfl
   ·exact .inl ⟨e,jW⟩
   ·right;trivial
theorem fS (H:af)(x:B):(H++[x])[H.length]?=some x:=by simp
theorem dh {H:af}{x y:B}{b:Nat}(hb:b≠H.length)(h:(H++[x])[b]?=some y):H[b]?=some y:=by
 rw[List.getElem?_append]at h
 split at h
 ·exact h
 ·rename_i aq
  have:b-H.length≠0:=by omega
  cases hk:b-H.length with
  | zero=>omega
  | succ n=>simp[hk]at h
theorem jA {H:af}{x y:B}{b:Nat}(h:H[b]?=some y):(H++[x])[b]?=some y:=by
 rw[List.getElem?_append_left (List.getElem?_eq_some_iff.1 h).1];exact h
theorem SR.J0 (h:SR w0 g H w){b:Nat}(hb:H.length≤b):g.φ b=none:=by
 cases e:g.φ b with
 | none=>rfl
 | some x=>have:=h.tF b x e;omega
theorem SR.Zg (h:SR w0 g H w){t e:Nat}(hb:H.length≤t):g.π t e=none:=by
 cases e':g.π t e with
 | none=>rfl
 | some x=>have:=h.jH t e x e';omega
theorem SR.iH {c:Array Value}{ty:TypeId}{w1:World}{cs:List T}(h:SR w0 g H w)(tr:Tr w w1 iu jz)(hz:w1.heap.size=w.heap.size)
  (hc:∀(i:Nat) (t:T),cs[i]?=some t→t.one=true∧∃v,c[i]?=some v∧VR g w t v) :
  ∃g',Le g w g' (w1.alloc (.cells c ty))∧SR w0 g' (H++[.cells cs]) (w1.alloc (.cells c ty))∧Fr g H g' (H++[.cells cs])∧g'.φ H.length=some (w.heap.size,0,c.size):=by
 obtain⟨le,sr,fr⟩:=h.mut (H':=H++[.cells cs]) (b:=H.length) (ty:=ty) tr hz (fS _ _) (h.J0 (Nat.le_refl _)) (fun b' x e hx=>.inl (dh e hx)) (by simp) (fun b' x hx _ _ _=>jA hx) hc
 exact⟨_,le,sr,⟨by simp,fun b x a a' d=>fr b x a a' d (by have:=(List.getElem?_eq_some_iff.1 a).1;omega)⟩,by simp[Ctx.at]⟩
theorem bL.Oo {cs:List T}{vs:List Value}(h:bL g w cs vs)(ho:cI cs):∀(i:Nat) (t:T),cs[i]?=some t→t.one=true∧∃v,vs.toArray[i]?=some v∧VR g w t v :=
 fun i t hi=>⟨ho t (List.mem_of_getElem? hi),h.gM i t hi⟩
theorem CB {ty:TypeId}{i:TypeInfo}{zv:Value}{z:List T}(hi:P.info? ty=some i)(hz:i.zero=some zv)(hc:fw zv.cells.toList=some z)(h:SR w0 g H w) :
  cq P w0 g H w (Instr.alloc ty true (.tuple #[])) (.ptr H.length 0) (H++[.cells z]):=by
 obtain⟨hv,ho⟩:=dZ (g:=g) (w:=w) _ _ hc
 obtain⟨g',le,sr,fr,hφ⟩:=h.iH (c:=zv.cells) (ty:=ty) (w1:=w) (Tr.refl w) rfl (by simpa using hv.Oo ho)
 refine⟨.pointer (some ⟨w.heap.size,0,none⟩),_,g',?_,le,sr,.ptr hφ,fr⟩
 simp[Instr.alloc,zeroValue,bu hi,hz,newVar,newRow]
theorem J1 {ty:TypeId}{x:T}{cs:List T}{vx:Value}(h:SR w0 g H w)(hx:VR g w x vx)(hc:x.cells?=some cs) :
  cq P w0 g H w (Instr.box ty vx) (.ptr H.length 0) (H++[.cells cs]):=by
 obtain⟨hv,ho⟩:=jV hx hc
 obtain⟨g',le,sr,fr,hφ⟩:=h.iH (c:=vx.cells) (ty:=ty) (w1:=w) (Tr.refl w) rfl (by simpa using hv.Oo ho)
 refine⟨.pointer (some ⟨w.heap.size,0,none⟩),_,g',?_,le,sr,.ptr hφ,fr⟩
 simp[Instr.box,newVar,newRow]
theorem SR.Er {b:Nat}{H':af}(h:SR w0 g H w)(hb:H'[b]?=some (.map []))(hn:g.φ b=none)(hH:∀b' x,b'≠b→H'[b']?=some x→H[b']?=some x)(hl:H.length≤H'.length) :
  Le g w ((g.row w.heap.size fun _=>.mut b).at b (w.heap.size,0,0)) (w.alloc (.map #[] 0))∧SR w0 ((g.row w.heap.size fun _=>.mut b).at b (w.heap.size,0,0)) H' (w.alloc (.map #[] 0)):=by
 have xG:=Tr.alloc w (.map #[] 0) (.inl rfl)
 have bF:∀r j ow,g.κ r j=ow→ow≠.free→r≠w.heap.size:=by rintro r j ow e hn rfl;exact hn (e▸h.fresh _ j (Nat.le_refl _))
 have le:Le g w ((g.row w.heap.size fun _=>.mut b).at b (w.heap.size,0,0)) (w.alloc (.map #[] 0)):=Le.iR xG
  (fun b' x hx=>by simp only[Ctx.at,Ctx.row];split;rename_i e;subst e;rw[hn]at hx;simp at hx;exact hx)
  (fun r o hk=>by simp only[Ctx.row,Ctx.at];rw[if_neg (bF r o _ hk (by simp))];exact hk) (fun _ _ _ h=>h) (fun _ _ hs=>hs.elim)
 refine⟨le,?_⟩
 refine h.step (fun b'=>b'=b) xG le (fun _ _ hs=>hs.elim) (fun _ hm=>hm.elim) (fun r o hr=>?_) (fun b' x hx=>?_) (fun t e x hx=>Nat.lt_of_lt_of_le (h.jH t e x hx) hl) (fun b' _ jN=>?_) (fun r j b' jN=>?_) (fun _ _ _ _=>rfl) (fun b' x hx=>?_)
 ·simp at hr
  simp only[Ctx.row,Ctx.at];rw[if_neg (by omega)];exact h.fresh r o (by omega)
 ·simp only[Ctx.at,Ctx.row]at hx
  split at hx
  ·rename_i e;subst e;exact(List.getElem?_eq_some_iff.1 hb).1
  ·exact Nat.lt_of_lt_of_le (h.tF b' x hx) hl
 ·simp only[Ctx.at,Ctx.row];rw[if_neg jN]
 ·constructor<;>intro e<;>simp only[Ctx.row,Ctx.at]<;>rw[if_neg (bF r j _ e (by simp))]<;>exact e
 ·by_cases e:b'=b
  ·subst e
   right
   rw[hb]at hx;cases hx
   intro r o q hq
   simp only[Ctx.at,if_true,Option.some.injEq,Prod.mk.injEq]at hq
   obtain⟨rfl,rfl,rfl⟩:=hq
   exact⟨by simp[Ctx.row,Ctx.at],#[],0,by show(w.heap.push _)[w.heap.size]?=_;simp,⟨rfl,by simp⟩,by simp[fQ]⟩
  ·exact .inl ⟨e,hH b' x e hx⟩
theorem J2 {ty:TypeId}(h:SR w0 g H w):cq P w0 g H w (Instr.makeMap ty none) (.map H.length) (H++[.map []]):=by
 obtain⟨le,sr⟩:=h.Er (H':=H++[.map []]) (b:=H.length) (fS _ _) (h.J0 (Nat.le_refl _)) (fun b' x e hx=>dh e hx) (by simp)
 refine⟨.map (some w.heap.size),_,_,?_,le,sr,.map (r:=w.heap.size) (o:=0) (q:=0) (by simp[Ctx.at]),by simp,fun b x a _ d=>⟨jA a,?_⟩⟩
 ·simp[Instr.makeMap]
 ·have:=(List.getElem?_eq_some_iff.1 a).1
  simp only[Ctx.at,Ctx.row];rw[if_neg (by omega)];exact d
end
section
variable {P:Program} {w0 w:World} {g:Ctx} {H:af}
theorem e9 {H:af}{b b':Nat}{x y:B}(aq:b<H.length)(h:(H.set b x)[b']?=some y):(b'=b∧y=x)∨(b'≠b∧H[b']?=some y):=by
 rw[List.getElem?_set]at h
 split at h
 ·rename_i e;subst e;simp[aq]at h;exact .inl ⟨rfl,h.symm⟩
 ·rename_i e;exact .inr ⟨fun e'=>e e'.symm,h⟩
theorem fT {H:af}{b b':Nat}{x y:B}(h:H[b']?=some y)(bF:b'≠b):(H.set b x)[b']?=some y:=by
 rw[List.getElem?_set,if_neg (fun e=>bF e.symm)];exact h
theorem SR.store {b off r o q:Nat}{cs ts:List T}{vs:List Value}(h:SR w0 g H w)(hb:H[b]?=some (.cells cs))(hφ:g.φ b=some (r,o,q))(hle:off+ts.length≤cs.length)(hv:bL g w ts vs)(ho:cI ts) :
  Le g w g (w.setCells r (o+off) vs)∧SR w0 g (H.set b (.cells (cs.take off++ts++cs.drop (off+ts.length)))) (w.setCells r (o+off) vs):=by
 have kH:b<H.length:=(List.getElem?_eq_some_iff.1 hb).1
 obtain⟨h1,h2,h3⟩:=h.eG b _ hb r o q hφ
 have hl:=hv.1
 have hs:∀j,o+off≤j→j<o+off+vs.length→(w.cell? ⟨r,j,none⟩).isSome=true:=fun j a c=>(h2 j (by omega) (by omega)).2.2
 have tr:=Tr.setCells w r (o+off) vs hs
 have hS:∀r' j,xF r (o+off) vs.length r' j→g.κ r' j=.mut b:=by
  rintro r' j⟨rfl,a,c⟩;exact(h2 j (by omega) (by omega)).1
 have le:Le g w g (w.setCells r (o+off) vs):=Le.iR tr (fun _ _ h=>h) (fun _ _ h=>h) (fun _ _ _ h=>h) (fun r' j ff e=>by rw[hS r' j ff]at e;cases e)
 refine⟨le,h.step (fun b'=>b'=b) tr le (fun r' j ff=>.inr (.inl ⟨b,hS r' j ff,rfl⟩)) (fun _ hm=>hm.elim) (fun r' j hr=>h.fresh r' j (by rwa[ea]at hr)) (fun b' x hx=>by rw[List.length_set];exact h.tF b' x hx)
  (fun t e x hx=>by rw[List.length_set];exact h.jH t e x hx) (fun _ _ _=>rfl) (fun _ _ _ _=>⟨id,id⟩) (fun _ _ _ _=>rfl) (fun b' x hx=>?_)⟩
 rcases e9 kH hx with⟨rfl,rfl⟩|⟨bF,jW⟩
 ·right
  intro r' o' q' lO
  rw[hφ]at lO;cases lO
  have hlen:(cs.take off++ts++cs.drop (off+ts.length)).length=cs.length:=by simp;omega
  refine⟨by rw[hlen];exact h1,fun j a c=>⟨(h2 j a c).1,by rw[World.frozen?_setCells];exact(h2 j a c).2.1,tr.eJ r j ?_ (h2 j a c).2.2⟩,fun i t hi=>?_⟩
  ·obtain⟨x,hx⟩:=Option.isSome_iff_exists.1 (h2 j a c).2.2;exact kD hx
  ·have lF:i<cs.length:=by rw[←hlen];exact(List.getElem?_eq_some_iff.1 hi).1
   by_cases iI:off≤i∧i<off+ts.length
   ·have ht:ts[i-off]?=some t:=by
     rw[List.append_assoc,List.getElem?_append_right (by simp;omega),List.getElem?_append_left (by simp;omega)]at hi
     rw[←hi];congr 1;simp;omega
    have aq:i-off<vs.length:=by omega
    refine⟨ho t (List.mem_of_getElem? ht),vs[i-off],?_,(hv.2 _ t _ ht (List.getElem?_eq_getElem aq)).mono le⟩
    have:=cR r vs (o+off) w hs (i-off) _ (List.getElem?_eq_getElem aq)
    rwa[show o+off+(i-off)=o+i by omega]at this
   ·have ht:cs[i]?=some t:=by
     by_cases aq:i<off
     ·rw[List.append_assoc,List.getElem?_append_left (by simp;omega),List.getElem?_take,if_pos aq]at hi;exact hi
     ·rw[List.getElem?_append_right (by simp;omega),List.getElem?_drop]at hi
      rw[←hi];congr 1;simp;omega
    obtain⟨a,v,Oq,Ot⟩:=h3 i t ht
    refine⟨a,v,?_,Ot.mono le⟩
    rw[cN r vs (o+off) w r (o+i) (by omega)];exact Oq
 ·exact .inl ⟨bF,jW⟩
theorem vD {ty:TypeId}{i:TypeInfo}{v:Value}{r o:Nat}(hi:P.info? ty=some i)(bg:v.cells.size=i.size)(hc:∀j,j<v.cells.toList.length→(w.cell? ⟨r,o+j,none⟩).isSome=true)
  (hf:∀j,j<v.cells.toList.length→w.frozen? ⟨r,o+j,none⟩=false) (h1:∀x∈v.cells.toList,x.oneCell'=true) :
  (storeVar ty ⟨r,o,none⟩ v).run P w=.ok () (w.setCells r o v.cells.toList):=by
 have:=run_storeCells_cells (P:=P) r o v.cells.toList 0 w (by simpa using hc) (by simpa using hf) h1
 simp[storeVar,sizeOf,bu hi,bg]
 simpa using this
theorem Ou {ty:TypeId}{i:TypeInfo}{p x:T}{vp vx:Value}{ts:List T}{H':af}(hi:P.info? ty=some i)(h:SR w0 g H w)(hp:VR g w p vp)(hx:VR g w x vx)(hc:x.cells?=some ts)(hn:ts.length=i.size)(he:Tj H ts p=some H') :
  ∃w' g',(Instr.storeAt ty vp vx).run P w=.ok () w'∧Le g w g' w'∧SR w0 g' H' w'∧Fr g H g' H':=by
 obtain⟨hv,ho⟩:=jV hx hc
 cases hp<;>simp only[Tj]at he<;>(try (simp at he;done))
 rename_i b off r o q hφ
 cases hb:H[b]? with
 | none=>simp[hb]at he
 | some y =>
  cases y<;>simp only[hb]at he<;>(try (simp at he;done))
  rename_i cs
  split at he
  ·rename_i hle
   simp only[Option.some.injEq]at he;subst he
   have kH:b<H.length:=(List.getElem?_eq_some_iff.1 hb).1
   obtain⟨h1,h2,h3⟩:=h.eG b _ hb r o q hφ
   obtain⟨le,sr⟩:=h.store hb hφ hle hv ho
   have hl:=hv.1
   refine⟨_,g,?_,le,sr,by simp,fun b' y' a _ d=>⟨fT a ?_,d⟩⟩
   ·have:=vD (P:=P) (w:=w) (ty:=ty) (r:=r) (o:=o+off) hi (v:=vx) (by rw[←hn,hl];simp) (fun j hj=>(h2 _ (by omega) (by omega)).2.2) (fun j hj=>(h2 _ (by omega) (by omega)).2.1) (hv.jx ho)
    simpa[Instr.storeAt,Instr.sureAddr]using this
   ·rintro rfl;rw[hφ]at d;cases d
  ·simp at he
def World.cu (w:World)(r:Nat)(o:Obj):World:={ w with heap:=w.heap.setIfInBounds r o }
theorem rB (w:World){r r':Nat}(o:Obj)(h:r'≠r):(World.cu w r o).heap[r']?=w.heap[r']?:=by
 unfold World.cu;simp only[Array.getElem?_setIfInBounds];rw[if_neg (fun e=>h e.symm)]
theorem rC (w:World){r:Nat}(o:Obj)(h:r<w.heap.size):(World.cu w r o).heap[r]?=some o:=by
 unfold World.cu;simp[h]
theorem xH (w:World){r:Nat}{x x':Obj}(hs:fR x=true)(ff:fR x'=true)(h:w.heap[r]?=some x)(a:Addr):(World.cu w r x').cell? a=w.cell? a:=by
 have aq:r<w.heap.size:=(Array.getElem?_eq_some_iff.1 h).1
 unfold World.cell?
 by_cases e:a.block=r
 ·rw[e,rC w _ aq,h]
  cases x<;>simp[fR]at hs<;>cases x'<;>simp[fR]at ff<;>rfl
 ·rw[rB w _ e]
theorem rD (w:World){r:Nat}{x x':Obj}(hs:fR x=true)(ff:fR x'=true)(h:w.heap[r]?=some x)(a:Addr):(World.cu w r x').frozen? a=w.frozen? a:=by
 have aq:r<w.heap.size:=(Array.getElem?_eq_some_iff.1 h).1
 unfold World.frozen?
 by_cases e:a.block=r
 ·rw[e,rC w _ aq,h]
  cases x<;>simp[fR]at hs<;>cases x'<;>simp[fR]at ff<;>rfl
 ·rw[rB w _ e]
theorem Tr.zE (w:World)(r:Nat){x x':Obj}(hs:fR x=true)(ff:fR x'=true)(h:w.heap[r]?=some x):Tr w (World.cu w r x') iu (fun r'=>r'=r) where
 size:=by simp[World.cu]
 cell r' j _ _:=xH w hs ff h _
 qN r' j _:=rD w hs ff h _
 eJ r' j _ hk:=by rw[xH w hs ff h];exact hk
 maps r' x hm _ hk:=by rw[rB w _ hm];exact hk
 kC r' _ hm _:=rB w _ hm
 zy r' j hr:=by rw[rD w hs ff h];exact dI hr
 env:=⟨rfl,rfl⟩
theorem SR.vE {b r o q:Nat}{es Tu:List (T×T)}{ay rE:Array MapEntry}{c c':Nat}(h:SR w0 g H w)(hb:H[b]?=some (.map es))(hφ:g.φ b=some (r,o,q))(hr:w.heap[r]?=some (.map ay c))(hE:eI g w Tu rE)(hB:fQ rE c') :
  Le g w g (World.cu w r (.map rE c'))∧SR w0 g (H.set b (.map Tu)) (World.cu w r (.map rE c'))∧Fr g H g (H.set b (.map Tu)):=by
 have kH:b<H.length:=(List.getElem?_eq_some_iff.1 hb).1
 obtain⟨h1,_⟩:=h.eG b _ hb r o q hφ
 have tr:=Tr.zE w r (x:=.map ay c) (x':=.map rE c') rfl rfl hr
 have le:Le g w g (World.cu w r (.map rE c')):=Le.iR tr (fun _ _ h=>h) (fun _ _ h=>h) (fun _ _ _ h=>h) (fun _ _ hs=>hs.elim)
 refine⟨le,h.step (fun b'=>b'=b) tr le (fun _ _ hs=>hs.elim) (fun r' hm=>⟨b,by rw[hm];exact h1,rfl⟩) (fun r' j pn=>h.fresh r' j (by simpa[World.cu]using pn)) (fun b' x hx=>by rw[List.length_set];exact h.tF b' x hx)
  (fun t e x hx=>by rw[List.length_set];exact h.jH t e x hx) (fun _ _ _=>rfl) (fun _ _ _ _=>⟨id,id⟩) (fun _ _ _ _=>rfl) (fun b' x hx=>?_),by simp,fun b' x a _ d=>⟨fT a (by rintro rfl;rw[hφ]at d;cases d),d⟩⟩
 rcases e9 kH hx with⟨rfl,rfl⟩|⟨bF,jW⟩
 ·right
  intro r' o' q' lO
  rw[hφ]at lO;cases lO
  refine⟨h1,rE,c',?_,hE.mono le,hB⟩
  have aq:r<w.heap.size:=(Array.getElem?_eq_some_iff.1 hr).1
  simp[World.cu,aq]
 ·exact .inl ⟨bF,jW⟩
theorem py {n:Nat}{a b:T}{va vb:Value}(ha:VR g w a va)(hb:VR g w b vb)(he:jo a b=some true):Instr.sameBits n va vb=true:=by
 cases ha<;>cases hb<;>simp[jo]at he
 ·obtain⟨rfl,rfl⟩:=he;cases n<;>simp[Instr.sameBits]
 ·subst he;cases n<;>simp[Instr.sameBits]
 ·rename_i s1 s2
  have e:(s1==s2)=true:=by rw[beq_toListBytes];exact he
  cases n<;>exact e
theorem oF {n:Nat}:∀(as bs:List T) (xs ys:List Value),bL g w as xs→bL g w bs ys→b7 as bs=some true→xs.length=ys.length∧(xs.zip ys).all (fun (x,y)=>Instr.sameBits n x y)=true
 | [],[],xs,ys,hx,hy,_=>by
  have a:=hx.1;have b:=hy.1
  simp at a b
  have e1:xs=[]:=List.eq_nil_of_length_eq_zero (by omega)
  have e2:ys=[]:=List.eq_nil_of_length_eq_zero (by omega)
  subst e1;subst e2;simp
 | a :: as,b :: bs,xs,ys,hx,hy,he=>by
  cases xs with
  | nil=>have:=hx.1;simp at this
  | cons x xs =>
   cases ys with
   | nil=>have:=hy.1;simp at this
   | cons y ys =>
    simp only[b7]at he
    cases e1:jo a b with
    | none=>simp[e1]at he
    | some r1 =>
     cases e2:b7 as bs with
     | none=>simp[e1,e2]at he
     | some r2 =>
      simp[e1,e2]at he
      obtain⟨rfl,rfl⟩:=he
      obtain⟨h1,h2⟩:=oF as bs xs ys hx.tail hy.tail e2
      exact⟨by simp[h1],by simp[py hx.head hy.head e1];simpa using h2⟩
 | [],_ :: _,_,_,_,_,he=>by simp[b7]at he
 | _ :: _,[],_,_,_,_,he=>by simp[b7]at he
theorem rF {a b:T}{va vb:Value}(ha:VR g w a va)(hb:VR g w b vb)(he:iP a b=some true):Instr.sameBits 10000 va vb=true:=by
 by_cases h:∃as bs,a=.agg as∧b=.agg bs
 ·obtain⟨as,bs,rfl,rfl⟩:=h
  obtain⟨xs,rfl,hx,_⟩:=ha.gJ
  obtain⟨ys,rfl,hy,_⟩:=hb.gJ
  obtain⟨h1,h2⟩:=oF (n:=9999) as bs xs ys hx hy he
  show Instr.sameBits (9999+1) _ _=true
  rw[Instr.sameBits]
  simp[h1]
  simpa using h2
 ·have:jo a b=some true:=by
   cases a<;>first|exact he|(cases b<;>first|exact he|exact absurd ⟨_,_,rfl,rfl⟩ h)
  exact py ha hb this
theorem rG:∀(k:T) (es:List (T×T)) (i:Nat),dz k es=some (some i)→∃e,es[i]?=some e∧iP k e.1=some true
 | k,[],i,h=>by simp[dz]at h
 | k,e :: es,i,h=>by
  simp only[dz]at h
  cases hk:iP k e.1 with
  | none=>simp[hk]at h
  | some b =>
   cases b with
   | true=>simp[hk]at h;subst h;exact⟨e,rfl,hk⟩
   | false =>
    simp only[hk,Option.map_eq_some_iff]at h
    obtain⟨r,h1,h2⟩:=h
    cases r with
    | none=>simp at h2
    | some j =>
     simp at h2;subst h2
     obtain⟨e',h3,h4⟩:=rG k es j h1
     exact⟨e',by simpa using h3,h4⟩
theorem eI.set {es:List (T×T)}{ay:Array MapEntry}(h:eI g w es ay){k v:T}{vk vv:Value}(hk:VR g w k vk)(hv:VR g w v vv)(i:Nat) :
  eI g w (es.set i (k,v)) (ay.modify i fun e=>{ e with key:=vk,val:=vv }):=by
 refine⟨by simp[h.1],fun j e m a b=>?_⟩
 rw[List.getElem?_set]at a
 rw[Array.getElem?_modify]at b
 split at a
 ·rename_i e'
  rw[if_pos e']at b
  subst e'
  split at a
  ·simp at a b
   obtain⟨m',_,rfl⟩:=b
   subst a
   exact⟨hk,hv⟩
  ·cases a
 ·rename_i e'
  rw[if_neg e']at b
  exact h.2 j e m a b
theorem eI.push {es:List (T×T)}{ay:Array MapEntry}(h:eI g w es ay){k v:T}{vk vv:Value}(hk:VR g w k vk)(hv:VR g w v vv)(c:Nat) :
  eI g w (es++[(k,v)]) (ay.push { key:=vk,val:=vv,born:=c }):=by
 refine⟨by simp[h.1],fun j e m a b=>?_⟩
 rw[Array.getElem?_push,h.1]at b
 rw[List.getElem?_append]at a
 split at b
 ·rename_i e'
  subst e'
  simp at a b
  subst a;subst b
  exact⟨hk,hv⟩
 ·rename_i e'
  split at a
  ·exact h.2 j e m a b
  ·have:j<ay.size:=(Array.getElem?_eq_some_iff.1 b).1
   rw[h.1]at this;omega
theorem eI.erase {es:List (T×T)}{ay:Array MapEntry}(h:eI g w es ay)(i:Nat)(hi:i<es.length):eI g w (es.eraseIdx i) (ay.eraseIdxIfInBounds i):=by
 have bg:i<ay.size:=by rw[h.1];exact hi
 have e1:(ay.eraseIdxIfInBounds i).toList=ay.toList.eraseIdx i:=by simp[Array.eraseIdxIfInBounds,bg]
 refine⟨by rw[←Array.length_toList,e1,List.length_eraseIdx,List.length_eraseIdx,if_pos hi,Array.length_toList,if_pos bg,h.1],fun j e m a b=>?_⟩
 have b':(ay.toList.eraseIdx i)[j]?=some m:=by rw[←e1,Array.getElem?_toList];exact b
 rw[List.getElem?_eraseIdx]at a b'
 split at a
 ·rename_i aq;rw[if_pos aq]at b';exact h.2 j e m a (by simpa using b')
 ·rename_i aq;rw[if_neg aq]at b';exact h.2 _ e m a (by simpa using b')
theorem fQ.set {ay:Array MapEntry}{c:Nat}(h:fQ ay c)(k v:Value)(i:Nat):fQ (ay.modify i fun e=>{ e with key:=k,val:=v }) c:=by
 have e:(ay.modify i fun e=>{ e with key:=k,val:=v }).toList.map (·.born)=ay.toList.map (·.born):=by
  apply List.ext_getElem?
  intro j
  simp only[List.getElem?_map,Array.getElem?_toList,Array.getElem?_modify]
  split
  ·cases ay[j]?<;>rfl
  ·rfl
 refine⟨fun m hm=>?_,by rw[e];exact h.2⟩
 have:=List.mem_map_of_mem (f:=fun m:MapEntry=>m.born) hm
 rw[e]at this
 obtain⟨m',h1,h2⟩:=List.mem_map.1 this
 rw[←h2];exact h.1 m' h1
theorem fQ.push {ay:Array MapEntry}{c:Nat}(h:fQ ay c)(k v:Value):fQ (ay.push { key:=k,val:=v,born:=c }) (c+1):=by
 refine⟨fun m hm=>?_,?_⟩
 ·rw[Array.toList_push,List.mem_append]at hm
  rcases hm with hm|hm
  ·exact Nat.lt_succ_of_lt (h.1 m hm)
  ·simp at hm;subst hm;exact Nat.lt_succ_self _
 ·rw[Array.toList_push,List.map_append,List.nodup_append]
  refine⟨h.2,by simp,fun a ha b hb=>?_⟩
  simp at hb
  subst hb
  obtain⟨m,hm,rfl⟩:=List.mem_map.1 ha
  exact Nat.ne_of_lt (h.1 m hm)
theorem fQ.erase {ay:Array MapEntry}{c:Nat}(h:fQ ay c)(i:Nat):fQ (ay.eraseIdxIfInBounds i) c:=by
 by_cases bg:i<ay.size
 ·have e1:(ay.eraseIdxIfInBounds i).toList=ay.toList.eraseIdx i:=by simp[Array.eraseIdxIfInBounds,bg]
  exact⟨fun m hm=>h.1 m (by rw[e1]at hm;exact(List.eraseIdx_sublist _ _).subset hm),by rw[e1];exact h.2.sublist ((List.eraseIdx_sublist _ _).map _)⟩
 ·have e1:ay.eraseIdxIfInBounds i=ay:=by simp[Array.eraseIdxIfInBounds,bg]
  rw[e1];exact h
theorem J3 {ty key elem:TypeId}{kt:KT}{b:Nat}{k v:T}{vm vk vv:Value}{es:List (T×T)}{r:Option Nat}(hu:P.underlying ty=some (.map key elem))(kG:nK P key kt=true)
  (h:SR w0 g H w) (hm:VR g w (.map b) vm) (hk:VR g w k vk) (hv:VR g w v vv) (zD:k.jF kt=true) (hb:H[b]?=some (.map es)) (hr:dz k es=some r) :
  ∃w' g',(Instr.mapUpdate ty vm vk vv).run P w=.ok () w'∧Le g w g' w'∧SR w0 g' (H.set b (.map (match r with|some i=>es.set i (k,v)|none=>es++[(k,v)]))) w'∧Fr g H g' (H.set b (.map (match r with|some i=>es.set i (k,v)|none=>es++[(k,v)]))):=by
 cases hm with
 | @map _ rr o q hφ =>
  obtain⟨h1,ay,c,h2,hE,hB⟩:=h.eG b _ hb rr o q hφ
  have hf:=vC kG hk zD es ay.toList (by simpa using hE.1) (fun i e m a b=>hE.2 i e m a (by simpa using b)) hr
  have hc:=lV (P:=P) (w:=w) (e:=false) kG hk zD
  cases r with
  | none =>
   obtain⟨le,sr,fr⟩:=h.vE (c':=c+1) hb hφ h2 (hE.push hk hv c) (hB.push _ _)
   refine⟨_,g,?_,le,sr,fr⟩
   simp at hf
   simp[Instr.mapUpdate,run_underlying hu,getObj,setObj,Sem.run,h2,hc,hf,World.cu]
  | some i =>
   obtain⟨e,he,MH⟩:=rG k es i hr
   have aq:i<ay.size:=by rw[hE.1];exact(List.getElem?_eq_some_iff.1 he).1
   have rA:ay[i]?=some ay[i]:=Array.getElem?_eq_getElem aq
   have bT:=(hE.2 i e _ he rA).1
   have X7:=rF hk bT MH
   have Zh:Instr.sameBits 10000 ay[i].key vk=true:=by
    have:iP e.1 k=some true∨True:=.inr trivial
    by_cases h':∃as bs,k=.agg as∧e.1=.agg bs
    ·obtain⟨as,bs,rfl,e2⟩:=h'
     have eqc:∀(as bs:List T),b7 as bs=some true→b7 bs as=some true:=by
      intro as
      induction as with
      | nil=>intro bs Ji;cases bs<;>simp[b7]at Ji ⊢
      | cons a as ih =>
       intro bs Ji
       cases bs with
       | nil=>simp[b7]at Ji
       | cons b bs =>
        simp only[b7]at Ji ⊢
        cases e1:jo a b with
        | none=>simp[e1]at Ji
        | some r1 =>
         cases e2:b7 as bs with
         | none=>simp[e1,e2]at Ji
         | some r2 =>
          simp[e1,e2]at Ji
          obtain⟨rfl,rfl⟩:=Ji
          have:jo b a=some true:=by
           cases a<;>cases b<;>simp[jo,jS]at e1 ⊢
           ·exact⟨e1.1.symm,e1.2.symm⟩
           ·exact e1.symm
           ·exact e1.symm
          simp[this,ih bs e2]
     rw[e2]at bT MH
     exact rF bT hk (eqc _ _ MH)
    ·have e1:jo k e.1=some true:=by
      generalize e.1=d at *
      cases k<;>first|exact MH|(cases d<;>first|exact MH|exact absurd ⟨_,_,rfl,rfl⟩ h')
     have e2:jo e.1 k=some true:=by
      generalize e.1=d at *
      cases k<;>cases d<;>simp[jo,jS]at e1 ⊢
      ·exact⟨e1.1.symm,e1.2.symm⟩
      ·exact e1.symm
      ·exact e1.symm
     exact py bT hk e2
   obtain⟨le,sr,fr⟩:=h.vE (c':=c) hb hφ h2 (hE.set hk hv i) (hB.set _ _ i)
   refine⟨_,g,?_,le,sr,fr⟩
   have hx:((some i:Option Nat).bind fun i=>(ay.toList[i]?).map fun m=>(i,m.val))=some (i,ay[i].val):=by simp[aq]
   rw[hx]at hf
   have MI:(Instr.keyThatStays ay[i].key vk).run P w=.ok vk w:=by simp[Instr.keyThatStays,Zh]
   simp[Instr.mapUpdate,run_underlying hu,getObj,setObj,Sem.run,h2,hc,hf,aq,MI,World.cu]
theorem J4 {ty key elem xt rt:TypeId}{kt:KT}{b:Nat}{k:T}{vm vk:Value}{es:List (T×T)}{r:Option Nat}(hu:P.underlying ty=some (.map key elem))(kG:nK P key kt=true)
  (h:SR w0 g H w) (hm:VR g w (.map b) vm) (hk:VR g w k vk) (zD:k.jF kt=true) (hb:H[b]?=some (.map es)) (hr:dz k es=some r) :
  cq P w0 g H w (Builtin.delete_ #[ty,xt] rt #[vm,vk]) (.bC []) (match r with|some i=>H.set b (.map (es.eraseIdx i))|none=>H):=by
 cases hm with
 | @map _ rr o q hφ =>
  obtain⟨h1,ay,c,h2,hE,hB⟩:=h.eG b _ hb rr o q hφ
  have hf:=vC kG hk zD es ay.toList (by simpa using hE.1) (fun i e m a b=>hE.2 i e m a (by simpa using b)) hr
  have hc:=lV (P:=P) (w:=w) (e:=ay.isEmpty) kG hk zD
  cases r with
  | none =>
   obtain⟨le,sr,fr⟩:=h.vE (c':=c) hb hφ h2 hE hB
   have hH:H.set b (.map es)=H:=by
    apply List.ext_getElem?
    intro j
    rw[List.getElem?_set]
    split
    ·rename_i e;subst e;rw[if_pos (List.getElem?_eq_some_iff.1 hb).1,hb]
    ·rfl
   rw[hH]at sr fr
   refine⟨.tuple #[],_,g,?_,le,sr,.bC rfl (by simp),fr⟩
   simp at hf
   simp[Builtin.delete_,run_underlying hu,getObj,setObj,Sem.run,h2,hc,hf,World.cu]
  | some i =>
   obtain⟨e,he,MH⟩:=rG k es i hr
   have X8:i<es.length:=(List.getElem?_eq_some_iff.1 he).1
   have aq:i<ay.size:=by rw[hE.1];exact X8
   obtain⟨le,sr,fr⟩:=h.vE (c':=c) hb hφ h2 (hE.erase i X8) (hB.erase i)
   refine⟨.tuple #[],_,g,?_,le,sr,.bC rfl (by simp),fr⟩
   have hx:((some i:Option Nat).bind fun i=>(ay.toList[i]?).map fun m=>(i,m.val))=some (i,ay[i].val):=by simp[aq]
   rw[hx]at hf
   simp[Builtin.delete_,run_underlying hu,getObj,setObj,Sem.run,h2,hc,hf,World.cu]
end
section
variable {P:Program} {w0 w:World} {g:Ctx} {H:af}
theorem lX {n:Nat}:∀(es:List (List T)),(∀c∈es,c.length=n)→∀(i j:Nat) (c:List T) (t:T),es[i]?=some c→c[j]?=some t→es.flatten[i*n+j]?=some t
 | [],_,i,j,c,t,h,_=>by simp at h
 | d :: es,hn,i,j,c,t,h,hj=>by
  have hd:=hn d (by simp)
  cases i with
  | zero =>
   simp at h;subst h
   have aq:j<d.length:=(List.getElem?_eq_some_iff.1 hj).1
   simp only[List.flatten_cons,Nat.zero_mul,Nat.zero_add]
   rw[List.getElem?_append_left aq];exact hj
  | succ i =>
   have ih:=lX es (fun c hc=>hn c (by simp[hc])) i j c t (by simpa using h) hj
   simp only[List.flatten_cons]
   rw[List.getElem?_append_right (by rw[hd,Nat.succ_mul];omega)]
   rw[show(i+1)*n+j-d.length=i*n+j by rw[hd,Nat.succ_mul];omega];exact ih
theorem gQ {n:Nat}(es:List (List T))(hn:∀c∈es,c.length=n):es.flatten.length=es.length*n:=by
 induction es with
 | nil=>simp
 | cons d es ih=>simp only[List.flatten_cons,List.length_append,List.length_cons,Nat.succ_mul,hn d (by simp),ih (fun c hc=>hn c (by simp[hc]))];omega
theorem VR.vF {k:SK}{es:List (List T)}{r o cap n:Nat}{vs:List Value}(hn:∀c∈es,c.length=n)(hv:bL g w es.flatten vs)(ho:cI es.flatten)(hc:es.length≤cap)(hk:gI g k r o es.length cap n)
  (hi:∀(j:Nat) (v:Value),vs[j]?=some v→Ct g w r (o+j) v):VR g w (.sl k es) (.slice (some ⟨r,o,none⟩) es.length cap):=by
 have key:∀(i j:Nat) (c:List T) (t:T),es[i]?=some c→c[j]?=some t→es.flatten[i*n+j]?=some t∧vs[i*n+j]?=some (vs.getD (i*n+j) undef):=by
  intro i j c t a b
  have h1:=lX es hn i j c t a b
  have aq:i*n+j<vs.length:=by rw[←hv.1];exact(List.getElem?_eq_some_iff.1 h1).1
  exact⟨h1,by rw[List.getElem?_eq_getElem aq,List.getD_eq_getElem?_getD,List.getElem?_eq_getElem aq,Option.getD_some]⟩
 refine .sl (n:=n) (fun i j=>vs.getD (i*n+j) undef) hk hc hn (fun i j c t a b=>?_) (fun i j c t a b=>?_)
 ·obtain⟨h1,h2⟩:=key i j c t a b
  exact⟨ho t (List.mem_of_getElem? h1),by rw[Nat.add_assoc];exact hi _ _ h2⟩
 ·obtain⟨h1,h2⟩:=key i j c t a b
  exact hv.2 _ t _ h1 h2
theorem oG (es:List (List T)):(es.map (·.map T.erase)).flatten=es.flatten.map T.erase:=by
 induction es with
 | nil=>rfl
 | cons c es ih=>simp only[List.map_cons,List.flatten_cons,List.map_append,ih]
theorem bL.erase {ts:List T}{vs:List Value}(h:bL g w ts vs):bL g w (ts.map T.erase) vs :=
 ⟨by simp[h.1],fun i t v a b=>by
  rw[List.getElem?_map]at a
  obtain⟨t',h1,rfl⟩:=Option.map_eq_some_iff.1 a
  exact(h.2 i t' v h1 b).erase⟩
theorem rH {ts:List T}(h:cI ts):cI (ts.map T.erase):=by
 intro t ht
 obtain⟨t',h1,rfl⟩:=List.mem_map.1 ht
 rw[Cu];exact h t' h1
theorem Ov {n:Nat}{y:T}{vy:Value}{new:List (List T)}(h:SR w0 g H w)(hy:VR g w y vy)(he:bG H n y=some new) :
  ∃vs:List Value,(Builtin.lenOf vy).run P w=.ok new.length w∧(Builtin.firstCells n new.length vy).run P w=.ok vs.toArray w∧bL g w new.flatten vs∧cI new.flatten∧(∀c∈new,c.length=n)∧vs.length=new.length*n:=by
 by_cases hs:∃s,y=.str s
 ·obtain⟨s,rfl⟩:=hs
  cases hy
  simp only[bG]at he
  split at he
  ·rename_i hn
   subst hn
   simp at he
   have hlen:new.length=s.size:=by rw[←he,List.length_map];exact Array.length_toList
   have ti:new.flatten=s.data.toList.map fun c=>T.int .u8 c.toNat:=by
    rw[←he]
    generalize s.data.toList=l
    induction l with
    | nil=>rfl
    | cons c l ih=>simp only[List.map_cons,List.flatten_cons,ih];rfl
   have hex:s.extract 0 s.size=s:=by simp
   refine⟨s.data.toList.map fun c=>.int .u8 c.toNat,by simp[Builtin.lenOf,hlen],?_,?_,?_,?_,?_⟩
   ·rw[hlen]
    simp only[Builtin.firstCells,hex,Sem.run_pure]
    congr 1
    apply Array.ext';simp
   ·rw[ti]
    refine⟨by simp,fun i t v a b=>?_⟩
    rw[List.getElem?_map]at a b
    obtain⟨c,h1,rfl⟩:=Option.map_eq_some_iff.1 a
    rw[h1]at b;simp at b;subst b
    exact .int _ _
   ·rw[ti];intro t ht
    obtain⟨c,_,rfl⟩:=List.mem_map.1 ht;rfl
   ·rw[←he];intro c hc
    obtain⟨_,_,rfl⟩:=List.mem_map.1 hc;rfl
   ·rw[hlen,List.length_map,Nat.mul_one];exact Array.length_toList
  ·simp at he
 ·obtain⟨a,cap,vs,rfl,_,h1,h2,h3,h4,h5,h6⟩:=oA h hy he (fun s e=>hs ⟨s,e⟩)
  refine⟨vs,by simp[Builtin.lenOf],?_,h3,h5,h6,h4⟩
  cases a with
  | none =>
   have:=(h1 rfl).1
   subst this
   simp at h4
   simp[Builtin.firstCells,h4]
  | some a =>
   obtain⟨_,h7⟩:=h2 a rfl
   have:=run_loadCells_list (P:=P) w a vs h7
   rw[h4]at this
   simpa[Builtin.firstCells]using this
theorem A1 (ky:Nat):∀(k c:Nat),c≤ky+(ky+768)/4→Builtin.growBy ky k c≤ky+(ky+768)/4
 | 0,c,h=>h
 | k+1,c,h=>by
  rw[Builtin.growBy]
  split
  ·exact h
  ·exact A1 ky k _ (by omega)
theorem J5 {ky cap:Nat}(h:cap<ky):Builtin.nextslicecap ky cap≤ky+ky/4+512:=by
 unfold Builtin.nextslicecap
 split
 ·omega
 ·split
  ·omega
  ·have:=A1 ky 4 cap (by omega)
   omega
theorem A2 {ky cap bytes:Nat}(h:cap<ky)(hr:db ky bytes=true):¬Builtin.nextslicecap ky cap*bytes>2^48:=by
 have h1:=Nat.mul_le_mul_right bytes (J5 h)
 simp only[db,decide_eq_true_eq]at hr
 omega
structure pz (P:Program)(sT xT elem:TypeId)(ei:TypeInfo)(zv:Value)(n bytes:Nat):Prop where
 hu:P.underlying sT=some (.slice elem)
 hi:P.info? elem=some ei
 hx:∃d,P.underlying xT=some d∧∀k,d≠.int k
 hn:ei.size=n
 hz:ei.zero=some zv
 J6:zv.cells.size=n
 hb:ei.bytes=bytes
 DS:bytes≠0
theorem ny {sT xT elem rt:TypeId}{ei:TypeInfo}{zv x:Value}{n bytes r o len cap m:Nat}{vs:List Value}(E:pz P sT xT elem ei zv n bytes)(hl:(Builtin.lenOf x).run P w=.ok m w)(hf:(Builtin.firstCells n m x).run P w=.ok vs.toArray w)
  (lY:len+m≤cap) (hs:(storeCells ⟨r,o+len*n,none⟩ vs).run P w=.ok () (w.setCells r (o+len*n) vs)) :
  (Builtin.append_ #[sT,xT] rt #[.slice (some ⟨r,o,none⟩) len cap,x]).run P w=.ok (.slice (some ⟨r,o,none⟩) (len+m) cap) (w.setCells r (o+len*n) vs):=by
 obtain⟨d,h1,h2⟩:=E.hx
 have hz:(match d with | .int _=>true|_=>false)=false:=by cases d<;>first|rfl|exact absurd rfl (h2 _)
 simp[Builtin.append_,run_underlying E.hu,run_underlying h1,hz,sizeOf,bu E.hi,E.hn,hl,hf,lY,dA,hs]
theorem lZ {sT xT elem rt:TypeId}{ei:TypeInfo}{zv x:Value}{n bytes:Nat}{base:Option Addr}{len cap:Nat}(E:pz P sT xT elem ei zv n bytes)(hl:(Builtin.lenOf x).run P w=.ok 0 w)(hf:(Builtin.firstCells n 0 x).run P w=.ok #[] w)(lY:len≤cap) :
  (Builtin.append_ #[sT,xT] rt #[.slice base len cap,x]).run P w=.ok (.slice base len cap) w:=by
 obtain⟨d,h1,h2⟩:=E.hx
 have hz:(match d with | .int _=>true|_=>false)=false:=by cases d<;>first|rfl|exact absurd rfl (h2 _)
 cases base<;>simp[Builtin.append_,run_underlying E.hu,run_underlying h1,hz,sizeOf,bu E.hi,E.hn,hl,hf,lY,storeCells]
theorem l3 (zc:Array Value)(n:Nat):(Builtin.zeroCells zc n).size=n*zc.size:=by simp[Builtin.zeroCells]
theorem iS {sT xT elem rt:TypeId}{ei:TypeInfo}{zv x:Value}{n bytes:Nat}{base:Option Addr}{len cap m:Nat}{kC vs:List Value}(E:pz P sT xT elem ei zv n bytes)(hl:(Builtin.lenOf x).run P w=.ok m w)(hf:∀w':World,w'.heap=w.heap→(Builtin.firstCells n m x).run P w'=.ok vs.toArray w')
  (ho:∀w':World,w'.heap=w.heap→(Builtin.firstCells n len (.slice base len cap)).run P w'=.ok kC.toArray w') (zF:cap<len+m) (hr:db (len+m) bytes=true) :
  ∃(fj:Nat) (rest:List Value),len+m≤fj∧rest.length=(fj-(len+m))*n ∧
   (Builtin.append_ #[sT,xT] rt #[.slice base len cap,x]).run P w=.ok (.slice (some ⟨w.heap.size,0,none⟩) (len+m) fj) (w.drew.alloc (.cells (kC++vs++rest).toArray elem)):=by
 obtain⟨d,h1,h2⟩:=E.hx
 have hz:(match d with | .int _=>true|_=>false)=false:=by cases d<;>first|rfl|exact absurd rfl (h2 _)
 have iT:=A2 zF hr
 have lY:¬len+m≤cap:=by omega
 let fj:=Question.cut (.appendCap (len+m) cap elem) (w.tape w.drawn (.appendCap (len+m) cap elem))
 have oB:len+m≤fj:=by simp only[fj,Question.cut];omega
 refine⟨fj,(Builtin.zeroCells zv.cells (fj-(len+m))).toList,oB,?_,?_⟩
 ·rw[Array.length_toList,l3,E.J6]
 ·have qQ:=hf w.drew rfl
  have nL:=ho w.drew rfl
  have DS:ei.bytes≠0:=by rw[E.hb];exact E.DS
  simp only[gt_iff_lt,Nat.not_lt]at iT
  have Es:Builtin.nextslicecap (len+m) cap*ei.bytes≤2^48:=by rw[E.hb];exact iT
  simp only[Builtin.append_,List.getElem?_toArray,List.getElem?_cons_zero,List.getElem?_cons_succ,Sem.run_bind,run_underlying E.hu,run_underlying h1,Result.andThen_ok,sizeOf,bu E.hi,E.hn,hl,Sem.run_pure,lY,if_false]
  cases d<;>first
   | exact absurd rfl (h2 _)
   | (simp[hl,lY,bu E.hi,DS,Es,Nat.not_lt.2 Es,run_choose,Question.forced,nL,qQ,zeroValue,E.hz,newRow,fj];congr 2;apply Array.ext';simp)
theorem SR.Tv {t e r p q m:Nat}{vs:List Value}(h:SR w0 g H w)(ht:H[t]?=some (.tok e))(hp:g.π t e=some (r,p,q))(hm:0<m)(lY:p+vs.length≤q) :
  let g':=((g.row r fun j=>if p≤j∧j<p+vs.length then .nf else g.κ r j).tok t (e+m) (r,p+vs.length,q))
  Le g w g' (w.setCells r p vs)∧SR w0 g' (H.set t (.tok (e+m))) (w.setCells r p vs)∧Fr g H g' (H.set t (.tok (e+m)))∧∀(i:Nat) (v:Value),vs[i]?=some v→Ct g' (w.setCells r p vs) r (p+i) v:=by
 intro g'
 have Sx:t<H.length:=(List.getElem?_eq_some_iff.1 ht).1
 obtain⟨r1,p1,q1,e1,h2,h3,h4⟩:=h.eG t _ ht
 rw[hp]at e1;cases e1
 have hs:∀j,p≤j→j<p+vs.length→(w.cell? ⟨r,j,none⟩).isSome=true:=fun j a c=>(h3 j a (by omega)).2.2
 have tr:=Tr.setCells w r p vs hs
 have hS:∀r' j,xF r p vs.length r' j→g.κ r' j=.spare t:=by
  rintro r' j⟨rfl,a,c⟩;exact(h3 j a (by omega)).1
 have hκ:∀r' j,g'.κ r' j=if r'=r∧p≤j∧j<p+vs.length then .nf else g.κ r' j:=by
  intro r' j
  simp only[g',Ctx.tok,Ctx.row]
  by_cases e:r'=r
  ·subst e;simp
  ·simp[e]
 have hπ:∀t' e',g'.π t' e'=if t'=t∧e'=e+m then some (r,p+vs.length,q)else g.π t' e':=fun t' e'=>rfl
 have le:Le g w g' (w.setCells r p vs):=Le.iR tr (fun _ _ h=>h) (fun r' o hk=>by rw[hκ];split;rfl;exact hk)
  (fun t' e' x hx=>by rw[hπ];split;rename_i c;obtain⟨rfl,rfl⟩:=c;rw[h4 _ (by omega)]at hx;cases hx;exact hx)
  (fun r' j ff e=>by rw[hS r' j ff]at e;cases e)
 have nf:∀(i:Nat) (v:Value),vs[i]?=some v→Ct g' (w.setCells r p vs) r (p+i) v:=fun i v hi=>by
  have aq:i<vs.length:=(List.getElem?_eq_some_iff.1 hi).1
  exact⟨by rw[hκ];simp;omega,cR r vs p w hs i v hi⟩
 refine⟨le,h.step (fun b'=>b'=t) tr le (fun r' j ff=>.inr (.inr ⟨t,hS r' j ff,rfl⟩)) (fun _ hm=>hm.elim) (fun r' j hr=>?_) (fun b' x hx=>by rw[List.length_set];exact h.tF b' x hx)
  (fun t' e' x hx=>?_) (fun _ _ _=>rfl) (fun r' j b' jN=>?_) (fun t' e' _ jN=>?_) (fun b' x hx=>?_),⟨by simp,fun b' x a c d=>⟨fT a (by rintro rfl;rw[ht]at a;cases a;exact absurd rfl (c e)),d⟩⟩,nf⟩
 ·rw[ea]at hr
  rw[hκ];split
  ·rename_i c;obtain⟨rfl,a,c⟩:=c
   have:=h.fresh r' j hr
   rw[(h3 j a (by omega)).1]at this;cases this
  ·exact h.fresh r' j hr
 ·rw[List.length_set]
  rw[hπ]at hx
  split at hx
  ·rename_i c;rw[c.1];exact Sx
  ·exact h.jH t' e' x hx
 ·constructor<;>intro e'<;>rw[hκ]<;>split
  ·rename_i c;obtain⟨rfl,a,c⟩:=c;rw[(h3 j a (by omega)).1]at e';cases e'
  ·exact e'
  ·rename_i c;obtain⟨rfl,a,c⟩:=c;rw[(h3 j a (by omega)).1]at e';cases e';exact absurd rfl jN
  ·exact e'
 ·rw[hπ,if_neg (fun c=>jN c.1)]
 ·rcases e9 Sx hx with⟨rfl,rfl⟩|⟨bF,jW⟩
  ·right
   refine⟨r,p+vs.length,q,by rw[hπ];simp,lY,fun j a c=>⟨?_,?_,?_⟩,fun e' he=>by rw[hπ,if_neg (by omega)];exact h4 e' (by omega)⟩
   ·rw[hκ,if_neg (by omega)];exact(h3 j (by omega) c).1
   ·rw[World.frozen?_setCells];exact(h3 j (by omega) c).2.1
   ·rw[cN r vs p w r j (by omega)];exact(h3 j (by omega) c).2.2
  ·exact .inl ⟨bF,jW⟩
theorem SR.Et {c:Array Value}{ty:TypeId}{w1:World}{H':af}{t e k:Nat}(h:SR w0 g H w)(tr:Tr w w1 iu jz)(hz:w1.heap.size=w.heap.size)(ht:H'[t]?=some (.tok e))(hk:k≤c.size)
  (jr:∀e',e≤e'→g.π t e'=none) (hH:∀b' x,b'≠t→H'[b']?=some x→H[b']?=some x) (hl:H.length≤H'.length) (av:∀(b':Nat) (x:B),H[b']?=some x→(∀e:Nat,x≠.tok e)→H'[b']?=some x) :
  let g':=((g.row w.heap.size fun j=>if j<k then .nf else .spare t).tok t e (w.heap.size,k,c.size))
  Le g w g' (w1.alloc (.cells c ty))∧SR w0 g' H' (w1.alloc (.cells c ty))∧Fr g H g' H'∧(∀(j:Nat) (v:Value),j<k→c[j]?=some v→Ct g' (w1.alloc (.cells c ty)) w.heap.size j v)∧g'.π t e=some (w.heap.size,k,c.size):=by
 intro g'
 have xG:=tr.trans (Tr.alloc w1 (.cells c ty) (.inr ⟨_,_,rfl⟩))
 have bF:∀r j ow,g.κ r j=ow→ow≠.free→r≠w.heap.size:=by rintro r j ow e hn rfl;exact hn (e▸h.fresh _ j (Nat.le_refl _))
 have hπ:∀t' e',g'.π t' e'=if t'=t∧e'=e then some (w.heap.size,k,c.size)else g.π t' e':=fun t' e'=>rfl
 have hκ:∀r j,g'.κ r j=if r=w.heap.size then(if j<k then .nf else .spare t)else g.κ r j:=fun r j=>rfl
 have le:Le g w g' (w1.alloc (.cells c ty)):=Le.iR xG (fun _ _ h=>h) (fun r o hk=>by rw[hκ,if_neg (bF r o _ hk (by simp))];exact hk)
  (fun t' e' x hx=>by rw[hπ];split;rename_i c;obtain⟨rfl,rfl⟩:=c;rw[jr _ (Nat.le_refl _)]at hx;cases hx;exact hx) (fun _ _ hs=>hs.elim)
 refine⟨le,?_,⟨hl,fun b' x a c d=>⟨av b' x a c,d⟩⟩,fun j v hj hv=>⟨by rw[hκ];simp[hj],by rw[←hz,World.cell?_alloc_new];exact hv⟩,by rw[hπ];simp⟩
 refine h.step (fun b'=>b'=t) xG le (fun _ _ hs=>hs.elim) (fun _ hm=>hm.elim) (fun r o hr=>?_) (fun b' x hx=>Nat.lt_of_lt_of_le (h.tF b' x hx) hl) (fun t' e' x hx=>?_) (fun _ _ _=>rfl) (fun r j b' jN=>?_) (fun t' e' _ jN=>?_) (fun b' x hx=>?_)
 ·simp at hr
  rw[hκ,if_neg (by omega)];exact h.fresh r o (by omega)
 ·rw[hπ]at hx
  split at hx
  ·rename_i c;rw[c.1];exact(List.getElem?_eq_some_iff.1 ht).1
  ·exact Nat.lt_of_lt_of_le (h.jH t' e' x hx) hl
 ·constructor<;>intro e'<;>rw[hκ,if_neg (bF r j _ e' (by simp))]<;>exact e'
 ·rw[hπ,if_neg (fun c=>jN c.1)]
 ·by_cases e':b'=t
  ·subst e'
   right
   rw[ht]at hx;cases hx
   refine⟨w.heap.size,k,c.size,by rw[hπ];simp,hk,fun j a b=>⟨by rw[hκ];simp;omega,by rw[←hz];simp,by rw[←hz,World.cell?_alloc_new,Array.getElem?_eq_getElem b];rfl⟩,fun J7 he=>by rw[hπ,if_neg (by omega)];exact jr J7 (by omega)⟩
  ·exact .inl ⟨e',hH b' x e' hx⟩
theorem qS (w:World):Tr w w.drew iu jz:=Tr.drew w
theorem pA {w w':World}(h:w'.heap=w.heap)(a:Addr):w'.cell? a=w.cell? a:=by unfold World.cell?;rw[h]
theorem A3 {n:Nat}{y:T}{vy:Value}{new:List (List T)}(h:SR w0 g H w)(hy:VR g w y vy)(he:bG H n y=some new) :
  ∃vs:List Value,(Builtin.lenOf vy).run P w=.ok new.length w∧(∀w':World,w'.heap=w.heap→(Builtin.firstCells n new.length vy).run P w'=.ok vs.toArray w')∧bL g w new.flatten vs∧cI new.flatten∧(∀c∈new,c.length=n)∧vs.length=new.length*n:=by
 obtain⟨vs,h1,h2,h3,h4,h5,h6⟩:=Ov (P:=P) h hy he
 refine⟨vs,h1,fun w' zG=>?_,h3,h4,h5,h6⟩
 by_cases hs:∃s,y=.str s
 ·obtain⟨s,rfl⟩:=hs
  cases hy
  simp only[Builtin.firstCells,Sem.run_pure,Result.ok.injEq,and_true]at h2 ⊢
  exact h2
 ·obtain⟨a,cap,Ss,rfl,_,k1,k2,k3,k4,k5,k6⟩:=oA h hy he (fun s e=>hs ⟨s,e⟩)
  cases a with
  | none =>
   simp only[Builtin.firstCells,Sem.run_pure,Result.ok.injEq,and_true]at h2 ⊢
   exact h2
  | some a =>
   obtain⟨_,h7⟩:=k2 a rfl
   have a1:=run_loadCells_list (P:=P) w a Ss h7
   have a2:=run_loadCells_list (P:=P) w' a Ss (fun j v hj=>by rw[pA zG];exact h7 j v hj)
   rw[k4]at a1 a2
   simp only[Builtin.firstCells]at h2 ⊢
   rw[a1]at h2
   rw[a2]
   simp at h2
   rw[h2]
theorem J8 {sT xT elem rt:TypeId}{ei:TypeInfo}{zv:Value}{n bytes:Nat}{k:SK}{es new:List (List T)}{y t:T}{vx vy:Value}{H':af}(E:pz P sT xT elem ei zv n bytes)
  (h:SR w0 g H w) (hx:VR g w (.sl k es) vx) (hy:VR g w y vy) (bD:es.all (·.length==n)=true) (tI:bG H n y=some new) (he:fP H bytes k es new=some (t,H')) :
  cq P w0 g H w (Builtin.append_ #[sT,xT] rt #[vx,vy]) t H':=by
 obtain⟨vs,s1,s2,s3,s4,s5,s6⟩:=A3 (P:=P) h hy tI
 obtain⟨a,cap,kC,rfl,oB,x1,x2,x3,x4,x5,x6⟩:=oA (n:=n) (es:=es) h hx (by simp only[bG,bD,if_true]) (fun s e=>by cases e)
 have oB:es.length≤cap:=oB
 cases jr:new with
 | nil =>
  subst jr
  simp only[fP,Option.some.injEq,Prod.mk.injEq]at he
  obtain⟨rfl,rfl⟩:=he
  have jq:vs=[]:=by simpa using s6
  subst jq
  exact cq.same h (lZ E s1 (s2 w rfl) oB) hx
 | cons c0 Zi =>
  have hlen:0<new.length:=by rw[jr];simp
  rw[jr]at he
  simp only[fP]at he
  rw[←jr]at he
  split at he
  ·rename_i iT
   have MG:∀c∈es++new.map (·.map T.erase),c.length=n:=by
    intro c hc
    rcases List.mem_append.1 hc with hc|hc
    ·exact x6 c hc
    ·obtain⟨c',h1,rfl⟩:=List.mem_map.1 hc
     rw[List.length_map];exact s5 c' h1
   have ti:(es++new.map (·.map T.erase)).flatten=es.flatten++new.flatten.map T.erase:=by rw[List.flatten_append,oG]
   have rI:(es++new.map (·.map T.erase)).length=es.length+new.length:=by simp
   have ho:cI (es++new.map (·.map T.erase)).flatten:=by
    rw[ti];intro t ht
    rcases List.mem_append.1 ht with ht|ht
    ·exact x5 t ht
    ·exact rH s4 t ht
   have og:(kC++vs).length=(es.length+new.length)*n:=by rw[List.length_append,x4,s6,Nat.add_mul]
   have grow:∀(t' e':Nat) (Hn:af),cap<es.length+new.length→Hn[t']?=some (.tok e')→(∀J7,e'≤J7→g.π t' J7=none)→(∀b' x,b'≠t'→Hn[b']?=some x→H[b']?=some x)→H.length≤Hn.length →
     (∀(b':Nat) (x:B),H[b']?=some x→(∀e:Nat,x≠.tok e)→Hn[b']?=some x)→cq P w0 g H w (Builtin.append_ #[sT,xT] rt #[.slice a es.length cap,vy]) (.sl (.own t' e') (es++new.map (·.map T.erase))) Hn:=by
    intro t' e' Hn zF k1 k2 k3 k4 k5
    have Su:∀w':World,w'.heap=w.heap→(Builtin.firstCells n es.length (.slice a es.length cap)).run P w'=.ok kC.toArray w':=by
     intro w' zG
     cases a with
     | none =>
      have:=(x1 rfl).1
      subst this
      have:kC=[]:=by simpa using x4
      subst this
      simp[Builtin.firstCells]
     | some a =>
      obtain⟨_,h7⟩:=x2 a rfl
      have:=run_loadCells_list (P:=P) w' a kC (fun j v hj=>by rw[pA zG];exact h7 j v hj)
      rw[x4]at this
      simpa[Builtin.firstCells]using this
    obtain⟨fj,rest,lQ,pB,cF⟩:=iS (rt:=rt) (w:=w) E s1 s2 Su zF iT
    have bg:(kC++vs++rest).toArray.size=fj*n:=by
     simp only[List.size_toArray]
     rw[List.length_append,og,pB,←Nat.add_mul];congr 1;omega
    obtain⟨le,sr,fr,nf,hp⟩:=h.Et (c:=(kC++vs++rest).toArray) (ty:=elem) (k:=(es.length+new.length)*n) (qS w) rfl k1 (by rw[bg];exact Nat.mul_le_mul_right _ lQ) k2 k3 k4 k5
    refine⟨_,_,_,cF,le,sr,?_,fr⟩
    have hv:bL g w (es++new.map (·.map T.erase)).flatten (kC++vs):=by rw[ti];exact bL.append x3 s3.erase
    have:=VR.vF (k:=.own t' e') (r:=w.heap.size) (o:=0) (cap:=fj) MG (hv.mono le) ho (by rw[rI];exact lQ) ⟨by rw[hp,rI,bg];simp,by rw[rI];omega⟩ (fun j v hj=>?_)
    ·rw[rI]at this;exact this
    ·have aq:j<(kC++vs).length:=(List.getElem?_eq_some_iff.1 hj).1
     rw[Nat.zero_add]
     refine nf j v (by omega) ?_
     rw[List.getElem?_toArray,List.getElem?_append_left aq];exact hj
   cases k with
   | nil =>
    simp only[Option.some.injEq,Prod.mk.injEq]at he
    obtain⟨rfl,rfl⟩:=he
    have nI:cap<es.length+new.length:=by
     cases hx with
     | slnil=>simpa using hlen
     | sl dc hk=>exact hk.elim
    exact grow H.length _ _ nI (fS _ _) (fun J7 _=>h.Zg (Nat.le_refl _)) (fun b' x e hx=>dh e hx) (by simp) (fun b' x hx _=>jA hx)
   | full =>
    simp only[Option.some.injEq,Prod.mk.injEq]at he
    obtain⟨rfl,rfl⟩:=he
    have nI:cap<es.length+new.length:=by
     cases hx with
     | sl dc hk=>simp only[gI]at hk;omega
    exact grow H.length _ _ nI (fS _ _) (fun J7 _=>h.Zg (Nat.le_refl _)) (fun b' x e hx=>dh e hx) (by simp) (fun b' x hx _=>jA hx)
   | arg=>cases he
   | own t0 e0 =>
    cases ht:H[t0]? with
    | none=>simp[ht]at he
    | some bt =>
     cases bt with
     | tok e1 =>
      simp only[ht]at he
      split at he
      ·rename_i hee
       subst hee
       simp only[Option.some.injEq,Prod.mk.injEq]at he
       obtain⟨rfl,rfl⟩:=he
       have Sx:t0<H.length:=(List.getElem?_eq_some_iff.1 ht).1
       obtain⟨r1,p1,q1,kJ,Eu,AZ,fU⟩:=h.eG t0 _ ht
       by_cases lY:es.length+new.length≤cap
       ·-- in place
        cases hx with
        | @sl _ _ r o _ n' dc hk hc hn h3 h4 =>
         simp only[gI]at hk
         obtain⟨nN,zl⟩:=hk
         have tG:n'=n:=by
          cases es with
          | nil=>simp at zl
          | cons c es=>rw[←hn c (by simp),x6 c (by simp)]
         subst tG
         rw[kJ]at nN
         simp only[Option.some.injEq,Prod.mk.injEq]at nN
         obtain⟨rfl,rfl,rfl⟩:=nN
         have Ox:o+es.length*n'+vs.length≤o+cap*n':=by
          rw[s6,Nat.add_assoc,←Nat.add_mul]
          exact Nat.add_le_add_left (Nat.mul_le_mul_right _ lY) _
         obtain⟨le,sr,fr,nf⟩:=h.Tv (m:=new.length) (vs:=vs) ht kJ hlen Ox
         have cW:=run_storeCells_cells (P:=P) r1 (o+es.length*n') vs 0 w (fun j hj=>by simpa using (AZ (o+es.length*n'+j) (by omega) (by omega)).2.2) (fun j hj=>by simpa using (AZ (o+es.length*n'+j) (by omega) (by omega)).2.1) (s3.jx s4)
         rw[Nat.add_zero]at cW
         have cF:=ny (rt:=rt) (cap:=cap) E s1 (s2 w rfl) lY cW
         refine⟨_,_,_,cF,le,sr,?_,fr⟩
         have hv:bL g w (es++new.map (·.map T.erase)).flatten (kC++vs):=by rw[ti];exact bL.append x3 s3.erase
         have Tw:∀(j:Nat) (v:Value),kC[j]?=some v→Ct g w r1 (o+j) v:=by
          intro j v hj
          have aq:j<es.length*n':=by rw[←x4];exact(List.getElem?_eq_some_iff.1 hj).1
          obtain⟨_,h7⟩:=x2 _ rfl
          have l4:=h7 j v hj
          rw[dA]at l4
          have Tx:0<n':=by
           rcases Nat.eq_zero_or_pos n' with e|e
           ·subst e;simp at aq
           ·exact e
          have hi:j/n'<es.length:=Nat.div_lt_of_lt_mul (by rw[Nat.mul_comm];exact aq)
          have e1:es[j/n']?=some es[j/n']:=List.getElem?_eq_getElem hi
          have hm:j%n'<(es[j/n']).length:=by rw[x6 _ (List.getElem_mem hi)];exact Nat.mod_lt _ Tx
          have:=(h3 (j/n') (j%n') _ _ e1 (List.getElem?_eq_getElem hm)).2
          have ee:o+j/n'*n'+j%n'=o+j:=by rw[Nat.add_assoc,Nat.mul_comm,Nat.div_add_mod]
          rw[ee]at this
          exact⟨this.1,l4⟩
         have:=VR.vF (k:=.own t0 (e0+new.length)) (r:=r1) (o:=o) (cap:=cap) MG (hv.mono le) ho (by rw[rI];exact lY) ⟨by rw[rI];simp[Ctx.tok,s6,Nat.add_mul,Nat.add_assoc],by rw[rI];omega⟩ (fun j v hj=>?_)
         ·rw[rI]at this;exact this
         ·rw[List.getElem?_append]at hj
          split at hj
          ·exact(Tw j v hj).mono le
          ·rename_i eQ
           have:=nf _ v hj
           rw[x4]at this eQ
           rwa[show o+es.length*n'+(j-es.length*n')=o+j by omega]at this
       ·exact grow t0 (e0+new.length) _ (by omega) (by simp[Sx]) (fun J7 he=>fU J7 (by omega)) (fun b' x bF hx=>by
          rcases e9 Sx hx with⟨e,_⟩|⟨_,jW⟩
          ·exact absurd e bF
          ·exact jW) (by simp) (fun b' x Zj bF=>fT Zj (by rintro rfl;rw[ht]at Zj;cases Zj;exact absurd rfl (bF e0)))
      ·cases he
     | cells _=>simp[ht]at he
     | map _=>simp[ht]at he
     | _=>simp[ht]at he
  ·cases he
end
section
variable {P:Program} {w0 w:World} {g:Ctx} {H:af}
theorem SR.Ty {b r o q:Nat}{cs ts:List T}{vs:List Value}(h:SR w0 g H w)(hb:H[b]?=some (.cells cs))(hφ:g.φ b=some (r,o,q))(hv:bL g w ts vs)(ho:cI ts)(lY:o+cs.length+ts.length≤q) :
  let g':=((g.row r fun j=>if o≤j∧j<q then .mut H.length else g.κ r j).at H.length (r,o,q))
  Le g w g' (w.setCells r (o+cs.length) vs)∧SR w0 g' (H.set b .dead++[.cells (cs++ts)]) (w.setCells r (o+cs.length) vs)∧Fr g H g' (H.set b .dead++[.cells (cs++ts)]):=by
 intro g'
 have kH:b<H.length:=(List.getElem?_eq_some_iff.1 hb).1
 obtain⟨h1,h2,h3⟩:=h.eG b _ hb r o q hφ
 have hl:=hv.1
 have hs:∀j,o+cs.length≤j→j<o+cs.length+vs.length→(w.cell? ⟨r,j,none⟩).isSome=true:=fun j a c=>(h2 j (by omega) (by omega)).2.2
 have tr:=Tr.setCells w r (o+cs.length) vs hs
 have hS:∀r' j,xF r (o+cs.length) vs.length r' j→g.κ r' j=.mut b:=by
  rintro r' j⟨rfl,a,c⟩;exact(h2 j (by omega) (by omega)).1
 have hκ:∀r' j,g'.κ r' j=if r'=r∧o≤j∧j<q then .mut H.length else g.κ r' j:=by
  intro r' j
  simp only[g',Ctx.at,Ctx.row]
  by_cases e:r'=r
  ·subst e;simp
  ·simp[e]
 have lO:∀b',g'.φ b'=if b'=H.length then some (r,o,q)else g.φ b':=fun b'=>rfl
 have le:Le g w g' (w.setCells r (o+cs.length) vs):=Le.iR tr
  (fun b' x hx=>by rw[lO];split;rename_i e;rw[e,h.J0 (Nat.le_refl _)]at hx;cases hx;exact hx)
  (fun r' j hk=>by rw[hκ];split;rename_i c;obtain⟨rfl,a,c⟩:=c;rw[(h2 j a c).1]at hk;cases hk;exact hk) (fun _ _ _ h=>h) (fun r' j ff e=>by rw[hS r' j ff]at e;cases e)
 refine⟨le,h.step (fun b'=>b'=b∨b'=H.length) tr le (fun r' j ff=>.inr (.inl ⟨b,hS r' j ff,.inl rfl⟩)) (fun _ hm=>hm.elim) (fun r' j hr=>?_) (fun b' x hx=>?_) (fun t e x hx=>?_) (fun b' jN hn=>?_) (fun r' j b' hn=>?_) (fun _ _ _ _=>rfl) (fun b' x hx=>?_),?_,fun b' x a c d=>?_⟩
 ·rw[ea]at hr
  rw[hκ];split
  ·rename_i c;obtain⟨rfl,a,c⟩:=c
   have:=h.fresh r' j hr
   rw[(h2 j a c).1]at this;cases this
  ·exact h.fresh r' j hr
 ·rw[lO]at hx
  simp only[List.length_append,List.length_set,List.length_singleton]
  split at hx
  ·omega
  ·have:=h.tF b' x hx;omega
 ·simp only[List.length_append,List.length_set,List.length_singleton]
  have:=h.jH t e x hx;omega
 ·rw[lO,if_neg (by omega)]
 ·constructor<;>intro e<;>rw[hκ]<;>split
  ·rename_i c;obtain⟨rfl,a,c⟩:=c;rw[(h2 j a c).1]at e;cases e;exact absurd (.inl rfl) hn
  ·exact e
  ·rename_i c;obtain⟨rfl,a,c⟩:=c;rw[(h2 j a c).1]at e;cases e
  ·exact e
 ·by_cases e:b'=H.length
  ·right
   subst e
   have jW:x=.cells (cs++ts):=by
    have:(H.set b B.dead++[.cells (cs++ts)])[H.length]?=some (.cells (cs++ts)):=by
     rw[List.getElem?_append_right (by simp)];simp
    rw[this]at hx;cases hx;rfl
   subst jW
   intro r' o' q' hq
   rw[lO,if_pos rfl]at hq
   simp only[Option.some.injEq,Prod.mk.injEq]at hq
   obtain⟨rfl,rfl,rfl⟩:=hq
   refine⟨by rw[List.length_append];omega,fun j a c=>⟨by rw[hκ];simp[a,c],by rw[World.frozen?_setCells];exact(h2 j a c).2.1,tr.eJ r j ?_ (h2 j a c).2.2⟩,fun i t hi=>?_⟩
   ·obtain⟨x,hx⟩:=Option.isSome_iff_exists.1 (h2 j a c).2.2;exact kD hx
   ·rw[List.getElem?_append]at hi
    split at hi
    ·rename_i aq
     obtain⟨a,v,Oq,Ot⟩:=h3 i t hi
     exact⟨a,v,by rw[cN r vs _ w r (o+i) (by omega)];exact Oq,Ot.mono le⟩
    ·rename_i eQ
     have aq:i-cs.length<vs.length:=by rw[←hl];exact(List.getElem?_eq_some_iff.1 hi).1
     refine⟨ho t (List.mem_of_getElem? hi),_,?_,(hv.2 _ t _ hi (List.getElem?_eq_getElem aq)).mono le⟩
     have:=cR r vs (o+cs.length) w hs (i-cs.length) _ (List.getElem?_eq_getElem aq)
     rwa[show o+cs.length+(i-cs.length)=o+i by omega]at this
  ·have dB:(H.set b B.dead)[b']?=some x:=dh (by simpa using e) hx
   rcases e9 kH dB with⟨rfl,rfl⟩|⟨bF,jW⟩
   ·right;trivial
   ·exact .inl ⟨by rintro (h|h);exact bF h;exact e h,jW⟩
 ·simp
 ·have aq:b'<H.length:=(List.getElem?_eq_some_iff.1 a).1
  have bF:b'≠b:=by rintro rfl;rw[hφ]at d;cases d
  exact⟨jA (fT a bF),by rw[lO,if_neg (by omega)];exact d⟩
theorem Ev {x:T}{vx:Value}(hx:VR g w x vx)(hk:AS x=true):∃(a:Option Addr) (l c:Nat),vx=.slice a l c∧l≤c:=by
 cases hx with
 | slnil=>exact⟨_,_,_,rfl,Nat.le_refl _⟩
 | jw=>exact⟨_,_,_,rfl,Nat.le_refl _⟩
 | sl dc kv hc hn h1 h2=>exact⟨_,_,_,rfl,hc⟩
 | aC h hc hq=>exact⟨_,_,_,rfl,hc⟩
 | _=>simp[AS]at hk
theorem Ew {sT xT elem rt:TypeId}{ei:TypeInfo}{zv:Value}{n bytes:Nat}{x y t:T}{new:List (List T)}{vx vy:Value}{H':af}(E:pz P sT xT elem ei zv n bytes)
  (h:SR w0 g H w) (hx:VR g w x vx) (hy:VR g w y vy) (tI:bG H n y=some new) (he:lT H n bytes x new=some (t,H')) :
  cq P w0 g H w (Builtin.append_ #[sT,xT] rt #[vx,vy]) t H':=by
 obtain⟨vs,s1,s2,s3,s4,s5,s6⟩:=A3 (P:=P) h hy tI
 have og:=gQ new s5
 cases jr:new with
 | nil =>
  subst jr
  simp only[lT]at he
  split at he
  case isFalse=>cases he
  rename_i hk
  simp only[Option.some.injEq,Prod.mk.injEq]at he
  obtain⟨rfl,rfl⟩:=he
  have jq:vs=[]:=by simpa using s6
  subst jq
  have:∃a l c,vx=.slice a l c∧l≤c:=Ev hx hk
  obtain⟨a,l,c,rfl,Oy⟩:=this
  exact cq.same h (lZ E s1 (s2 w rfl) Oy) hx
 | cons c0 Zi =>
  have hlen:0<new.length:=by rw[jr];simp
  rw[jr]at he
  simp only[lT]at he
  rw[←jr]at he
  have empty:∀(a:Option Addr),vx=.slice a 0 0→db (0+new.length) bytes=true→t=.aC H.length 0 new.length n→H'=H++[.cells new.flatten]→cq P w0 g H w (Builtin.append_ #[sT,xT] rt #[vx,vy]) t H':=by
   rintro a rfl iT rfl rfl
   have Tz:∀w':World,w'.heap=w.heap→(Builtin.firstCells n 0 (.slice a 0 0)).run P w'=.ok ([]:List Value).toArray w':=by
    intro w' _
    cases a with
    | none=>simp[Builtin.firstCells]
    | some a=>simpa[Builtin.firstCells]using run_loadCells_list (P:=P) w' a [] (by simp)
   obtain⟨fj,rest,lQ,pB,cF⟩:=iS (rt:=rt) (w:=w) E s1 s2 Tz (by omega) iT
   have bg:(([]:List Value)++vs++rest).toArray.size=fj*n:=by
    simp only[List.size_toArray,List.nil_append]
    rw[List.length_append,s6,pB,←Nat.add_mul];congr 1;omega
   have l4:∀(i:Nat) (t:T),new.flatten[i]?=some t→t.one=true∧∃v,(([]:List Value)++vs++rest).toArray[i]?=some v∧VR g w t v:=by
    intro i t hi
    obtain⟨v,h1,h2⟩:=s3.gM i t hi
    refine⟨s4 t (List.mem_of_getElem? hi),v,?_,h2⟩
    simp only[List.nil_append,List.getElem?_toArray]at h1 ⊢
    rw[List.getElem?_append_left (List.getElem?_eq_some_iff.1 h1).1];exact h1
   obtain⟨g',le,sr,fr,hφ⟩:=h.iH (c:=([]++vs++rest).toArray) (ty:=elem) (cs:=new.flatten) (qS w) rfl l4
   refine⟨_,_,g',cF,le,sr,?_,fr⟩
   rw[Nat.zero_add]at lQ ⊢
   exact .aC (r:=w.heap.size) (o:=0) (off:=0) hφ lQ (by rw[bg];simp)
  cases x with
  | sl k es =>
   cases k with
   | nil =>
    simp only at he
    split at he
    ·rename_i hc
     obtain⟨iT,rfl⟩:=hc
     simp only[Option.some.injEq,Prod.mk.injEq]at he
     cases hx with
     | slnil=>exact empty none rfl (by simpa using iT) he.1.symm he.2.symm
     | sl dc hk=>exact hk.elim
    ·cases he
   | full =>
    simp only at he
    split at he
    ·rename_i hc
     obtain⟨iT,rfl⟩:=hc
     simp only[Option.some.injEq,Prod.mk.injEq]at he
     cases hx with
     | sl dc hk =>
      simp only[gI,List.length_nil]at hk
      subst hk
      exact empty _ rfl (by simpa using iT) he.1.symm he.2.symm
    ·cases he
   | arg=>cases he
   | own _ _=>cases he
  | aC b off len n' =>
   simp only at he
   cases hb:H[b]? with
   | none=>simp[hb]at he
   | some z =>
    cases z with
    | cells cs =>
     simp only[hb]at he
     split at he
     ·rename_i hc
      obtain⟨rfl,rfl,tH,iT⟩:=hc
      simp only[Option.some.injEq,Prod.mk.injEq]at he
      obtain⟨rfl,rfl⟩:=he
      cases hx with
      | @aC _ _ _ _ r o q cap hφ oB hq =>
       obtain⟨h1,h2,h3⟩:=h.eG b _ hb r o q hφ
       have kH:b<H.length:=(List.getElem?_eq_some_iff.1 hb).1
       by_cases lY:len+new.length≤cap
       ·have TA:o+cs.length+new.flatten.length≤q:=by
         rw[og,←tH,←hq,Nat.add_assoc,←Nat.add_mul]
         have:=Nat.mul_le_mul_right n' lY
         omega
        obtain⟨le,sr,fr⟩:=h.Ty hb hφ s3 s4 TA
        have jq:vs.length=new.flatten.length:=by rw[s6,og]
        have cW:=run_storeCells_cells (P:=P) r (o+0+len*n') vs 0 w (fun j hj=>by simpa using (h2 (o+len*n'+j) (by omega) (by omega)).2.2) (fun j hj=>by simpa using (h2 (o+len*n'+j) (by omega) (by omega)).2.1) (s3.jx s4)
        rw[Nat.add_zero]at cW
        have cF:=ny (rt:=rt) (cap:=cap) E s1 (s2 w rfl) lY cW
        rw[tH]at cF
        refine⟨_,_,_,cF,le,sr,?_,fr⟩
        exact .aC (off:=0) (r:=r) (o:=o) (q:=q) (by simp[Ctx.at]) lY (by rw[←hq])
       ·have hp:nu H (len*n') (.ptr b 0)=some cs:=by simp[nu,hb,tH]
        obtain⟨r',o',kC,e1,e2,e3,e4,e5⟩:=pt h (.ptr hφ) hp
        cases e1
        have Su:∀w':World,w'.heap=w.heap→(Builtin.firstCells n' len (.slice (some ⟨r,o+0,none⟩) len cap)).run P w'=.ok kC.toArray w':=by
         intro w' zG
         have:=run_loadCells_list (P:=P) w' ⟨r,o+0,none⟩ kC (fun j v hj=>by rw[pA zG,dA];exact e3 j v hj)
         rw[e2]at this
         simpa[Builtin.firstCells]using this
        obtain⟨fj,rest,lQ,pB,cF⟩:=iS (rt:=rt) (w:=w) E s1 s2 Su (by omega) iT
        have bg:(kC++vs++rest).toArray.size=fj*n':=by
         simp only[List.size_toArray]
         rw[List.length_append,List.length_append,e2,s6,pB,←Nat.add_mul,←Nat.add_mul];congr 1;omega
        have Ey:bL g w (cs++new.flatten) (kC++vs):=bL.append e4 s3
        obtain⟨le,sr,fr⟩:=h.mut (c:=(kC++vs++rest).toArray) (ty:=elem) (H':=H.set b .dead++[.cells (cs++new.flatten)]) (b:=H.length) (cs:=cs++new.flatten) (qS w) rfl
         (by rw[List.getElem?_append_right (by simp)];simp) (h.J0 (Nat.le_refl _))
         (fun b' x bF hx=>by
          have dB:(H.set b B.dead)[b']?=some x:=dh (by simpa using bF) hx
          rcases e9 kH dB with⟨_,rfl⟩|⟨_,jW⟩
          ·exact .inr rfl
          ·exact .inl jW) (by simp)
         (fun b' x a _ d _=>jA (fT a (by rintro rfl;rw[hφ]at d;cases d)))
         (fun i t hi=>by
          obtain⟨v,k1,k2⟩:=Ey.gM i t hi
          refine⟨?_,v,?_,k2⟩
          ·rcases List.mem_append.1 (List.mem_of_getElem? hi)with hm|hm
           ·exact e5 t hm
           ·exact s4 t hm
          ·simp only[List.getElem?_toArray]at k1 ⊢
           rw[List.getElem?_append_left (List.getElem?_eq_some_iff.1 k1).1];exact k1)
        refine⟨_,_,_,cF,le,sr,.aC (r:=w.heap.size) (o:=0) (off:=0) (q:=(kC++vs++rest).toArray.size) (by simp[Ctx.at]) lQ (by rw[bg];simp),by simp,fun b' x a c d=>fr b' x a c d (by have:=(List.getElem?_eq_some_iff.1 a).1;omega)⟩
     ·cases he
    | map _=>simp[hb]at he
    | tok _=>simp[hb]at he
    | _=>simp[hb]at he
  | _=>simp at he
theorem uo:∀(vs:List Value) (k off:Nat) (cells:Array Value),off+k+vs.length≤cells.size →
  ((vs.zipIdx k).foldl (fun (cs:Array Value) (x:Value×Nat)=>cs.setIfInBounds (off+x.2) x.1) cells).toList=cells.toList.take (off+k)++vs++cells.toList.drop (off+k+vs.length)
 | [],k,off,cells,_=>by simp
 | v :: vs,k,off,cells,h=>by
  simp only[List.length_cons]at h
  rw[List.zipIdx_cons,List.foldl_cons,uo vs (k+1) off _ (by simp;omega)]
  simp only[Array.toList_setIfInBounds,List.length_cons]
  have aq:off+k<cells.toList.length:=by simp;omega
  rw[show off+(k+1)=off+k+1 by omega,List.take_add_one]
  rw[show off+k+1+vs.length=off+k+(vs.length+1) by omega]
  rw[List.take_set_of_le (Nat.le_refl _),List.getElem?_set_self aq,List.drop_set_of_lt (by omega)]
  simp
theorem pD {off size:Nat}{v:Value}{cells:Array Value}(hs:v.cells.size=size)(hle:off+size≤cells.size) :
  (v.cells.zipIdx.foldl (fun (cs:Array Value) (x:Value×Nat)=>cs.setIfInBounds (off+x.2) x.1) cells).toList=cells.toList.take off++v.cells.toList++cells.toList.drop (off+size):=by
 have:=uo v.cells.toList 0 off cells (by simp[hs];omega)
 rw[←Array.foldl_toList,Array.toList_zipIdx]
 simpa[hs]using this
def placesOf (P:Program):List Field→List (Nat×Nat)
 | []=>[]
 | f :: fs=>(f.offset,P.cellsOf f.type) :: placesOf P fs
theorem run_places {fs:List Field}(hi:∀f∈fs,∃i,P.info? f.type=some i):(fs.mapM fun f=>do pure (f.offset,←sizeOf f.type):Sem (List (Nat×Nat))).run P w=.ok (placesOf P fs) w:=by
 induction fs with
 | nil=>simp[placesOf]
 | cons f fs ih =>
  obtain⟨i,hf⟩:=hi f (by simp)
  have ih:=ih (fun f' h'=>hi f' (by simp[h']))
  have h0:(sizeOf f.type).run P w=.ok i.size w:=by simp[sizeOf,bu hf]
  rw[List.mapM_cons]
  simp only[Sem.run_bind,h0,Result.andThen_ok,Sem.run_pure,ih]
  simp[placesOf,Program.cellsOf,hf]
inductive PV (g:Ctx)(w:World)(R:ax):List (Nat×X)→List (Nat×Value)→Prop
 | nil:PV g w R [] []
 | cons {i:Nat} {x:X} {v:Value} {ps:List (Nat×X)} {pv:List (Nat×Value)} (h:VR g w (x.ev R) v) (hs:PV g w R ps pv):PV g w R ((i,x) :: ps) ((i,v) :: pv)
theorem J9 {R:ax}{place:Nat→Option (Nat×Nat)}{ps:List (Nat×X)}{pv:List (Nat×Value)}(hv:PV g w R ps pv):∀(l:List (Nat×List T)) (z cs:List T) (cells:Array Value),(∀p∈ps,(place p.1).isSome=true) →
  fO R (ps.map fun p=>(((place p.1).getD (0,0)).1,((place p.1).getD (0,0)).2,p.2))=some l→nr z l=some cs→bL g w z cells.toList→cI z →
  ∃dg,Instr.fill place cells pv=some dg∧bL g w cs dg.toList∧cI cs∧dg.size=cells.size:=by
 induction hv with
 | nil =>
  intro l z cs cells hp hl hf hz ho
  simp[fO]at hl;subst hl
  simp[nr]at hf;subst hf
  exact⟨cells,rfl,hz,ho,rfl⟩
 | @cons i x v ps pv TB _ ih =>
  intro l z cs cells hp hl hf hz ho
  have X9:=hp (i,x) (by simp)
  cases A4:place i with
  | none=>simp[A4]at X9
  | some os =>
   obtain⟨off,size⟩:=os
   simp only[List.map_cons,A4,Option.getD_some]at hl
   simp only[fO]at hl
   cases hc:(x.ev R).cells? with
   | none=>simp[hc]at hl
   | some c =>
    cases hr:fO R (ps.map fun p=>(((place p.1).getD (0,0)).1,((place p.1).getD (0,0)).2,p.2))with
    | none=>simp[hc,hr]at hl
    | some l' =>
     simp only[hc,hr]at hl
     split at hl
     ·rename_i mM
      simp at hl;subst hl
      simp only[nr]at hf
      split at hf
      ·rename_i hle
       obtain⟨Jj,TC⟩:=jV TB hc
       have bg:v.cells.size=size:=by have:=Jj.1;simp at this;omega
       have xI:z.length=cells.size:=by have:=hz.1;simpa using this
       have Zk:off+size≤cells.size:=by omega
       have bN:=pD bg Zk
       have qR:bL g w (z.take off++c++z.drop (off+c.length)) (v.cells.zipIdx.foldl (fun (cs:Array Value) (x:Value×Nat)=>cs.setIfInBounds (off+x.2) x.1) cells).toList:=by
        rw[bN,mM]
        exact bL.append (bL.append (hz.take off) Jj) (hz.drop (off+size))
       have nL:cI (z.take off++c++z.drop (off+c.length)):=by
        intro t ht
        rcases List.mem_append.1 ht with ht|ht
        ·rcases List.mem_append.1 ht with ht|ht
         ·exact ho t (List.mem_of_mem_take ht)
         ·exact TC t ht
        ·exact ho t (List.mem_of_mem_drop ht)
       obtain⟨dg,k1,k2,k3,k4⟩:=ih l' _ cs _ (fun x hx=>hp x (by simp[hx])) hr hf qR nL
       refine⟨dg,?_,k2,k3,?_⟩
       ·simp only[Instr.fill,A4]
        rw[if_neg]
        ·exact k1
        ·simp[bg];omega
       ·rw[k4]
        have:=congrArg List.length bN
        simp only[Array.length_toList,List.length_append,List.length_take,List.length_drop]at this
        omega
      ·cases hf
     ·cases hl
theorem CC {ty:TypeId}{fs:Array Field}{i:TypeInfo}{zv:Value}{R:ax}{ps:List (Nat×X)}{pv:List (Nat×Value)}{z cs:List T}{l:List (Nat×List T)}(hu:P.underlying ty=some (.struct fs))(hi:P.info? ty=some i)(hz:i.zero=some zv)(Ez:fw zv.cells.toList=some z)
  (hfs:∀f∈fs.toList,∃i,P.info? f.type=some i) (hp:∀p∈ps,p.1<fs.size) (h:SR w0 g H w) (hv:PV g w R ps pv)
  (hl:fO R (ps.map fun p=>((((placesOf P fs.toList)[p.1]?).getD (0,0)).1,(((placesOf P fs.toList)[p.1]?).getD (0,0)).2,p.2))=some l) (hf:nr z l=some cs) :
  cq P w0 g H w (Instr.build ty pv.toArray) (.agg cs) H:=by
 obtain⟨CD,DT⟩:=dZ (g:=g) (w:=w) _ _ Ez
 have hlen:∀l:List Field,(placesOf P l).length=l.length:=by
  intro l;induction l with
  | nil=>rfl
  | cons f l ih=>simp[placesOf,ih]
 have xg:∀p∈ps,((placesOf P fs.toList)[p.1]?).isSome=true:=fun p oH=>by
  have:=hp p oH
  rw[List.getElem?_eq_getElem (by rw[hlen];simpa using this)];rfl
 obtain⟨dg,k1,k2,k3,_⟩:=J9 (place:=fun (i:Nat)=>(placesOf P fs.toList)[i]?) hv l z cs zv.cells xg hl hf CD DT
 refine cq.same h (v:=.agg dg) ?_ (by have:=k2.agg k3;simpa using this)
 have A4:(fs.mapM fun f=>do pure (f.offset,←sizeOf f.type):Sem (Array (Nat×Nat))).run P w=.ok (placesOf P fs.toList).toArray w:=by
  rw[Array.mapM_eq_mapM_toList]
  simp only[Sem.run_map,run_places hfs,Result.andThen_ok]
 simp only[Instr.build,zeroValue,Sem.run_bind,bu hi,hz,Result.andThen_ok,Sem.run_pure,run_underlying hu,A4]
 have e:(fun (x:Nat)=>(placesOf P fs.toList).toArray[x]?)=fun (i:Nat)=>(placesOf P fs.toList)[i]?:=by funext x;simp
 simp[e,k1]
end
section
variable {P:Program} {w0 w:World} {g:Ctx} {H:af}
theorem l6 {n:Nat}:∀(es:List (List T)) (i:Nat) (c:List T),(∀c∈es,c.length=n)→i<es.length→(es.set i c).flatten=es.flatten.take (i*n)++c++es.flatten.drop (i*n+n)
 | [],i,c,_,h=>by simp at h
 | d :: es,0,c,hn,_=>by
  have hd:=hn d (by simp)
  simp[←hd]
 | d :: es,i+1,c,hn,h=>by
  have hd:=hn d (by simp)
  have ih:=l6 es i c (fun c hc=>hn c (by simp[hc])) (by simpa using h)
  simp only[List.set_cons_succ,List.flatten_cons,ih]
  have e1:(d++es.flatten).take ((i+1)*n)=d++es.flatten.take (i*n):=by
   rw[List.take_append,hd,Nat.succ_mul]
   rw[List.take_of_length_le (by omega)]
   congr 2;omega
  have e2:(d++es.flatten).drop ((i+1)*n+n)=es.flatten.drop (i*n+n):=by
   rw[List.drop_append,hd,Nat.succ_mul]
   rw[List.drop_of_length_le (by omega)]
   simp only[List.nil_append]
   congr 1;omega
  rw[e1,e2];simp
theorem EA {R:ax}{n:Nat}{ps:List (Nat×X)}{pv:List (Nat×Value)}(hv:PV g w R ps pv):∀(es fs:List (List T)) (cells:Array Value),jT n es R ps=some fs→(∀c∈es,c.length=n)→bL g w es.flatten cells.toList→cI es.flatten →
  ∃dg,Instr.fill (fun i=>some (i*n,n)) cells pv=some dg∧bL g w fs.flatten dg.toList∧cI fs.flatten∧(∀c∈fs,c.length=n)∧fs.length=es.length:=by
 induction hv with
 | nil =>
  intro es fs cells he hn hz ho
  simp[jT]at he;subst he
  exact⟨cells,rfl,hz,ho,hn,rfl⟩
 | @cons i x v ps pv TB _ ih =>
  intro es fs cells he hn hz ho
  simp only[jT]at he
  cases hc:(x.ev R).cells? with
  | none=>simp[hc]at he
  | some c =>
   simp only[hc]at he
   split at he
   ·rename_i cM
    obtain⟨mM,hi⟩:=cM
    obtain⟨Jj,TC⟩:=jV TB hc
    have bg:v.cells.size=n:=by have:=Jj.1;simp at this;omega
    have ti:=gQ es hn
    have xI:es.flatten.length=cells.size:=by have:=hz.1;simpa using this
    have hle:i*n+n≤cells.size:=by
     rw[←xI,ti,←Nat.succ_mul];exact Nat.mul_le_mul_right _ hi
    have bN:=pD bg hle
    have l8:=l6 es i (c.map T.erase) hn hi
    have qR:bL g w (es.set i (c.map T.erase)).flatten (v.cells.zipIdx.foldl (fun (cs:Array Value) (x:Value×Nat)=>cs.setIfInBounds (i*n+x.2) x.1) cells).toList:=by
     rw[bN,l8]
     exact bL.append (bL.append (hz.take _) Jj.erase) (hz.drop _)
    have nL:cI (es.set i (c.map T.erase)).flatten:=by
     rw[l8]
     intro t ht
     rcases List.mem_append.1 ht with ht|ht
     ·rcases List.mem_append.1 ht with ht|ht
      ·exact ho t (List.mem_of_mem_take ht)
      ·exact rH TC t ht
     ·exact ho t (List.mem_of_mem_drop ht)
    obtain⟨dg,k1,k2,k3,k4,k5⟩:=ih _ fs _ he (fun c' ir=>by
     rcases List.mem_or_eq_of_mem_set ir with h|h
     ·exact hn c' h
     ·rw[h,List.length_map];exact mM) qR nL
    refine⟨dg,?_,k2,k3,k4,by simpa using k5⟩
    simp only[Instr.fill]
    rw[if_neg]
    ·exact k1
    ·simp[bg];omega
   ·cases he
theorem ma {n:Nat}{z:List T}{zc:Array Value}(hz:bL g w z zc.toList)(hn:z.length=n)(m:Nat):bL g w (List.replicate m z).flatten ((Array.range (m*n)).map (fun i=>zc[i%zc.size]!)).toList:=by
 have J6:zc.size=n:=by have:=hz.1;simp at this;omega
 refine⟨by simp[hn],fun i t v a b=>?_⟩
 have hi:i<m*n:=by
  have:=(List.getElem?_eq_some_iff.1 b).1
  simpa using this
 have iA:0<n:=by
  rcases Nat.eq_zero_or_pos n with e|e
  ·subst e;simp at hi
  ·exact e
 have hdm:i/n<m:=Nat.div_lt_of_lt_mul (by rw[Nat.mul_comm];exact hi)
 have TD:i%n<z.length:=by rw[hn];exact Nat.mod_lt _ iA
 have e1:(List.replicate m z)[i/n]?=some z:=by simp[hdm]
 have:=lX (n:=n) (List.replicate m z) (fun c hc=>by rw[List.eq_of_mem_replicate hc];exact hn) (i/n) (i%n) z _ e1 (List.getElem?_eq_getElem TD)
 rw[show i/n*n+i%n=i by rw[Nat.mul_comm,Nat.div_add_mod]]at this
 rw[this]at a
 simp at a;subst a
 have aq:i%zc.size<zc.toList.length:=by rw[J6];simp[J6];exact Nat.mod_lt _ iA
 have e2:zc.toList[i%zc.size]?=some v:=by
  simp[hi]at b
  rw[←b,List.getElem?_eq_getElem aq]
  have:i%zc.size<zc.size:=by simpa using aq
  simp[this]
 rw[J6]at e2
 exact hz.2 (i%n) _ v (List.getElem?_eq_getElem TD) e2
theorem jX {z:List T}(ho:cI z)(m:Nat):cI (List.replicate m z).flatten:=by
 intro t ht
 obtain⟨c,h1,h2⟩:=List.mem_flatten.1 ht
 rw[List.eq_of_mem_replicate h1]at h2
 exact ho t h2
theorem EB (w:World):Tr w w iu jz:=Tr.refl w
theorem Ka {ty elem:TypeId}{ei:TypeInfo}{zv:Value}{R:ax}{ps:List (Nat×X)}{pv:List (Nat×Value)}{z:List T}{len:Nat}{fs:List (List T)}(hu:P.underlying ty=some (.slice elem))(hi:P.info? elem=some ei)(hz:ei.zero=some zv)(Ez:fw zv.cells.toList=some z)
  (zH:z.length=ei.size) (bg:len*ei.size≤2^24) (h:SR w0 g H w) (hv:PV g w R ps pv) (he:jT z.length (List.replicate len z) R ps=some fs) :
  cq P w0 g H w (Instr.buildSlice ty len pv.toArray) (.sl .full fs) H:=by
 obtain⟨CD,DT⟩:=dZ (g:=g) (w:=w) _ _ Ez
 have Zl:=ma CD zH len
 have Tz:=jX DT len
 rw[zH]at he
 obtain⟨dg,k1,k2,k3,k4,k5⟩:=EA hv _ fs ((Array.range (len*ei.size)).map (fun i=>zv.cells[i%zv.cells.size]!)) he (fun c hc=>by rw[List.eq_of_mem_replicate hc];exact zH) Zl Tz
 have hlen:fs.length=len:=by rw[k5];simp
 obtain⟨le,sr,fr,nf⟩:=h.nf (c:=dg) (ty:=elem) (EB w) rfl
 refine⟨.slice (some ⟨w.heap.size,0,none⟩) len len,_,_,?_,le,sr,?_,fr⟩
 ·have EC:¬len*ei.size>2^24:=by omega
  by_cases h0:len*ei.size=0
  ·have e0:((Array.range (len*ei.size)).map (fun i=>zv.cells[i%zv.cells.size]!))=((Array.range (len*ei.size)).map (fun i=>(#[]:Array Value)[i%(#[]:Array Value).size]!)):=by
    rw[h0];simp
   rw[e0]at k1
   simp only[Instr.buildSlice,Sem.run_bind,run_underlying hu,Result.andThen_ok,sizeOf,bu hi,Sem.run_pure,EC,if_false,h0,if_true]
   rw[h0]at k1
   simp at k1
   simp[k1,newRow]
  ·simp only[Instr.buildSlice,Sem.run_bind,run_underlying hu,Result.andThen_ok,sizeOf,bu hi,Sem.run_pure,EC,if_false,h0,zeroValue,hz]
   simp[k1,newRow]
 ·have:=VR.vF (k:=.full) (r:=w.heap.size) (o:=0) (cap:=fs.length) k4 (k2.mono le) k3 (Nat.le_refl _) rfl (fun j v hj=>by rw[Nat.zero_add];exact nf j v (by simpa using hj))
  rw[hlen]at this;exact this
theorem wrap_i64 {n:Int}(h0:0≤n)(h1:n≤9223372036854775807):IntKind.i64.wrap n=n:=IntWalk.i64_in n (by omega)
theorem run_makeSlice {ty elem:TypeId}{ei:TypeInfo}{zv:Value}{k1 k2:IntKind}{l c:Int}(hu:P.underlying ty=some (.slice elem))(hi:P.info? elem=some ei)(hz:ei.zero=some zv)(h0:0≤l)(Oy:l≤c)(hc:c*ei.bytes≤281474976710656)(ir:c≤9223372036854775807) :
  (Instr.makeSlice ty (.int k1 l) (.int k2 c)).run P w=.ok (.slice (some ⟨w.heap.size,0,none⟩) l.toNat c.toNat)
   (w.alloc (.cells ((Array.range (c.toNat*ei.size)).map (fun i=>(if c.toNat*ei.size=0 then(#[]:Array Value)else zv.cells)[i%(if c.toNat*ei.size=0 then(#[]:Array Value)else zv.cells).size]!)) elem)):=by
 have e1:=wrap_i64 h0 (by omega:l≤9223372036854775807)
 have e2:=wrap_i64 (by omega:0≤c) ir
 have t1:((decide (c<0)||decide ((ei.bytes:Int)*c>2^48))||decide (l<0)||decide (l>c))=false:=by
  have:(ei.bytes:Int)*c=c*ei.bytes:=Int.mul_comm _ _
  simp[this];omega
 simp only[Instr.makeSlice,Sem.run_bind,run_underlying hu,Result.andThen_ok,asInt,asIntOf,Sem.run_pure,bu hi,e1,e2,t1]
 by_cases hn:c.toNat*ei.size=0
 ·simp[sizeOf,bu hi,hn,newRow]
 ·simp[sizeOf,bu hi,hn,zeroValue,hz,newRow]
theorem Kb {ty elem:TypeId}{ei:TypeInfo}{zv:Value}{mu:Bool}{z:List T}{x y t:T}{l c:Nat}{vx vy:Value}{H':af}(hu:P.underlying ty=some (.slice elem))(hi:P.info? elem=some ei)(hz:ei.zero=some zv)(Ez:fw zv.cells.toList=some z)(zH:z.length=ei.size)(iA:ei.size≠0)
  (h:SR w0 g H w) (hx:VR g w x vx) (hy:VR g w y vy) (hl:cB x=some l) (hc:cB y=some c) (Oy:l≤c) (hb:c*ei.bytes≤281474976710656) (Sy:c≤9223372036854775807)
  (he:(if mu then(T.aC H.length 0 l z.length,H++[.cells (List.replicate l z).flatten])else if l=0 then(.sl .arg [],H)else(.sl (.own H.length l) (List.replicate l z),H++[.tok l]))=(t,H')) :
  cq P w0 g H w (Instr.makeSlice ty vx vy) t H':=by
 obtain⟨CD,DT⟩:=dZ (g:=g) (w:=w) _ _ Ez
 obtain⟨k1,n1,rfl,a1,b1⟩:=eR hx hl
 obtain⟨k2,n2,rfl,a2,b2⟩:=eR hy hc
 have cF:=run_makeSlice (P:=P) (w:=w) (k1:=k1) (k2:=k2) hu hi hz a1 (by omega:n1≤n2) (by
  have:(n2.toNat:Int)=n2:=Int.toNat_of_nonneg a2
  rw[←this,b2];omega) (by omega)
 rw[b1,b2]at cF
 have rJ:=ma CD zH c
 have gl:=jX DT c
 have zI:(List.replicate c z).flatten=(List.replicate l z).flatten++(List.replicate (c-l) z).flatten:=by
  rw[←List.flatten_append,List.replicate_append_replicate];congr 2;omega
 have aeK:(List.replicate l z).flatten.length=l*ei.size:=by rw[gQ (n:=ei.size) _ (fun c hc=>by rw[List.eq_of_mem_replicate hc];exact zH),List.length_replicate]
 have oI:(Array.range (c*ei.size)).map (fun i=>(if c*ei.size=0 then(#[]:Array Value)else zv.cells)[i%(if c*ei.size=0 then(#[]:Array Value)else zv.cells).size]!)=(Array.range (c*ei.size)).map (fun i=>zv.cells[i%zv.cells.size]!):=by
  by_cases h0:c*ei.size=0
  ·rw[h0];simp
  ·simp only[h0,if_false]
 rw[oI]at cF
 generalize hA:(Array.range (c*ei.size)).map (fun i=>zv.cells[i%zv.cells.size]!)=A at cF rJ
 have bg:A.size=c*ei.size:=by rw[←hA];simp
 have l4:∀(i:Nat) (t:T),(List.replicate l z).flatten[i]?=some t→t.one=true∧∃v,A[i]?=some v∧VR g w t v:=by
  intro i t lF
  have e:(List.replicate c z).flatten[i]?=some t:=by
   rw[zI,List.getElem?_append_left (List.getElem?_eq_some_iff.1 lF).1];exact lF
  obtain⟨v,h1,h2⟩:=rJ.gM i t e
  exact⟨gl t (List.mem_of_getElem? e),v,by simpa using h1,h2⟩
 cases mu with
 | true =>
  simp only[if_true,Prod.mk.injEq]at he
  obtain⟨rfl,rfl⟩:=he
  obtain⟨g',le,sr,fr,hφ⟩:=h.iH (c:=A) (ty:=elem) (EB w) rfl l4
  exact⟨_,_,g',cF,le,sr,.aC (r:=w.heap.size) (o:=0) (off:=0) hφ Oy (by rw[bg,zH];simp),fr⟩
 | false =>
  simp only[Bool.false_eq_true,if_false]at he
  split at he
  ·rename_i zk
   subst zk
   simp only[Prod.mk.injEq]at he
   obtain⟨rfl,rfl⟩:=he
   obtain⟨le,sr,fr,nf⟩:=h.nf (c:=A) (ty:=elem) (EB w) rfl
   exact⟨_,_,_,cF,le,sr,.sl (n:=0) (fun _ _=>.nilIface) trivial (by simp) (by simp) (by simp) (by simp),fr⟩
  ·rename_i zk
   simp only[Prod.mk.injEq]at he
   obtain⟨rfl,rfl⟩:=he
   obtain⟨le,sr,fr,nf,hp⟩:=h.Et (c:=A) (ty:=elem) (t:=H.length) (e:=l) (k:=l*ei.size) (H':=H++[.tok l]) (EB w) rfl (fS _ _) (by rw[bg];exact Nat.mul_le_mul_right _ Oy) (fun J7 _=>h.Zg (Nat.le_refl _))
    (fun b' x e hx=>dh e hx) (by simp) (fun b' x hx _=>jA hx)
   refine⟨_,_,_,cF,le,sr,?_,fr⟩
   have hv:bL g w (List.replicate l z).flatten (A.toList.take (l*ei.size)):=by
    have:=rJ.take (l*ei.size)
    rwa[zI,List.take_append_of_le_length (by omega),List.take_of_length_le (by omega)]at this
   have:=VR.vF (k:=.own H.length l) (r:=w.heap.size) (o:=0) (cap:=c) (n:=ei.size) (es:=List.replicate l z) (fun c hc=>by rw[List.eq_of_mem_replicate hc];exact zH) (hv.mono le) (jX DT l) (by simpa using Oy)
    ⟨by rw[hp,bg];simp,by simp;omega⟩ (fun j v hj=>by
     rw[Nat.zero_add]
     rw[List.getElem?_take]at hj
     split at hj
     ·rename_i aq;exact nf j v aq (by simpa using hj)
     ·cases hj)
   simpa using this
theorem Kc {f:Nat}{lR:List T}{vs:List Value}(h:SR w0 g H w)(hv:bL g w lR vs):cq P w0 g H w (Instr.makeFunc (.func f) #[] vs.toArray) (.fn f lR) H :=
 cq.same h rfl (.fn (by simp[hv.1]) (fun i t v a b=>hv.2 i t v a (by simpa using b)))
end
section
variable {P:Program} {w0 w:World} {g:Ctx} {H:af}
theorem VR.xv {t:T}{v:Value}(h:VR g w t v):VR g w (xv t) v:=by
 cases h with
 | eH h hc hq=>exact .aC h hc hq
 | aC h hc hq=>exact .aC h hc hq
 | int k n=>exact .int k n
 | bool b=>exact .bool b
 | str s=>exact .str s
 | br=>exact .br
 | ptr h=>exact .ptr h
 | b0 dc h1 h2=>exact .b0 dc h1 h2
 | hY=>exact .hY
 | map h=>exact .map h
 | slnil=>exact .slnil
 | jw a=>exact .jw a
 | sl dc hk hc hn h1 h2=>exact .sl dc hk hc hn h1 h2
 | nG=>exact .nG
 | fn hl h=>exact .fn hl h
 | od h=>exact .od h
 | hZ=>exact .hZ
 | agg hl h1 h2=>exact .agg hl h1 h2
 | bC hl h2=>exact .bC hl h2
theorem Ke {ty rt:TypeId}{e:TypeId}{b off len n c:Nat}{vx:Value}(hu:P.underlying ty=some (.slice e))(h:SR w0 g H w)(hx:VR g w (.eH b off len n c) vx) :
  cq P w0 g H w (Builtin.cap_ #[ty] rt #[vx]) (.int .i64 (c:Nat)) H:=by
 cases hx with
 | eH hφ hc hq=>exact cq.same h (v:=.int .i64 c) (by simp[Builtin.cap_,run_underlying hu,goInt]) (.int _ _)
theorem rK (cs:List T)(off n:Nat):∀k,off+k*n≤cs.length→((List.range k).map fun i=>(cs.drop (off+i*n)).take n).flatten=(cs.drop off).take (k*n)
 | 0,_=>by simp
 | k+1,h=>by
  have h':off+k*n≤cs.length:=by rw[Nat.succ_mul]at h;omega
  rw[List.range_succ,List.map_append,List.flatten_append,rK cs off n k h',Nat.succ_mul,List.take_add]
  simp[List.drop_drop]
theorem uq {n k:Nat}{y:T}{vy:Value}{new:List (List T)}(h:SR w0 g H w)(hy:VR g w y vy)(he:iQ H n k y=some new) :
  ∃r o ly cap vs,vy=.slice (some ⟨r,o,none⟩) ly cap∧D7 y=some ly∧(∀(j:Nat) (v:Value),vs[j]?=some v→w.cell? ⟨r,o+j,none⟩=some v)∧bL g w new.flatten vs∧vs.length=k*n∧cI new.flatten∧new.flatten.length=k*n:=by
 have key:∀(b off:Nat) (r o q:Nat),g.φ b=some (r,o,q)→(match H[b]? with|some (.cells cs)=>if off+k*n≤cs.length then some ((List.range k).map fun i=>(cs.drop (off+i*n)).take n)else none|_=>none)=some new →
   ∃vs,(∀(j:Nat) (v:Value),vs[j]?=some v→w.cell? ⟨r,o+off+j,none⟩=some v)∧bL g w new.flatten vs∧vs.length=k*n∧cI new.flatten∧new.flatten.length=k*n:=by
  intro b off r o q hφ he
  cases hb:H[b]? with
  | none=>simp[hb]at he
  | some z =>
   cases z<;>simp only[hb]at he<;>(try (cases he;done))
   rename_i cs
   split at he
   ·rename_i hle
    simp only[Option.some.injEq]at he
    have ti:=rK cs off n k hle
    rw[he]at ti
    have hp:nu H (k*n) (.ptr b off)=some new.flatten:=by simp[nu,hb,hle,ti]
    obtain⟨r',o',vs,e1,e2,e3,e4,e5⟩:=pt h (.ptr hφ) hp
    cases e1
    exact⟨vs,e3,e4,e2,e5,by rw[ti,List.length_take,List.length_drop];omega⟩
   ·cases he
 cases hy<;>simp only[iQ]at he<;>(try (cases he;done))
 ·rename_i b off len n' r o q cap hφ hc hq
  obtain⟨vs,a1,a2,a3,a4,a5⟩:=key b off r o q hφ (by
   cases hb:H[b]? with
   | none=>simp[hb]at he
   | some z =>
    cases z<;>simp only[hb]at he ⊢<;>(try (cases he;done))
    split at he
    ·rename_i vG;rw[if_pos vG.2];exact he
    ·cases he)
  exact⟨r,o+off,len,cap,vs,rfl,rfl,a1,a2,a3,a4,a5⟩
 ·rename_i b off len n' r o q cap hφ hc hq
  obtain⟨vs,a1,a2,a3,a4,a5⟩:=key b off r o q hφ (by
   cases hb:H[b]? with
   | none=>simp[hb]at he
   | some z =>
    cases z<;>simp only[hb]at he ⊢<;>(try (cases he;done))
    split at he
    ·rename_i vG;rw[if_pos vG.2];exact he
    ·cases he)
  exact⟨r,o+off,len,cap,vs,rfl,rfl,a1,a2,a3,a4,a5⟩
theorem SR.Oz {b off r o q:Nat}{cs ts:List T}{vs:List Value}(h:SR w0 g H w)(hb:H[b]?=some (.cells cs))(hφ:g.φ b=some (r,o,q))(Cy:off≤cs.length)(hle:o+off+ts.length≤q)(hv:bL g w ts vs)(ho:cI ts) :
  Le g w g (w.setCells r (o+off) vs)∧SR w0 g (H.set b (.cells (cs.take off++ts++cs.drop (off+ts.length)))) (w.setCells r (o+off) vs):=by
 have kH:b<H.length:=(List.getElem?_eq_some_iff.1 hb).1
 obtain⟨h1,h2,h3⟩:=h.eG b _ hb r o q hφ
 have hl:=hv.1
 have hs:∀j,o+off≤j→j<o+off+vs.length→(w.cell? ⟨r,j,none⟩).isSome=true:=fun j a c=>(h2 j (by omega) (by omega)).2.2
 have tr:=Tr.setCells w r (o+off) vs hs
 have hS:∀r' j,xF r (o+off) vs.length r' j→g.κ r' j=.mut b:=by
  rintro r' j⟨rfl,a,c⟩;exact(h2 j (by omega) (by omega)).1
 have le:Le g w g (w.setCells r (o+off) vs):=Le.iR tr (fun _ _ h=>h) (fun _ _ h=>h) (fun _ _ _ h=>h) (fun r' j ff e=>by rw[hS r' j ff]at e;cases e)
 refine⟨le,h.step (fun b'=>b'=b) tr le (fun r' j ff=>.inr (.inl ⟨b,hS r' j ff,rfl⟩)) (fun _ hm=>hm.elim) (fun r' j hr=>h.fresh r' j (by rwa[ea]at hr)) (fun b' x hx=>by rw[List.length_set];exact h.tF b' x hx)
  (fun t e x hx=>by rw[List.length_set];exact h.jH t e x hx) (fun _ _ _=>rfl) (fun _ _ _ _=>⟨id,id⟩) (fun _ _ _ _=>rfl) (fun b' x hx=>?_)⟩
 rcases e9 kH hx with⟨rfl,rfl⟩|⟨bF,jW⟩
 ·right
  intro r' o' q' lO
  rw[hφ]at lO;cases lO
  have hlen:(cs.take off++ts++cs.drop (off+ts.length)).length=max cs.length (off+ts.length):=by simp;omega
  refine⟨by rw[hlen];omega,fun j a c=>⟨(h2 j a c).1,by rw[World.frozen?_setCells];exact(h2 j a c).2.1,tr.eJ r j ?_ (h2 j a c).2.2⟩,fun i t hi=>?_⟩
  ·obtain⟨x,hx⟩:=Option.isSome_iff_exists.1 (h2 j a c).2.2;exact kD hx
  ·have lF:i<max cs.length (off+ts.length):=by rw[←hlen];exact(List.getElem?_eq_some_iff.1 hi).1
   by_cases iI:off≤i∧i<off+ts.length
   ·have ht:ts[i-off]?=some t:=by
     rw[List.append_assoc,List.getElem?_append_right (by simp;omega),List.getElem?_append_left (by simp;omega)]at hi
     rw[←hi];congr 1;simp;omega
    have aq:i-off<vs.length:=by omega
    refine⟨ho t (List.mem_of_getElem? ht),vs[i-off],?_,(hv.2 _ t _ ht (List.getElem?_eq_getElem aq)).mono le⟩
    have:=cR r vs (o+off) w hs (i-off) _ (List.getElem?_eq_getElem aq)
    rwa[show o+off+(i-off)=o+i by omega]at this
   ·have ht:cs[i]?=some t:=by
     by_cases aq:i<off
     ·rw[List.append_assoc,List.getElem?_append_left (by simp;omega),List.getElem?_take,if_pos aq]at hi;exact hi
     ·rw[List.getElem?_append_right (by simp;omega),List.getElem?_drop]at hi
      rw[←hi];congr 1;simp;omega
    obtain⟨a,v,Oq,Ot⟩:=h3 i t ht
    refine⟨a,v,?_,Ot.mono le⟩
    rw[cN r vs (o+off) w r (o+i) (by omega)];exact Oq
 ·exact .inl ⟨bF,jW⟩
theorem CE (w:World)(dT sT ty elem:TypeId){ei:TypeInfo}(b o OA Zm:Nat)(a:Addr)(OB Zn:Nat)(cs:List Value)
  (hu:P.underlying dT=some (.slice elem)) (hi:P.info? elem=some ei) (hn:cs.length=Nat.min OB OA*ei.size)
  (tI:∀(j:Nat) v,cs[j]?=some v→w.cell? (a.add j)=some v) (hc:∀j,j<cs.length→(w.cell? ⟨b,o+j,none⟩).isSome=true) (hf:∀j,j<cs.length→w.frozen? ⟨b,o+j,none⟩=false) (h1:∀v∈cs,v.oneCell'=true) :
  (Builtin.copy_ #[dT,sT] ty #[.slice (some ⟨b,o,none⟩) OA Zm,.slice (some a) OB Zn]).run P w=.ok (goInt (Nat.min OB OA:Nat)) (w.setCells b o cs):=by
 have hl:=run_loadCells_list (P:=P) w a cs tI
 have cW:=run_storeCells_cells (P:=P) b o cs 0 w (by simpa using hc) (by simpa using hf) h1
 rw[hn]at hl
 have hq:(typeInfo elem).run P w=.ok ei w:=bu hi
 simp[Builtin.copy_,run_underlying hu,Builtin.lenOf,Builtin.firstCells,sizeOf,hq,hl,cW]
theorem Kf {dT sT rt elem:TypeId}{ei:TypeInfo}{x y t:T}{vx vy:Value}{H':af}(hu:P.underlying dT=some (.slice elem))(hi:P.info? elem=some ei)
  (h:SR w0 g H w) (hx:VR g w x vx) (hy:VR g w y vy) (he:Cn H ei.size x y=some (t,H')):cq P w0 g H w (Builtin.copy_ #[dT,sT] rt #[vx,vy]) t H':=by
 have key:∀b off len n' r o q cap,g.φ b=some (r,o,q)→len≤cap→o+off+cap*n'=q→vx=.slice (some ⟨r,o+off,none⟩) len cap →
   (∀ly,D7 y=some ly→∀cs new,H[b]?=some (.cells cs)→iQ H ei.size (min ly len) y=some new→n'=ei.size∧ei.size≠0∧off≤cs.length →
    t=.int .i64 (min ly len:Nat)→H'=H.set b (.cells (cs.take off++new.flatten++cs.drop (off+(min ly len)*ei.size)))→cq P w0 g H w (Builtin.copy_ #[dT,sT] rt #[vx,vy]) t H'):=by
  rintro b off len n' r o q cap hφ hc hq rfl ly Kg cs new hb hK⟨rfl,iA,Cy⟩ rfl rfl
  obtain⟨r2,o2,ly',vB,vs,rfl,TE,a1,a2,a3,a4,a5⟩:=uq h hy hK
  rw[Kg]at TE;cases TE
  have kH:b<H.length:=(List.getElem?_eq_some_iff.1 hb).1
  obtain⟨h1,h2,h3⟩:=h.eG b _ hb r o q hφ
  have hmul:min ly len*ei.size≤cap*ei.size:=Nat.mul_le_mul_right _ (by omega)
  have cF:=CE (P:=P) w dT sT rt elem r (o+off) len cap ⟨r2,o2,none⟩ ly vB vs hu hi (by rw[a3]) (fun j v hj=>by rw[dA];exact a1 j v hj) (fun j hj=>(h2 _ (by omega) (by omega)).2.2) (fun j hj=>(h2 _ (by omega) (by omega)).2.1) (a2.jx a4)
  obtain⟨le,sr⟩:=h.Oz hb hφ Cy (by rw[a5];omega) a2 a4
  rw[a5]at sr
  refine⟨_,_,g,cF,le,sr,by simpa[goInt]using .int _ _,by simp,fun b' y' a _ d=>⟨fT a ?_,d⟩⟩
  rintro rfl;rw[hφ]at d;cases d
 unfold Cn at he
 cases hx<;>simp only[]at he<;>(try (cases he;done))
 all_goals
  rename_i b off len n' r o q cap hφ hc hq
  cases Kg:D7 y with
  | none=>simp[Kg]at he
  | some ly =>
   simp only[Kg]at he
   cases hb:H[b]? with
   | none=>simp[hb]at he
   | some z =>
    cases hK:iQ H ei.size (min ly len) y with
    | none=>cases z<;>simp[hb,hK]at he
    | some new =>
     cases z<;>simp only[hb,hK]at he<;>(try (cases he;done))
     split at he
     ·rename_i vG
      simp only[Option.some.injEq,Prod.mk.injEq]at he
      exact key b off len n' r o q cap hφ hc hq rfl ly Kg _ new hb hK vG he.1.symm he.2.symm
     ·cases he
theorem ED {R:ax}{n:Nat}{ps:List (Nat×X)}{pv:List (Nat×Value)}(hv:PV g w R ps pv):∀(es fs:List (List T)) (cells:Array Value),jU n es R ps=some fs→(∀c∈es,c.length=n)→bL g w es.flatten cells.toList→cI es.flatten →
  ∃dg,Instr.fill (fun i=>some (i*n,n)) cells pv=some dg∧bL g w fs.flatten dg.toList∧cI fs.flatten∧(∀c∈fs,c.length=n)∧fs.length=es.length:=by
 induction hv with
 | nil =>
  intro es fs cells he hn hz ho
  simp[jU]at he;subst he
  exact⟨cells,rfl,hz,ho,hn,rfl⟩
 | @cons i x v ps pv TB _ ih =>
  intro es fs cells he hn hz ho
  simp only[jU]at he
  cases hc:(x.ev R).cells? with
  | none=>simp[hc]at he
  | some c =>
   simp only[hc]at he
   split at he
   ·rename_i cM
    obtain⟨mM,hi⟩:=cM
    obtain⟨Jj,TC⟩:=jV TB hc
    have bg:v.cells.size=n:=by have:=Jj.1;simp at this;omega
    have ti:=gQ es hn
    have xI:es.flatten.length=cells.size:=by have:=hz.1;simpa using this
    have hle:i*n+n≤cells.size:=by
     rw[←xI,ti,←Nat.succ_mul];exact Nat.mul_le_mul_right _ hi
    have bN:=pD bg hle
    have l8:=l6 es i c hn hi
    have qR:bL g w (es.set i c).flatten (v.cells.zipIdx.foldl (fun (cs:Array Value) (x:Value×Nat)=>cs.setIfInBounds (i*n+x.2) x.1) cells).toList:=by
     rw[bN,l8]
     exact bL.append (bL.append (hz.take _) Jj) (hz.drop _)
    have nL:cI (es.set i c).flatten:=by
     rw[l8]
     intro t ht
     rcases List.mem_append.1 ht with ht|ht
     ·rcases List.mem_append.1 ht with ht|ht
      ·exact ho t (List.mem_of_mem_take ht)
      ·exact TC t ht
     ·exact ho t (List.mem_of_mem_drop ht)
    obtain⟨dg,k1,k2,k3,k4,k5⟩:=ih _ fs _ he (fun c' ir=>by
     rcases List.mem_or_eq_of_mem_set ir with h|h
     ·exact hn c' h
     ·rw[h];exact mM) qR nL
    refine⟨dg,?_,k2,k3,k4,by simpa using k5⟩
    simp only[Instr.fill]
    rw[if_neg]
    ·exact k1
    ·simp[bg];omega
   ·cases he
theorem Kh {ty elem:TypeId}{ei:TypeInfo}{zv:Value}{R:ax}{ps:List (Nat×X)}{pv:List (Nat×Value)}{z:List T}{len:Nat}{fs:List (List T)}(hu:P.underlying ty=some (.slice elem))(hi:P.info? elem=some ei)(hz:ei.zero=some zv)(Ez:fw zv.cells.toList=some z)
  (zH:z.length=ei.size) (bg:len*ei.size≤2^24) (h:SR w0 g H w) (hv:PV g w R ps pv) (he:jU z.length (List.replicate len z) R ps=some fs) :
  cq P w0 g H w (Instr.buildSlice ty len pv.toArray) (.aC H.length 0 len z.length) (H++[.cells fs.flatten]):=by
 obtain⟨CD,DT⟩:=dZ (g:=g) (w:=w) _ _ Ez
 have Zl:=ma CD zH len
 have Tz:=jX DT len
 rw[zH]at he
 obtain⟨dg,k1,k2,k3,k4,k5⟩:=ED hv _ fs ((Array.range (len*ei.size)).map (fun i=>zv.cells[i%zv.cells.size]!)) he (fun c hc=>by rw[List.eq_of_mem_replicate hc];exact zH) Zl Tz
 have hlen:fs.length=len:=by rw[k5];simp
 have ti:fs.flatten.length=len*ei.size:=by rw[gQ fs k4,hlen]
 have tH:dg.size=len*ei.size:=by have:=k2.1;simp only[Array.length_toList]at this;omega
 obtain⟨g',le,sr,fr,hφ⟩:=h.iH (c:=dg) (ty:=elem) (cs:=fs.flatten) (EB w) rfl (fun i t hi=>by
  obtain⟨v,a1,a2⟩:=k2.gM i t hi
  exact⟨k3 t (List.mem_of_getElem? hi),v,by simpa using a1,a2⟩)
 refine⟨.slice (some ⟨w.heap.size,0,none⟩) len len,_,g',?_,le,sr,?_,fr⟩
 ·have EC:¬len*ei.size>2^24:=by omega
  by_cases h0:len*ei.size=0
  ·have e0:((Array.range (len*ei.size)).map (fun i=>zv.cells[i%zv.cells.size]!))=((Array.range (len*ei.size)).map (fun i=>(#[]:Array Value)[i%(#[]:Array Value).size]!)):=by
    rw[h0];simp
   rw[e0]at k1
   simp only[Instr.buildSlice,Sem.run_bind,run_underlying hu,Result.andThen_ok,sizeOf,bu hi,Sem.run_pure,EC,if_false,h0,if_true]
   rw[h0]at k1
   simp at k1
   simp[k1,newRow]
  ·simp only[Instr.buildSlice,Sem.run_bind,run_underlying hu,Result.andThen_ok,sizeOf,bu hi,Sem.run_pure,EC,if_false,h0,zeroValue,hz]
   simp[k1,newRow]
 ·rw[zH]
  exact .aC (r:=w.heap.size) (o:=0) (off:=0) hφ (Nat.le_refl _) (by rw[tH];simp)
theorem Ki {sT xT elem rt:TypeId}{ei:TypeInfo}{zv:Value}{z:List T}{kq kn:IntKind}{x t:T}{vx:Value}{k:Nat}{H':af}(hu:P.underlying sT=some (.slice elem))(Kj:P.underlying xT=some (.int kn))(hi:P.info? elem=some ei)(hz:ei.zero=some zv)(Ez:fw zv.cells.toList=some z)
  (hb:ei.bytes≠0) (h:SR w0 g H w) (hx:VR g w x vx) (he:D8 H ei.size ei.bytes z x k=some (t,H')):cq P w0 g H w (Builtin.append_ #[sT,xT] rt #[vx,.int kq k]) t H':=by
 unfold D8 at he
 cases x<;>simp only[]at he<;>(try (cases he;done))
 rename_i b off len n' c
 cases hK:iQ H ei.size len (.eH b off len n' c)with
 | none=>simp[hK]at he
 | some es =>
  simp only[hK]at he
  split at he
  ·rename_i vG
   obtain⟨rfl,iA,TF,mM,zH,iT⟩:=vG
   simp only[Option.some.injEq,Prod.mk.injEq]at he
   obtain⟨rfl,rfl⟩:=he
   obtain⟨r,o,ly,cap,vs,rfl,Kg,a1,a2,a3,a4,a5⟩:=uq h hx hK
   cases Kg
   have oB:cap=c:=by cases hx;rfl
   subst oB
   obtain⟨CD,DT⟩:=dZ (g:=g) (w:=w) _ _ Ez
   have hold:(Builtin.firstCells ei.size len (.slice (some ⟨r,o,none⟩) len cap)).run P w.drew=.ok vs.toArray w.drew:=by
    have:=run_loadCells_list (P:=P) w.drew ⟨r,o,none⟩ vs (fun j v hj=>by rw[dA];exact a1 j v hj)
    rw[a3]at this
    simpa[Builtin.firstCells]using this
   have Ya:¬Builtin.nextslicecap (len+k) cap*ei.bytes>2^48:=A2 mM iT
   have hr:=iT
   simp only[db,decide_eq_true_eq]at hr
   have MJ:(len+k)*ei.bytes≤281474976710656:=Nat.le_trans (Nat.mul_le_mul_right _ (by omega)) hr
   have Zo:len+k≤281474976710656:=Nat.le_trans (Nat.le_mul_of_pos_right _ (by omega)) MJ
   have CF:k*ei.bytes≤281474976710656:=Nat.le_trans (Nat.mul_le_mul_right _ (by omega)) MJ
   have cF:=Go.Lib.run_append_grow_zeros (P:=P) w sT xT rt elem ei zv kq kn hu Kj hi hz (some ⟨r,o,none⟩) len cap vs hold k TF (by omega) mM (by omega) CF (by omega)
   have J6:zv.cells.toList.length=ei.size:=by have:=CD.1;omega
   have TG:zv.cells.size=ei.size:=by simpa using J6
   have Ey:bL g w (es.flatten++(List.replicate k z).flatten) (vs++(Builtin.zeroCells zv.cells k).toList):=by
    refine bL.append a2 ?_
    have:=ma CD zH k
    simpa[Builtin.zeroCells,TG]using this
   have eQ:=grownCap_ge w (len+k) cap elem
   generalize grownCap w (len+k) cap elem=nc at cF eQ
   have TH:cI (es.flatten++(List.replicate k z).flatten):=fun t ht=>by
    rcases List.mem_append.1 ht with ht|ht
    ·exact a4 t ht
    ·exact jX DT k t ht
   have bg:(vs.toArray++Builtin.zeroCells zv.cells k++Builtin.zeroCells zv.cells (nc-(len+k))).size=nc*ei.size:=by
    simp only[Array.size_append,l3,List.size_toArray,a3,TG]
    rw[←Nat.add_mul,←Nat.add_mul];congr 1;omega
   obtain⟨g',le,sr,fr,hφ⟩:=h.iH (c:=vs.toArray++Builtin.zeroCells zv.cells k++Builtin.zeroCells zv.cells (nc-(len+k))) (ty:=elem) (cs:=es.flatten++(List.replicate k z).flatten) (qS w) rfl (fun i t hi=>by
    obtain⟨v,b1,b2⟩:=Ey.gM i t hi
    refine⟨TH t (List.mem_of_getElem? hi),v,?_,b2⟩
    rw[List.getElem?_toArray]at b1
    have aq:=(List.getElem?_eq_some_iff.1 b1).1
    have e:(vs.toArray++Builtin.zeroCells zv.cells k++Builtin.zeroCells zv.cells (nc-(len+k))).toList=(vs++(Builtin.zeroCells zv.cells k).toList)++(Builtin.zeroCells zv.cells (nc-(len+k))).toList:=by simp
    rw[←Array.getElem?_toList,e,List.getElem?_append_left aq];exact b1)
   refine⟨_,_,g',cF,le,sr,?_,fr⟩
   exact .aC (r:=w.heap.size) (o:=0) (off:=0) hφ eQ (by rw[bg];simp)
  ·cases he
end
section
variable {P:Program} {w0 w:World} {g:Ctx} {H:af}
theorem tJ {params results:Array TypeId}(tS e:TypeId)(hp:params[0]?=some tS)(ht:P.underlying tS=some (.slice e))(size:Nat)(hz:(Go.sizeOf e).run P w=.ok size w)
  (a b:Addr) (la ca lb cb:Nat) (bF:a.block≠b.block) (tA tB:TypeId) (kA kB:Nat)
  (Zp:w.shape? a.block=some (tA,kA)) (X7:w.shape? b.block=some (tB,kB)) (Zq:kB≠0)
  (hfa:w.frozen? a=false) (hfe:w.frozen? { block:=a.block,off:=kA }=false) :
  (Extern.SlicesOverlaps.overlaps params results #[.slice (some a) la ca,.slice (some b) lb cb]).run P w=.ok (.bool false) w:=by
 have Ya:(a.block != b.block)=true:=by simpa using bF
 have OC:(a.block==b.block)=false:=by simpa using bF
 conv=>lhs;arg 2;whnf
 simp only[hp]
 by_cases h0:la=0∨lb=0∨size=0
 ·simp[run_underlying ht,hz,h0]
 ·cases kB with
  | zero=>exact absurd rfl Zq
  | succ kB =>
   simp[run_underlying ht,hz,h0,Ya,OC,frozen,noView,viewAt,mayBeOne,stringish,shape,Sem.run,Zp,X7,hfa,hfe]
theorem vH {params results:Array TypeId}(tS e:TypeId)(hp:params[0]?=some tS)(ht:P.underlying tS=some (.slice e))(size:Nat)(hz:(Go.sizeOf e).run P w=.ok size w)
  (a b:Addr) (la ca lb cb:Nat) (bF:a.block=b.block) (hd:la≠0→lb≠0→size≠0→¬(a.off<b.off+lb*size∧b.off<a.off+la*size)) :
  (Extern.SlicesOverlaps.overlaps params results #[.slice (some a) la ca,.slice (some b) lb cb]).run P w=.ok (.bool false) w:=by
 have Ya:(a.block != b.block)=false:=by simpa using bF
 have OC:(a.block==b.block)=true:=by simpa using bF
 conv=>lhs;arg 2;whnf
 simp only[hp]
 by_cases h0:la=0∨lb=0∨size=0
 ·simp[run_underlying ht,hz,h0]
 ·have h1:=hd (fun h=>h0 (.inl h)) (fun h=>h0 (.inr (.inl h))) (fun h=>h0 (.inr (.inr h)))
  simp[run_underlying ht,hz,h0,Ya,OC]
  intro aq
  have:¬b.off<a.off+la*size:=fun h=>h1 ⟨aq,h⟩
  omega
theorem oJ {params results:Array TypeId}(tS e:TypeId)(hp:params[0]?=some tS)(ht:P.underlying tS=some (.slice e))(size:Nat)(hz:(Go.sizeOf e).run P w=.ok size w)
  (a b:Addr) (la ca lb cb:Nat) (h0:la=0∨size=0) :
  (Extern.SlicesOverlaps.overlaps params results #[.slice (some a) la ca,.slice (some b) lb cb]).run P w=.ok (.bool false) w:=by
 have h0:la=0∨lb=0∨size=0:=by rcases h0 with h|h;exact .inl h;exact .inr (.inr h)
 conv=>lhs;arg 2;whnf
 simp only[hp]
 simp[run_underlying ht,hz,h0]
theorem xJ {r j:Nat}(h:(w.cell? ⟨r,j,none⟩).isSome=true):∃t k,w.shape? r=some (t,k)∧k≠0:=by
 unfold World.cell? at h
 unfold World.shape?
 cases hr:w.heap[r]? with
 | none=>simp[hr]at h
 | some x =>
  cases x<;>simp[hr]at h ⊢
  rename_i c t f
  exact⟨_,_,⟨rfl,rfl⟩,by omega⟩
theorem Kk {params results:Array TypeId}{tS e:TypeId}{ei:TypeInfo}{x y t:T}{vx vy:Value}{H':af}(hp:params[0]?=some tS)(ht:P.underlying tS=some (.slice e))(hi:P.info? e=some ei)
  (h:SR w0 g H w) (hx:VR g w x vx) (hy:VR g w y vy) (he:Co H ei.size x y=some (t,H')):cq P w0 g H w (Extern.SlicesOverlaps.overlaps params results #[vx,vy]) t H':=by
 have hz:(Go.sizeOf e).run P w=.ok ei.size w:=by simp[sizeOf,bu hi]
 unfold Co at he
 cases hx<;>(try (simp only[reduceCtorEq]at he;done))<;>(try (cases he;done))
 rename_i bv Km lv n1 r' o' q' vB lO ir TA
 cases hy<;>(try (simp only[reduceCtorEq]at he;done))<;>(try (cases he;done))
 rename_i b off len n2 r o q c hφ hc hq
 cases Yb:H[bv]? with
 | none=>simp[Yb]at he
 | some zv =>
  cases hb:H[b]? with
  | none=>cases zv<;>simp[Yb,hb]at he
  | some z =>
   cases zv<;>cases z<;>simp only[Yb,hb]at he<;>(try (cases he;done))
   rename_i csv cs
   split at he
   ·rename_i vG
    obtain⟨bF,rfl,DU,OD⟩:=vG
    simp only[Option.some.injEq,Prod.mk.injEq]at he
    obtain⟨rfl,rfl⟩:=he
    subst DU
    obtain⟨a1,a2,a3⟩:=h.eG _ _ Yb r' o' q' lO
    obtain⟨b1,b2,b3⟩:=h.eG _ _ hb r o q hφ
    by_cases hr:r'=r
    ·subst hr
     refine cq.same h (vH tS e hp ht _ hz _ _ _ _ _ _ rfl fun hl hl2 hs hh=>?_) (.bool _)
     obtain⟨h1,h2⟩:=hh
     simp only at h1 h2
     have m1:lv*ei.size≤vB*ei.size:=Nat.mul_le_mul_right _ ir
     have m2:len*ei.size≤c*ei.size:=Nat.mul_le_mul_right _ hc
     have p1:0<lv*ei.size:=Nat.mul_pos (by omega) (by omega)
     have p2:0<len*ei.size:=Nat.mul_pos (by omega) (by omega)
     have k1:=(a2 (max (o'+Km) (o+off)) (by omega) (by omega)).1
     have k2:=(b2 (max (o'+Km) (o+off)) (by omega) (by omega)).1
     rw[k1]at k2;cases k2;exact bF rfl
    ·by_cases TI:lv=0
     ·subst TI
      refine cq.same h ?_ (.bool _)
      exact oJ tS e hp ht _ hz _ _ _ _ _ _ (.inl rfl)
     ·by_cases hs:ei.size=0
      ·refine cq.same h ?_ (.bool _)
       exact oJ tS e hp ht _ hz _ _ _ _ _ _ (.inr hs)
      ·have m1:lv*ei.size≤vB*ei.size:=Nat.mul_le_mul_right _ ir
       have p1:0<lv*ei.size:=Nat.mul_pos (by omega) (by omega)
       have rJ:=a2 (o'+Km) (by omega) (by omega)
       have hcb:=b2 o (Nat.le_refl _) (by omega)
       have jr:w0.heap.size≤r':=by
        rcases Nat.lt_or_ge r' w0.heap.size with aq|eQ
        ·have:=h.Cv r' (o'+Km) aq;rw[rJ.1]at this;cases this
        ·exact eQ
       obtain⟨tA,kA,Zp,_⟩:=xJ rJ.2.2
       obtain⟨tB,kB,X7,Zq⟩:=xJ hcb.2.2
       exact cq.same h (tJ tS e hp ht _ hz _ _ _ _ _ _ hr tA tB kA kB Zp X7 Zq (h.qN r' _ jr) (h.qN r' _ jr)) (.bool _)
   ·cases he
end
end Go.Rmp
end

section
namespace Go.Rmp
open Go.ChangeMaps (setBlock)
section
variable {P:Program} {w0 w:World} {g:Ctx} {H:af}
theorem SR.TJ {w':World}(h:SR w0 g H w)(tr:Tr w w' iu jz)(hz:w'.heap.size=w.heap.size):SR w0 g H w'∧Le g w g w':=by
 have le:Le g w g w':=Le.iR tr (fun _ _ h=>h) (fun _ _ h=>h) (fun _ _ _ h=>h) (fun _ _ hs=>hs.elim)
 refine⟨?_,le⟩
 exact h.step (fun _=>False) tr le (fun _ _ hs=>hs.elim) (fun _ hm=>hm.elim) (fun r o hr=>h.fresh r o (by omega)) h.tF h.jH (fun _ _ _=>rfl) (fun _ _ _ _=>⟨id,id⟩) (fun _ _ _ _=>rfl) (fun b x hx=>.inl ⟨id,hx⟩)
theorem OE {b:Nat}{vm:Value}{es:List (T×T)}(h:SR w0 g H w)(hm:VR g w (.map b) vm)(jm:ik H (.map b)=some es) :
  ∃r o q,vm=.map (some r)∧g.φ b=some (r,o,q)∧g.κ r 0=.mut b∧b<H.length∧∃ay clock,w.heap[r]?=some (.map ay clock)∧eI g w es ay∧fQ ay clock:=by
 cases hm with
 | @map _ r o q hφ =>
  simp only[ik]at jm
  cases hb:H[b]? with
  | none=>simp[hb]at jm
  | some y =>
   have kH:=(List.getElem?_eq_some_iff.1 hb).1
   cases y<;>simp[hb]at jm
   ·subst jm
    obtain⟨h1,ay,c,h2,h3,h4⟩:=h.eG b _ hb r o q hφ
    exact⟨r,o,q,rfl,hφ,h1,kH,ay,c,h2,h3,h4⟩
   ·subst jm
    obtain⟨r2,o',q',lO,h1,ay,c,h2,h3,h4,_⟩:=h.eG b _ hb
    rw[hφ]at lO;cases lO
    exact⟨r,o,q,rfl,hφ,h1,kH,ay,c,h2,h3,h4⟩
theorem Kn {ty key elem:TypeId}{b:Nat}{vm:Value}{es:List (T×T)}(hu:P.underlying ty=some (.map key elem))(h:SR w0 g H w)(hm:VR g w (.map b) vm)(jm:ik H (.map b)=some es) :
  cq P w0 g H w (Instr.range ty vm) (.ptr H.length 0) (H.set b (.da es (List.range es.length) H.length none)++[.vw b]):=by
 obtain⟨r,o,q,rfl,hφ,hk,kH,ay,c,h2,h3,h4⟩:=OE h hm jm
 have Zr:fR (.mapIter (some r) c #[] c)=true:=rfl
 have xG:=Tr.alloc w (.mapIter (some r) c #[] c) (.inl Zr)
 have bF:∀r j ow,g.κ r j=ow→ow≠.free→r≠w.heap.size:=by rintro r j ow e hn rfl;exact hn (e▸h.fresh _ j (Nat.le_refl _))
 have Zs:=h.J0 (b:=H.length) (Nat.le_refl _)
 have Zt:=bF r 0 _ hk (by simp)
 have le:Le g w ((g.row w.heap.size fun _=>.mut b).at H.length (w.heap.size,0,0)) (w.alloc (.mapIter (some r) c #[] c)):=Le.iR xG
  (fun b' x hx=>by simp only[Ctx.at,Ctx.row];split;rename_i e;subst e;rw[Zs]at hx;simp at hx;exact hx)
  (fun r o hk=>by simp only[Ctx.row,Ctx.at];rw[if_neg (bF r o _ hk (by simp))];exact hk) (fun _ _ _ h=>h) (fun _ _ hs=>hs.elim)
 have aq:r<w.heap.size:=(Array.getElem?_eq_some_iff.1 h2).1
 refine⟨_,_,_,by simp[Instr.range,run_underlying hu,getObj,Sem.run,h2,newObj],le,?_,.ptr (r:=w.heap.size) (o:=0) (q:=0) (by simp[Ctx.at]),by simp,fun b' x a _ d=>?_⟩
 ·refine h.step (fun b'=>b'=b∨b'=H.length) xG le (fun _ _ hs=>hs.elim) (fun _ hm=>hm.elim) (fun r o hr=>?_) (fun b' x hx=>?_) (fun t e x hx=>by have:=h.jH t e x hx;simp;omega) (fun b' _ jN=>?_) (fun r j b' jN=>?_) (fun _ _ _ _=>rfl) (fun b' x hx=>?_)
  ·simp at hr
   simp only[Ctx.row,Ctx.at];rw[if_neg (by omega)];exact h.fresh r o (by omega)
  ·simp only[Ctx.at,Ctx.row]at hx
   split at hx
   ·rename_i e;subst e;simp
   ·have:=h.tF b' x hx;simp;omega
  ·simp only[Ctx.at,Ctx.row];rw[if_neg (fun e=>jN (.inr e))]
  ·constructor<;>intro e<;>simp only[Ctx.row,Ctx.at]<;>rw[if_neg (bF r j _ e (by simp))]<;>exact e
  ·by_cases e:b'=H.length
   ·subst e
    rw[List.getElem?_append_right (by simp)]at hx
    simp at hx;subst hx
    exact .inr trivial
   ·have jN:b'<H.length:=by
     have:=(List.getElem?_eq_some_iff.1 hx).1
     simp at this;omega
    rw[List.getElem?_append_left (by simpa using jN)]at hx
    rcases e9 kH hx with⟨rfl,rfl⟩|⟨hn,jW⟩
    ·refine .inr ⟨r,o,q,le.φ _ _ hφ,by simp only[Ctx.row,Ctx.at];rw[if_neg Zt];exact hk,ay,c,?_,h3.mono le,h4,w.heap.size,0,#[],by simp[Ctx.at],by simp[Ctx.row,Ctx.at],World.alloc_heap_new w _,List.nodup_range,fun i=>?_,fun c hc=>by cases hc⟩
     ·show(w.heap.push _)[r]?=_
      rw[Array.getElem?_push,if_neg (by omega)];exact h2
     ·rw[List.mem_range,←h3.1]
      exact⟨fun hi=>⟨ay[i],Array.getElem?_eq_getElem hi,by simp⟩,fun ⟨m,hm,_⟩=>(Array.getElem?_eq_some_iff.1 hm).1⟩
    ·exact .inl ⟨fun hh=>hh.elim hn e,jW⟩
 ·have hl:=(List.getElem?_eq_some_iff.1 a).1
  refine⟨?_,by simp only[Ctx.at,Ctx.row];rw[if_neg (by omega)];exact d⟩
  rw[List.getElem?_append_left (by simpa using hl)]
  exact fT a (by rintro rfl;rw[hφ]at d;cases d)
theorem Ko {ty:TypeId}{b bi:Nat}{v:Value}{es:List (T×T)}{ix:List Nat}{cur:Option Nat}(h:SR w0 g H w)(hx:VR g w (.ptr bi 0) v)(hb:H[b]?=some (.da es ix bi cur)) :
  ∃t H',ov H b bi es ix t H'∧cq P w0 g H w (Instr.next v false ty) t H':=by
 have kH:b<H.length:=(List.getElem?_eq_some_iff.1 hb).1
 obtain⟨r,o,q,hφ,h1,ay,c,h2,h3,h4,ri,q',seen,h5,h6,h7,h8,h9,aG⟩:=h.eG b _ hb
 cases hx with
 | @ptr _ _ r2 o2 q2 A5 =>
  rw[h5]at A5;cases A5
  have av:∀y,Fr g H g (H.set b y):=fun y=>⟨by simp,fun b' x a _ d=>⟨fT a (by rintro rfl;rw[hφ]at d;cases d),d⟩⟩
  rcases run_next_at (P:=P) w ty ri r c c seen ay c h7 h2 h4.1 (Nat.le_refl _)with⟨hz,cF⟩|⟨e,he,w1,Sz,cF⟩
  ·have xE:ix=[]:=by
    refine List.eq_nil_iff_forall_not_mem.2 fun i hi=>?_
    obtain⟨m,hm,hn⟩:=(h9 i).1 hi
    have:m∈leftOf ay seen:=by
     simp only[leftOf,Array.mem_filter]
     exact⟨Array.mem_of_getElem? hm,by simpa using hn⟩
    rw[Array.eq_empty_of_size_eq_zero hz]at this
    simp at this
   refine⟨_,_,.inl ⟨xE,rfl,rfl⟩,.tuple #[.bool false],w,g,by simpa using cF,.refl _ _,?_,.bC rfl (fun i t v a b=>?_),av _⟩
   ·refine h.step (fun b'=>b'=b) (Tr.refl w) (.refl _ _) (fun _ _ hs=>hs.elim) (fun _ hm=>hm.elim) h.fresh (fun b' x hx=>by rw[List.length_set];exact h.tF b' x hx) (fun t e x hx=>by rw[List.length_set];exact h.jH t e x hx) (fun _ _ _=>rfl) (fun _ _ _ _=>⟨id,id⟩) (fun _ _ _ _=>rfl) (fun b' x hx=>?_)
    rcases e9 kH hx with⟨rfl,rfl⟩|⟨hn,jW⟩
    ·refine .inr fun r' o' q' lO=>?_
     rw[hφ]at lO;cases lO
     exact⟨h1,ay,c,h2,h3,h4⟩
    ·exact .inl ⟨hn,jW⟩
   ·cases i with
    | zero=>simp at a b;subst a;subst b;exact .bool _
    | succ i=>simp at a
  ·have EE:e∈ay∧e.born∉seen:=by
    have:e∈leftOf ay seen:=by simpa using he
    simp only[leftOf,Array.mem_filter]at this
    exact⟨this.1,by simpa using this.2⟩
   obtain⟨i,hi,tM⟩:=Array.getElem_of_mem EE.1
   have gR:ay[i]?=some e:=by rw[Array.getElem?_eq_getElem hi,tM]
   have mc:i<es.length:=by rw[←h3.1];exact hi
   have xE:i∈ix:=(h9 i).2 ⟨e,gR,EE.2⟩
   have gw:=h3.2 i es[i] e (List.getElem?_eq_getElem mc) gR
   have trd:Tr w w1 iu jz:=by rcases Sz with rfl|rfl;exact Tr.refl _;exact Tr.drew _
   obtain⟨OF,dG⟩:=h.TJ trd (by rcases Sz with rfl|rfl<;>rfl)
   have Yc:w1.heap[ri]?=some (.mapIter (some r) c seen c):=by rcases Sz with rfl|rfl<;>exact h7
   have Kq:w1.heap[r]?=some (.map ay c):=by rcases Sz with rfl|rfl<;>exact h2
   have tr:Tr w1 (World.cu w1 ri (.mapIter (some r) c (seen.push e.born) c)) iu (fun r'=>r'=ri):=Tr.zE w1 ri rfl rfl Yc
   have le:Le g w1 g (World.cu w1 ri (.mapIter (some r) c (seen.push e.born) c)):=Le.iR tr (fun _ _ h=>h) (fun _ _ h=>h) (fun _ _ _ h=>h) (fun _ _ hs=>hs.elim)
   have hrr:r≠ri:=by rintro rfl;rw[Kq]at Yc;cases Yc
   refine⟨_,_,.inr ⟨i,es[i],xE,List.getElem?_eq_getElem mc,rfl,rfl⟩,.tuple #[.bool true,e.key,e.val],_,g,by simpa[setBlock,World.cu]using cF,dG.trans le,?_,.bC rfl (fun i t v a b=>?_),av _⟩
   ·show SR w0 g _ (World.cu w1 ri (.mapIter (some r) c (seen.push e.born) c))
    refine OF.step (fun b'=>b'=b) tr le (fun _ _ hs=>hs.elim) (fun r' hm=>⟨b,by rw[hm];exact h6,rfl⟩) (fun r' j pn=>OF.fresh r' j (by simpa[World.cu]using pn)) (fun b' x hx=>by rw[List.length_set];exact h.tF b' x hx) (fun t e x hx=>by rw[List.length_set];exact h.jH t e x hx) (fun _ _ _=>rfl) (fun _ _ _ _=>⟨id,id⟩) (fun _ _ _ _=>rfl) (fun b' x hx=>?_)
    rcases e9 kH hx with⟨rfl,rfl⟩|⟨hn,jW⟩
    ·refine .inr ⟨r,o,q,hφ,h1,ay,c,?_,h3.mono (dG.trans le),h4,ri,q',seen.push e.born,h5,h6,rC _ _ (Array.getElem?_eq_some_iff.1 Yc).1,h8.erase _,fun j=>?_,fun c' ir=>?_⟩
     ·rw[rB _ _ hrr];exact Kq
     ·rw[h8.mem_erase_iff,h9 j]
      constructor
      ·rintro⟨TK,m,hm,hn⟩
       refine⟨m,hm,fun iI=>?_⟩
       rcases Array.mem_push.1 iI with iI|iI
       ·exact hn iI
       ·apply TK
        have hj:=(Array.getElem?_eq_some_iff.1 hm).1
        have fH:=h4.2
        have e1:(ay.toList.map (·.born))[j]?=some m.born:=by simp[hm]
        have e2:(ay.toList.map (·.born))[i]?=some m.born:=by simp[gR,iI]
        have SA:j<(ay.toList.map (·.born)).length:=by simpa using hj
        exact(List.getElem?_inj SA fH).1 (e1.trans e2.symm)
      ·rintro⟨m,hm,hn⟩
       refine⟨fun TK=>?_,m,hm,fun iI=>hn (Array.mem_push.2 (.inl iI))⟩
       subst TK
       rw[gR]at hm;cases hm
       exact hn (Array.mem_push.2 (.inr rfl))
     ·cases ir
      exact⟨e,gR,by simp⟩
    ·exact .inl ⟨hn,jW⟩
   ·have Oq:=gw.1.mono (dG.trans le)
    have Ot:=gw.2.mono (dG.trans le)
    match i,a,b with
    | 0,a,b=>simp at a b;subst a;subst b;exact .bool _
    | 1,a,b=>simp at a b;subst a;subst b;exact Oq
    | 2,a,b=>simp at a b;subst a;subst b;exact Ot
    | i+3,a,b=>simp at a
theorem Kr {b bi c:Nat}{v:Value}{es:List (T×T)}{ix:List Nat}{e:T×T}(h:SR w0 g H w)(hx:VR g w (.ptr bi 0) v)(hb:H[b]?=some (.da es ix bi (some c)))(he:es[c]?=some e) :
  cq P w0 g H w (Instr.entry v) (.bC [e.1,e.2]) H:=by
 obtain⟨r,o,q,hφ,h1,ay,cl,h2,h3,h4,ri,q',seen,h5,h6,h7,h8,h9,aG⟩:=h.eG b _ hb
 cases hx with
 | @ptr _ _ r2 o2 q2 A5 =>
  rw[h5]at A5;cases A5
  obtain⟨m,hm,hs⟩:=aG c rfl
  have gw:=h3.2 c e m he hm
  have Ks:m∈ay.toList:=by have:=Array.mem_of_getElem? hm;simpa using this
  have hf:ay.find? (·.born==m.born)=some m:=by rw[←Array.find?_toList];exact find_born m ay.toList h4.2 Ks
  refine cq.same h (v:=.tuple #[m.key,m.val]) ?_ (.bC rfl fun i t v a b=>?_)
  ·simp[Instr.entry,getObj,Sem.run,h7,h2,hs,hf]
  ·match i,a,b with
   | 0,a,b=>simp at a b;subst a;subst b;exact gw.1
   | 1,a,b=>simp at a b;subst a;subst b;exact gw.2
   | i+2,a,b=>simp at a
theorem Kt {ty rt elem:TypeId}{ei:TypeInfo}{zv:Value}{z:List T}{v:Value}{b off len:Nat}{cs:List T}(hu:P.underlying ty=some (.slice elem))(hi:P.info? elem=some ei)(hz:ei.zero=some zv)(Ez:fw zv.cells.toList=some z)
  (h:SR w0 g H w) (hx:VR g w (.aC b off len ei.size) v) (hb:H[b]?=some (.cells cs)) (xI:z.length=ei.size) (hle:off+len*ei.size≤cs.length) :
  cq P w0 g H w (Builtin.clear_ #[ty] rt #[v]) (.bC []) (H.set b (.cells (cs.take off++(List.replicate len z).flatten++cs.drop (off+len*ei.size)))):=by
 cases hx with
 | @aC _ _ _ _ r o q cap hφ hc hq =>
  obtain⟨h1,h2,h3⟩:=h.eG b _ hb r o q hφ
  obtain⟨CD,DT⟩:=dZ (g:=g) (w:=w) _ _ Ez
  have gw:=ma CD xI len
  have SB:=jX DT len
  have hlen:(List.replicate len z).flatten.length=len*ei.size:=by simp[List.length_flatten,xI]
  have J6:zv.cells.size=ei.size:=by have:=CD.1;simp at this;omega
  have OG:bL g w (List.replicate len z).flatten (Builtin.zeroCells zv.cells len).toList:=by
   simpa[Builtin.zeroCells,J6]using gw
  obtain⟨le,sr⟩:=h.store hb hφ (by rw[hlen];exact hle) OG SB
  rw[hlen]at sr
  refine⟨.tuple #[],_,g,?_,le,sr,.bC rfl (by simp),by simp,fun b' y' a _ d=>⟨fT a (by rintro rfl;rw[hφ]at d;cases d),d⟩⟩
  have hl:=OG.1
  rw[hlen]at hl
  cases len with
  | zero =>
   have e:(Builtin.zeroCells zv.cells 0).toList=[]:=List.eq_nil_of_length_eq_zero (by rw[←hl];simp)
   rw[e]
   simp[Builtin.clear_,run_underlying hu,World.setCells]
  | succ len =>
   have cF:=run_storeCells_cells (P:=P) r (o+off) (Builtin.zeroCells zv.cells (len+1)).toList 0 w (fun j hj=>(h2 _ (by omega) (by omega)).2.2) (fun j hj=>(h2 _ (by omega) (by omega)).2.1) (OG.jx SB)
   have hzr:(zeroValue elem).run P w=.ok zv w:=by simp[zeroValue,bu hi,hz]
   simp only[Nat.add_zero]at cF
   simp[Builtin.clear_,run_underlying hu,hzr,cF]
theorem SR.shrink {b:Nat}{cs:List T}(k:Nat)(h:SR w0 g H w)(hb:H[b]?=some (.cells cs))(hφ:∃x,g.φ b=some x):SR w0 g (H.set b (.cells (cs.take k))) w∧Fr g H g (H.set b (.cells (cs.take k))):=by
 have kH:b<H.length:=(List.getElem?_eq_some_iff.1 hb).1
 obtain⟨y,hy⟩:=hφ
 refine⟨?_,by simp,fun b' x a _ d=>⟨fT a (by rintro rfl;rw[hy]at d;cases d),d⟩⟩
 refine h.step (fun b'=>b'=b) (Tr.refl w) (.refl _ _) (fun _ _ hs=>hs.elim) (fun _ hm=>hm.elim) h.fresh (fun b' x hx=>by rw[List.length_set];exact h.tF b' x hx) (fun t e x hx=>by rw[List.length_set];exact h.jH t e x hx) (fun _ _ _=>rfl) (fun _ _ _ _=>⟨id,id⟩) (fun _ _ _ _=>rfl) (fun b' x hx=>?_)
 rcases e9 kH hx with⟨rfl,rfl⟩|⟨hn,jW⟩
 ·refine .inr fun r o q hφ=>?_
  obtain⟨h1,h2,h3⟩:=h.eG b' _ hb r o q hφ
  refine⟨by simp;omega,h2,fun i t hi=>h3 i t ?_⟩
  rw[List.getElem?_take]at hi
  split at hi
  ·exact hi
  ·cases hi
 ·exact .inl ⟨hn,jW⟩
end
end Go.Rmp
end

section
namespace Go.Rmp
def aS:Operand→Option X
 | .tmp t=>some (.r t)
 | .const v=>(nJ v).map .c
 | .func f=>some (.c (.fn f []))
 | .global _=>none
def gx:List Operand→Option (List X)
 | []=>some []
 | x :: xs=>match aS x,gx xs with
  | some y,some ys=>some (y :: ys)
  | _,_=>none
def kM:Option Operand→Option (Option X)
 | none=>some none
 | some x=>(aS x).map some
def nO:List (Nat×Operand)→Option (List (Nat×X))
 | []=>some []
 | (i,x) :: xs=>match aS x,nO xs with
  | some y,some ys=>some ((i,y) :: ys)
  | _,_=>none
def ty1:TypeDesc→Option xf
 | .int _=>some .int
 | .string=>some .str
 | .bool=>some .bool
 | _=>none
def kinds (P:Program):List Field→Option (List xf)
 | []=>some []
 | f :: fs=>match (P.underlying f.type).bind ty1,kinds P fs with
  | some k,some ks=>some (k :: ks)
  | _,_=>none
def vI (P:Program)(ty:TypeId):Option KT :=
 match P.underlying ty with
 | some (.struct fs)=>(kinds P fs.toList).map .st
 | some d=>(ty1 d).map .sc
 | none=>none
def zeroOf (P:Program)(ty:TypeId):Option (List T) :=
 match P.info? ty with
 | some i=>match i.zero with
  | some zv=>fw zv.cells.toList
  | none=>none
 | none=>none
def isEq:BinOp→Option Bool
 | .eql=>some false
 | .neq=>some true
 | _=>none
def cls:TypeDesc→Option JF
 | .pointer _=>some .ptr
 | .slice _=>some .slice
 | .map _ _=>some .map
 | .func _ _ _=>some .func
 | _=>none
def EF (P:Program)(op:BinOp)(ty:TypeId)(x y:X):Option Bo :=
 match P.underlying ty with
 | some (.int _)|some .string=>some (.bin op x y)
 | some .bool=>(isEq op).map fun n=>.beq n x y
 | some (.struct fs)=>match isEq op,kinds P fs.toList with
  | some n,some ks=>if flat P fs.toList 0 ks&&!P.stoodInHeld ty&&!P.eqGuardType P.depth ty then some (.eqs n ks x y)else none
  | _,_=>none
 | some d=>match isEq op,cls d with
  | some n,some c=>some (.nH n c x y)
  | _,_=>none
 | none=>none
def ur (P:Program)(ty:TypeId)(x:X):Option Bo :=
 match P.underlying ty,P.info? ty with
 | some d,some i=>some (.ld (if eM d then i.size else 1) (eM d) x)
 | _,_=>none
def nP (P:Program)(ty:TypeId)(x:X)(f:Nat)(ad:Bool):Option Bo :=
 match P.underlying ty with
 | some (.struct fs)=>match fs[f]? with
  | some f=>match P.underlying f.type,P.info? f.type with
   | some d,some i=>if ad then(if i.size=0 then none else some (.fL f.offset x))else some (.Tf f.offset i.size (eM d) x)
   | _,_=>none
  | none=>none
 | _=>none
def zJ (P:Program)(ty:TypeId)(x i:X)(ad:Bool):Option Bo :=
 match P.underlying ty,ad with
 | some (.slice e),true=>(P.info? e).map fun ei=>.eF ei.size x i
 | some (.array n e),true=>(P.info? e).map fun ei=>.N7 n ei.size x i
 | some .string,false=>some (.Tg x i)
 | some (.array n e),false=>match P.info? e,P.underlying e with
  | some ei,some d=>some (.X5 n ei.size (eM d) x i)
  | _,_=>none
 | _,_=>none
def pE (P:Program)(ty:TypeId)(x:X)(lo hi mx:Option X):Option Bo :=
 match P.underlying ty with
 | some .string=>if mx.isSome then none else some (.Th x lo hi)
 | some (.slice e)=>match P.info? e with
  | some ei=>if mx.isSome&&hi.isNone then none else some (.gH ei.size x lo hi mx)
  | none=>none
 | _=>none
def uu (P:Program)(src dst:TypeId)(x:X):Option Bo :=
 match P.underlying src,P.underlying dst with
 | some (.int _),some (.int k)=>some (.fG k x)
 | some .string,some .string=>none
 | some (.slice e),some .string=>match P.underlying e with
  | some (.int .u8)=>some (.AO x)
  | _=>none
 | _,_=>none
def EG:TypeDesc→Bool
 | .int _=>false
 | _=>true
def mO (P:Program)(mu:Bool)(jy:List TypeId)(as:List X):Option Bo :=
 match jy,as with
 | [sT,xT],[x,y]=>match P.underlying sT,P.underlying xT with
  | some (.slice e),some d=>match P.info? e with
   | some ei=>match ei.zero with
    | some zv=>if EG d&&zv.cells.size==ei.size&&ei.bytes != 0 then some (.app ei.size ei.bytes mu x y)else none
    | none=>none
   | none=>none
  | _,_=>none
 | _,_=>none
def xK (P:Program)(jy:List TypeId)(as:List X):Option Bo :=
 match jy,as with
 | [sT,xT],[x,k]=>match P.underlying sT,P.underlying xT with
  | some (.slice e),some (.int _)=>match P.info? e,zeroOf P e with
   | some ei,some z=>if ei.bytes != 0 then some (.Ti ei.size ei.bytes z x k)else none
   | _,_=>none
  | _,_=>none
 | _,_=>none
def jY (P:Program)(mu:Bool)(b:Builtin)(jy:List TypeId)(as:List X):Option Bo :=
 match b,jy,as with
 | .append,jy,as=>match xK P jy as with
  | some b=>some b
  | none=>mO P mu jy as
 | .cap,[t],[x]=>match P.underlying t with
  | some (.slice _)=>some (.cap x)
  | _=>none
 | .copy,[dT,_],[x,y]=>match P.underlying dT with
  | some (.slice e)=>(P.info? e).map fun ei=>.Cl ei.size x y
  | _=>none
 | .len,[t],[x]=>match P.underlying t with
  | some .string=>some (.len .str x)
  | some (.slice _)=>some (.len .sl x)
  | some (.map _ _)=>some (.len .map x)
  | _=>none
 | .clear,[t],[x]=>match P.underlying t with
  | some (.slice e)=>match P.info? e,zeroOf P e with
   | some ei,some z=>some (.So ei.size z x)
   | _,_=>none
  | _=>none
 | .min,_,[x,y]=>some (.mn x y)
 | .max,_,[x,y]=>some (.mx x y)
 | .delete,[t,_],[m,k]=>match P.underlying t with
  | some (.map key _)=>match vI P key with
   | some kt=>if nK P key kt then some (.del kt m k)else none
   | none=>none
  | _=>none
 | _,_,_=>none
def zK (P:Program)(ty:TypeId)(m k:X):Option (Nat×KT×T) :=
 match P.underlying ty with
 | some (.map key e)=>match vI P key,P.info? e with
  | some kt,some ei=>match ei.zero with
   | some zv=>match nJ zv with
    | some z=>if nK P key kt then some (e,kt,z)else none
    | none=>none
   | none=>none
  | _,_=>none
 | _=>none
def xL (P:Program)(fs:List Field):Bool:=fs.all fun f=>(P.info? f.type).isSome
def pF (P:Program)(ty:TypeId)(ps:List (Nat×X)):Option Bo :=
 match P.underlying ty,zeroOf P ty with
 | some (.struct fs),some z=>if xL P fs.toList&&ps.all (fun p=>p.1<fs.size)then
   some (.build z (ps.map fun p=>((((placesOf P fs.toList)[p.1]?).getD (0,0)).1,(((placesOf P fs.toList)[p.1]?).getD (0,0)).2,p.2)))else none
 | _,_=>none
def CG (P:Program)(mu:Bool)(ty:TypeId)(n:Nat)(ps:List (Nat×X)):Option Bo :=
 match P.underlying ty with
 | some (.slice e)=>match P.info? e,zeroOf P e with
  | some ei,some z=>if z.length==ei.size&&decide (n*ei.size≤16777216)then some (if mu then .Sp n z ps else .mJ n z ps)else none
  | _,_=>none
 | _=>none
def CH (P:Program)(mu:Bool)(ty:TypeId)(l c:X):Option Bo :=
 match P.underlying ty with
 | some (.slice e)=>match P.info? e,zeroOf P e with
  | some ei,some z=>if z.length==ei.size&&ei.size != 0 then some (.Zb mu ei.bytes z l c)else none
  | _,_=>none
 | _=>none
def MK (n:String):Bool:=(Extern.allGenericRows.lookup n).isNone&&(Extern.allTypedRows.lookup n).isNone&&(Extern.allRows.lookup n).isNone
def A6 (P:Program)(f:FuncId):Option Nat :=
 match P.funcs[f]? with
 | some fn=>match fn.params[0]? with
  | some t=>match P.underlying t with
   | some (.slice e)=>match P.info? e with
    | some ei=>if fn.name != "runtime.NumGoroutine"&&fn.body.isNone&&(Extern.findNext fn).isNone&&fn.origin=="slices.overlaps"&&MK fn.name then some ei.size else none
    | none=>none
   | _=>none
  | none=>none
 | none=>none
def bO (P:Program)(mu:Bool):Op→Option Bo
 | .move x | .assign x=>(aS x).map .ar
 | .pick c a b=>match aS c,aS a,aS b with
  | some c,some a,some b=>some (.pick c a b)
  | _,_,_=>none
 | .binOp op ty x y _=>match aS x,aS y with
  | some x,some y=>EF P op ty x y
  | _,_=>none
 | .unOp op _ x=>(aS x).map (.un op)
 | .convert s d x=>(aS x).bind (uu P s d)
 | .alloc ty=>(zeroOf P ty).map .alloc
 | .box _ x=>(aS x).map .box
 | .build ty ps=>(nO ps.toList).bind (pF P ty)
 | .buildSlice ty n ps=>(nO ps.toList).bind (CG P mu ty n)
 | .load ty x=>(aS x).bind (ur P ty)
 | .store ty a v=>match P.info? ty,aS a,aS v with
  | some i,some a,some v=>some (.st i.size a v)
  | _,_,_=>none
 | .fieldAddr ty x f=>(aS x).bind fun x=>nP P ty x f true
 | .field ty x f=>(aS x).bind fun x=>nP P ty x f false
 | .indexAddr ty x i=>match aS x,aS i with
  | some x,some i=>zJ P ty x i true
  | _,_=>none
 | .index ty x i=>match aS x,aS i with
  | some x,some i=>zJ P ty x i false
  | _,_=>none
 | .slice ty x lo hi mx=>match aS x,kM lo,kM hi,kM mx with
  | some x,some lo,some hi,some mx=>pE P ty x lo hi mx
  | _,_,_,_=>none
 | .makeMap _ none=>some .AP
 | .lookup ty m k ok=>match aS m,aS k with
  | some m,some k=>(zK P ty m k).map fun (_,kt,z)=>.om kt z ok m k
  | _,_=>none
 | .mapUpdate ty m k v | .insert ty m k v=>match aS m,aS k,aS v with
  | some m,some k,some v=>(zK P ty m k).map fun (_,kt,_)=>.AQ kt m k v
  | _,_,_=>none
 | .makeSlice ty l c=>match aS l,aS c with
  | some l,some c=>CH P mu ty l c
  | _,_=>none
 | .makeFunc (.func f) first lR=>if first.size=0 then(gx lR.toList).map (.JG f)else none
 | .extract x i=>(aS x).map (.ext i)
 | .nilCheck x=>(aS x).map .lS
 | .range ty m=>match P.underlying ty with
  | some (.map _ _)=>(aS m).map .N8
  | _=>none
 | .next it false=>(aS it).map .qM
 | .entry it=>(aS it).map .N9
 | .call { callee:=.value (.func f),args,.. }=>match A6 P f,gx args.toList with
  | some n,some [x,y]=>some (.Sn n x y)
  | _,_=>none
 | .call { callee:=.builtin b,args,argTypes }=>(gx args.toList).bind (jY P mu b argTypes.toList)
 | _=>none
def Ku (P:Program)(w0:World)(g:Ctx)(H:af)(w:World)(s:Sem Next)(t:T)(H':af):Prop :=
 ∃nx v w' g',s.run P w=.ok nx w'∧(nx=.value v∨(nx=.skip∧v=undef))∧Le g w g' w'∧SR w0 g' H' w'∧VR g' w' t v∧Fr g H g' H'
theorem cq.oh {P:Program}{w0 w:World}{g:Ctx}{H H':af}{s:Sem Value}{t:T}(h:cq P w0 g H w s t H'):Ku P w0 g H w (do pure (.value (←s))) t H':=by
 obtain⟨v,w',g',h1,h2⟩:=h
 exact⟨.value v,v,w',g',by simp[h1],.inl rfl,h2⟩
theorem iU {g:Ctx}{w:World}:VR g w cf undef:=.bC rfl (by simp)
section
variable {P:Program} {w0 w:World} {g:Ctx} {H:af} {R:ax} {ρ:Operand→Value}
def RV (g:Ctx)(w:World)(R:ax)(ρ:Operand→Value)(xs:List Operand):Prop:=∀x∈xs,∀y,aS x=some y→VR g w (y.ev R) (ρ x)
theorem gy:∀(xs:List Operand) (ys:List X),gx xs=some ys→RV g w R ρ xs→bL g w (ys.map (X.ev R)) (xs.map ρ)
 | [],ys,h,_=>by simp[gx]at h;subst h;exact bL.nil
 | x :: xs,ys,h,hv=>by
  simp only[gx]at h
  cases h1:aS x with
  | none=>simp[h1]at h
  | some y =>
   cases h2:gx xs with
   | none=>simp[h1,h2]at h
   | some ys' =>
    simp[h1,h2]at h;subst h
    exact bL.cons (hv x (by simp) y h1) (gy xs ys' h2 (fun z hz=>hv z (by simp[hz])))
theorem pG:∀(ps:List (Nat×Operand)) (qs:List (Nat×X)),nO ps=some qs→RV g w R ρ (ps.map (·.2))→PV g w R qs (ps.map fun p=>(p.1,ρ p.2))
 | [],qs,h,_=>by simp[nO]at h;subst h;exact .nil
 | (i,x) :: ps,qs,h,hv=>by
  simp only[nO]at h
  cases h1:aS x with
  | none=>simp[h1]at h
  | some y =>
   cases h2:nO ps with
   | none=>simp[h1,h2]at h
   | some qs' =>
    simp[h1,h2]at h;subst h
    exact .cons (hv x (by simp) y h1) (pG ps qs' h2 (fun z hz=>hv z (by simp at hz ⊢;exact .inr hz)))
end
section
variable {P:Program} {w0 w:World} {g:Ctx} {H H':af} {R:ax} {ρ:Operand→Value} {t:T}
theorem Kv {op:BinOp}{ty:TypeId}{ox oy:Operand}{x y:X}{b:Bo}(hc:EF P op ty x y=some b)(h:SR w0 g H w)(hx:VR g w (x.ev R) (ρ ox))(hy:VR g w (y.ev R) (ρ oy))(he:au R H b=some (t,H')) :
  Ku P w0 g H w (do pure (Next.value (←(do eqGuard op ty ox oy (ρ ox) (ρ oy);binOp op ty (ρ ox) (ρ oy))))) t H':=by
 refine cq.oh ?_
 unfold EF at hc
 cases hu:P.underlying ty with
 | none=>simp[hu]at hc
 | some d =>
  rw[hu]at hc
  have heq:∀n,isEq op=some n→op=if n then .neq else .eql:=by
   intro n hn;cases op<;>simp[isEq]at hn<;>subst hn<;>rfl
  have bin:b=.bin op x y→cq P w0 g H w (do eqGuard op ty ox oy (ρ ox) (ρ oy);binOp op ty (ρ ox) (ρ oy)) t H':=by
   rintro rfl
   simp only[au,Option.map_eq_some_iff,Prod.mk.injEq]at he
   obtain⟨t',h1,rfl,rfl⟩:=he
   exact JK h hx hy h1
  have ref:(∃n c,isEq op=some n∧cls d=some c∧b=.nH n c x y)→cq P w0 g H w (do eqGuard op ty ox oy (ρ ox) (ρ oy);binOp op ty (ρ ox) (ρ oy)) t H':=by
   rintro⟨n,c,h1,h2,rfl⟩
   simp only[au,Option.map_eq_some_iff,Prod.mk.injEq]at he
   obtain⟨r,h3,rfl,rfl⟩:=he
   rw[heq n h1]
   exact JM hu (by cases d<;>simp[cls]at h2<;>subst h2<;>rfl) h hx hy h3
  have pI:(match isEq op,cls d with|some n,some c=>some (Bo.nH n c x y)|_,_=>none)=some b→(∃n c,isEq op=some n∧cls d=some c∧b=.nH n c x y):=by
   intro hh
   cases h1:isEq op with
   | none=>simp[h1]at hh
   | some n =>
    cases h2:cls d with
    | none=>simp[h1,h2]at hh
    | some c=>simp[h1,h2]at hh;exact⟨n,c,rfl,rfl,hh.symm⟩
  cases d with
  | int k=>simp at hc;exact bin hc.symm
  | string=>simp at hc;exact bin hc.symm
  | bool =>
   simp only[Option.map_eq_some_iff]at hc
   obtain⟨n,h1,rfl⟩:=hc
   simp only[au]at he
   rw[heq n h1]
   generalize x.ev R=tx at hx he
   generalize y.ev R=OH at hy he
   cases tx<;>cases OH<;>simp at he
   obtain⟨rfl,rfl⟩:=he
   exact JL hu h hx hy
  | struct fs =>
   cases h1:isEq op with
   | none=>simp[h1]at hc
   | some n =>
    cases h2:kinds P fs.toList with
    | none=>simp[h1,h2]at hc
    | some ks =>
     simp only[h1,h2]at hc
     split at hc
     ·rename_i cM
      simp only[Bool.and_eq_true,Bool.not_eq_true']at cM
      simp at hc;subst hc
      simp only[au]at he
      rw[heq n h1]
      generalize x.ev R=tx at hx he
      generalize y.ev R=OH at hy he
      cases tx<;>cases OH<;>(try simp only[reduceCtorEq]at he)
      split at he
      ·rename_i hk
       simp only[Option.map_eq_some_iff,Prod.mk.injEq]at he
       obtain⟨r,h3,rfl,rfl⟩:=he
       exact JN hu cM.1.1 cM.1.2 cM.2 h hx hy hk h3
      ·cases he
     ·cases hc
  | pointer _=>exact ref (pI hc)
  | slice _=>exact ref (pI hc)
  | map _ _=>exact ref (pI hc)
  | func _ _ _=>exact ref (pI hc)
  | invalid=>exact ref (pI hc)
  | float _=>exact ref (pI hc)
  | complex _=>exact ref (pI hc)
  | unsafePointer=>exact ref (pI hc)
  | array _ _=>exact ref (pI hc)
  | chan _ _=>exact ref (pI hc)
  | interface _=>exact ref (pI hc)
  | tuple _=>exact ref (pI hc)
  | named _ _=>exact ref (pI hc)
theorem EH {ty:TypeId}{v:Value}{x:X}{b:Bo}(hc:ur P ty x=some b)(h:SR w0 g H w)(hx:VR g w (x.ev R) v)(he:au R H b=some (t,H')):Ku P w0 g H w (do pure (Next.value (←Instr.loadAt ty v))) t H':=by
 refine cq.oh ?_
 unfold ur at hc
 cases hu:P.underlying ty with
 | none=>simp[hu]at hc
 | some d =>
  cases hi:P.info? ty with
  | none=>simp[hu,hi]at hc
  | some i =>
   simp only[hu,hi,Option.some.injEq]at hc
   subst hc
   simp only[au]at he
   cases hl:nu H (if eM d then i.size else 1) (x.ev R)with
   | none=>simp[hl]at he
   | some cs =>
    simp only[hl,Option.map_eq_some_iff,Prod.mk.injEq]at he
    obtain⟨t',h1,rfl,rfl⟩:=he
    exact Of hu hi rfl (fun e=>by rw[if_pos e]) h hx hl h1
theorem uv {ty:TypeId}{v:Value}{x:X}{f:Nat}{ad:Bool}{b:Bo}(hc:nP P ty x f ad=some b)(h:SR w0 g H w)(hx:VR g w (x.ev R) v)(he:au R H b=some (t,H')) :
  cq P w0 g H w (if ad then Instr.fieldAt ty v f else Instr.field ty v f) t H':=by
 unfold nP at hc
 cases hu:P.underlying ty with
 | none=>simp[hu]at hc
 | some d =>
  cases d<;>simp only[hu]at hc<;>(try (cases hc;done))
  rename_i fs
  cases hf:fs[f]? with
  | none=>simp[hf]at hc
  | some fl =>
   simp only[hf]at hc
   cases hd:P.underlying fl.type with
   | none=>simp[hd]at hc
   | some d =>
    cases hi:P.info? fl.type with
    | none=>simp[hd,hi]at hc
    | some i =>
     simp only[hd,hi]at hc
     cases ad with
     | true =>
      simp only[if_true]at hc
      split at hc
      ·cases hc
      ·rename_i hz
       simp at hc;subst hc
       simp only[au]at he
       simp only[Option.map_eq_some_iff,Prod.mk.injEq]at he
       obtain⟨t',h1,rfl,rfl⟩:=he
       exact JR hu hf hi hz h hx h1
     | false =>
      simp only[Bool.false_eq_true,if_false,Option.some.injEq]at hc
      subst hc
      simp only[au]at he
      generalize x.ev R=tx at hx he
      cases tx<;>(try simp only[reduceCtorEq]at he)
      rename_i cs
      split at he
      ·rename_i hle
       simp only[Option.map_eq_some_iff,Prod.mk.injEq]at he
       obtain⟨t',h1,rfl,rfl⟩:=he
       exact JS hu hf hd hi rfl h hx hle h1
      ·cases he
theorem A7 {ty:TypeId}{v vi:Value}{x i:X}{ad:Bool}{b:Bo}(hc:zJ P ty x i ad=some b)(h:SR w0 g H w)(hx:VR g w (x.ev R) v)(hi:VR g w (i.ev R) vi)(he:au R H b=some (t,H')) :
  cq P w0 g H w (if ad then Instr.indexAt ty v vi else Instr.index ty v vi) t H':=by
 unfold zJ at hc
 cases hu:P.underlying ty with
 | none=>simp[hu]at hc
 | some d =>
  cases d<;>cases ad<;>simp only[hu]at hc<;>(try (cases hc;done))
  ·-- string
   simp at hc;subst hc
   simp only[au]at he
   generalize x.ev R=tx at hx he
   cases tx<;>(try simp only[reduceCtorEq]at he)
   cases hn:cB (i.ev R)with
   | none=>simp[hn]at he
   | some n =>
    simp only[hn,Option.map_eq_some_iff,Prod.mk.injEq]at he
    obtain⟨c,h1,rfl,rfl⟩:=he
    exact JV hu h hx hi hn h1
  ·-- slice
   rename_i e
   cases tM:P.info? e with
   | none=>simp[tM]at hc
   | some ei =>
    simp[tM]at hc;subst hc
    simp only[au]at he
    simp only[Option.bind_eq_some_iff,Option.map_eq_some_iff,Prod.mk.injEq]at he
    obtain⟨n,h1,t',h2,rfl,rfl⟩:=he
    exact JT hu tM h hx hi h1 h2
  ·-- Kw value
   rename_i n e
   cases tM:P.info? e with
   | none=>simp[tM]at hc
   | some ei =>
    cases OI:P.underlying e with
    | none=>simp[tM,OI]at hc
    | some d =>
     simp[tM,OI]at hc;subst hc
     simp only[au]at he
     generalize x.ev R=tx at hx he
     cases tx<;>(try simp only[reduceCtorEq]at he)
     cases hn:cB (i.ev R)with
     | none=>simp[hn]at he
     | some m =>
      simp only[hn]at he
      split at he
      ·rename_i js
       simp only[Option.map_eq_some_iff,Prod.mk.injEq]at he
       obtain⟨t',h1,rfl,rfl⟩:=he
       exact JW hu OI tM rfl h hx hi hn js.1 js.2 h1
      ·cases he
  ·-- Kw address
   rename_i n e
   cases tM:P.info? e with
   | none=>simp[tM]at hc
   | some ei =>
    simp[tM]at hc;subst hc
    simp only[au]at he
    generalize x.ev R=tx at hx he
    cases tx<;>(try simp only[reduceCtorEq]at he)
    cases hn:cB (i.ev R)with
    | none=>simp[hn]at he
    | some m =>
     simp only[hn]at he
     split at he
     ·rename_i aq
      simp at he
      obtain⟨rfl,rfl⟩:=he
      exact JU hu tM h hx hi hn aq
     ·cases he
theorem pJ {x:Option Operand}{y:Option X}(h:kM x=some y)(hv:RV g w R ρ x.toList):OV g w R y (x.map ρ):=by
 cases x with
 | none=>simp[kM]at h;subst h;trivial
 | some x =>
  simp only[kM,Option.map_eq_some_iff]at h
  obtain⟨y',h1,rfl⟩:=h
  exact hv x (by simp) y' h1
theorem CI {ty:TypeId}{v:Value}{x:X}{lo hi mx:Option X}{lU oe OJ:Option Value}{b:Bo}(hc:pE P ty x lo hi mx=some b)(h:SR w0 g H w)(hx:VR g w (x.ev R) v)(lG:OV g w R lo lU)(A8:OV g w R hi oe)(SD:OV g w R mx OJ)
  (he:au R H b=some (t,H')):Ku P w0 g H w (do pure (Next.value (←Instr.sliceAt ty v lU oe OJ))) t H':=by
 refine cq.oh ?_
 unfold pE at hc
 cases hu:P.underlying ty with
 | none=>simp[hu]at hc
 | some d =>
  cases d<;>simp only[hu]at hc<;>(try (cases hc;done))
  ·-- string
   cases mx with
   | some _=>simp at hc
   | none =>
    cases OJ with
    | some _=>exact SD.elim
    | none =>
     simp at hc;subst hc
     simp only[au]at he
     generalize x.ev R=tx at hx he
     cases tx<;>(try simp only[reduceCtorEq]at he)
     rename_i s
     cases hl:hJ R 0 lo with
     | none=>simp[hl]at he
     | some l =>
      cases hh:hJ R s.size hi with
      | none=>simp[hl,hh]at he
      | some r =>
       simp only[hl,hh]at he
       split at he
       ·rename_i js
        simp at he
        obtain⟨rfl,rfl⟩:=he
        exact JX hu h hx lG A8 hl hh js.1 js.2
       ·cases he
  ·-- slice
   rename_i e
   cases tM:P.info? e with
   | none=>simp[tM]at hc
   | some ei =>
    simp only[tM]at hc
    split at hc
    ·cases hc
    ·rename_i hmh
     simp at hc;subst hc
     simp only[au]at he
     generalize x.ev R=tx at hx he
     cases tx<;>(try simp only[reduceCtorEq]at he)
     ·rename_i k es
      cases hl:hJ R 0 lo with
      | none=>simp[hl]at he
      | some l =>
       cases hh:hJ R es.length hi with
       | none=>simp[hl,hh]at he
       | some r =>
        simp only[hl,hh]at he
        cases mx with
        | none =>
         cases OJ with
         | some _=>exact SD.elim
         | none =>
          simp only at he
          split at he
          ·rename_i js
           simp at he
           obtain⟨rfl,rfl⟩:=he
           exact JY hu tM h hx lG A8 hl hh js.1 js.2.1 js.2.2
          ·cases he
        | some m =>
         cases OJ with
         | none=>exact SD.elim
         | some vm =>
          cases hi with
          | none=>simp at hmh
          | some hi =>
           cases oe with
           | none=>exact A8.elim
           | some vh =>
            simp only at he
            cases hm:cB (m.ev R)with
            | none=>simp[hm]at he
            | some m' =>
             simp only[hm]at he
             split at he
             ·rename_i js
              simp only[Option.some.injEq,Prod.mk.injEq]at he
              obtain⟨rfl,rfl⟩:=he
              exact Ek hu tM h hx lG A8 SD hl hh hm js.1 js.2.1 js.2.2.1 js.2.2.2
             ·cases he
     ·rename_i bb off len n'
      cases hl:hJ R 0 lo with
      | none=>simp[hl]at he
      | some l =>
       cases hh:hJ R len hi with
       | none=>simp[hl,hh]at he
       | some r =>
        simp only[hl,hh]at he
        cases mx with
        | some _=>simp at he
        | none =>
         cases OJ with
         | some _=>exact SD.elim
         | none =>
          simp only at he
          split at he
          ·rename_i js
           obtain⟨rfl,h1,h2⟩:=js
           simp only[Option.some.injEq,Prod.mk.injEq]at he
           obtain⟨rfl,rfl⟩:=he
           exact El hu tM h hx lG A8 hl hh h1 h2
          ·cases he
     ·rename_i bb off len n' cc
      cases hl:hJ R 0 lo with
      | none=>simp[hl]at he
      | some l =>
       cases hh:hJ R len hi with
       | none=>simp[hl,hh]at he
       | some r =>
        simp only[hl,hh]at he
        cases mx with
        | some _=>simp at he
        | none =>
         cases OJ with
         | some _=>exact SD.elim
         | none =>
          simp only at he
          split at he
          ·rename_i js
           obtain⟨rfl,h1,h2⟩:=js
           simp only[Option.some.injEq,Prod.mk.injEq]at he
           obtain⟨rfl,rfl⟩:=he
           exact Em hu tM h hx lG A8 hl hh h1 h2
          ·cases he
theorem EI {src dst:TypeId}{v:Value}{x:X}{b:Bo}(hc:uu P src dst x=some b)(h:SR w0 g H w)(hx:VR g w (x.ev R) v)(he:au R H b=some (t,H')):Ku P w0 g H w (do pure (Next.value (←convert src dst v))) t H':=by
 refine cq.oh ?_
 unfold uu at hc
 cases hs:P.underlying src with
 | none=>simp[hs]at hc
 | some ds =>
  cases hd:P.underlying dst with
  | none=>simp[hs,hd]at hc
  | some dd =>
   rw[hs,hd]at hc
   cases ds<;>cases dd<;>simp only[reduceCtorEq]at hc
   ·rename_i k0 k
    simp at hc;subst hc
    simp only[au]at he
    generalize x.ev R=tx at hx he
    cases tx<;>simp at he
    obtain⟨rfl,rfl⟩:=he
    exact JO hs hd h hx
   ·rename_i e
    cases hu:P.underlying e with
    | none=>simp[hu]at hc
    | some d =>
     have TL:d=.int .u8∧b=.AO x:=by
      rw[hu]at hc
      cases d with
      | int k=>cases k<;>simp at hc;exact⟨rfl,hc.symm⟩
      | _=>simp at hc
     obtain⟨rfl,rfl⟩:=TL
     simp only[au]at he
     cases jm:bG H 1 (x.ev R)with
     | none=>simp[jm]at he
     | some es =>
      have MG:∀s,x.ev R≠.str s:=by
       intro s e;simp only[e]at he;split at he<;>cases he
      have DQ:(bytesOf es).map (fun l=>(T.str ⟨l.toArray⟩,H))=some (t,H'):=by
       simp only[jm]at he
       generalize x.ev R=tx at he MG
       cases tx<;>first|exact he|exact absurd rfl (MG _)
      simp only[Option.map_eq_some_iff,Prod.mk.injEq]at DQ
      obtain⟨l,h1,rfl,rfl⟩:=DQ
      exact JQ hs hu hd h hx jm MG h1
end
end Go.Rmp
end
