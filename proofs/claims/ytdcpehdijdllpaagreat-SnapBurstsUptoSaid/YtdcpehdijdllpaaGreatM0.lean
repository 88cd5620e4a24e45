/- Part of a proof of a law of this seat: the machine of plain values, its simulation, and the contracts of the functions that the law reaches. Conditions: none beyond the given row. -/
import Derived.OrdersIn
import Derived.RangeFuncIn
import Derived.Laws.Sem
import Derived.Laws.World
import Derived.Laws.IdiomCopy
import Derived.ChangeKeysEq
import Derived.Laws.StructEq
import Derived.Laws.BytesString
import Derived.IntWalk
import Derived.Lib.AppendZerosOnto
import Derived.Lib.Overlaps
import Derived.Maps.RangeRun
import Derived.RangeFuncRecord
open Int renaming reduceLT → q3, reduceLE → q4, reduceBEq → q5, reduceBNe → q6, reduceEq → q7
open Nat renaming reduceAdd → q8, reduceLeDiff → q9, reduceLT → j1, reduceEqDiff → j2
set_option linter.unusedSimpArgs false
set_option linter.unusedVariables false
set_option linter.unnecessarySimpa false
set_option maxHeartbeats 4000000
section
namespace Go.Rmp
inductive SK where
 | nil|arg|full|own (t e:Nat)
 deriving DecidableEq
inductive T where
 | int (k:IntKind) (n:Int)
 | bool (b:Bool)
 | str (s:ByteArray)
 | bV
 | ptr (b off:Nat)
 | dL (cs:List T)
 | gh
 | map (b:Nat)
 | sl (k:SK) (es:List (List T))
 | ay (b off len n:Nat)
 | dQ (b off len n c:Nat)
 | mg
 | fn (f:Nat) (ke:List T)
 | mO (b:Nat)
 | gk
 | agg (cs:List T)
 | bN (vs:List T)
abbrev ar:=Nat→T
def bX:T:=.bN []
def T.one:T→Bool
 | .agg _ | .bN _=>false
 | _=>true
def T.cells?:T→Option (List T)
 | .agg cs=>some cs
 | .bN _=>none
 | v=>some [v]
def T.erase:T→T
 | .sl _ es=>.sl .arg es
 | v=>v
inductive X where
 | r (t:Nat)
 | c (v:T)
def X.ev (R:ar):X→T
 | .r t=>R t
 | .c v=>v
def nY (R:ar)(d:Nat)(v:T):ar:=fun t=>if t=d then v else R t
def bA (R:ar)(d:Option Nat)(v:T):ar:=match d with|some d=>nY R d v|none=>R
inductive HI where|ptr|slice|map|func
 deriving DecidableEq
inductive Lc where|str|sl|map
inductive vo where|int|str|bool
 deriving DecidableEq
inductive KT where
 | sc (t:vo)
 | st (l:List vo)
def T.xL:vo→T→Bool
 | .int,.int _ _ | .str,.str _ | .bool,.bool _=>true
 | _,_=>false
def fC:List vo→List T→Bool
 | [],[]=>true
 | t :: ts,v :: vs=>v.xL t&&fC ts vs
 | _,_=>false
def T.iL:KT→T→Bool
 | .sc t,v=>v.xL t
 | .st l,.agg cs=>fC l cs
 | _,_=>false
inductive Bo where
 | aw (x:X)
 | pick (c a b:X)
 | bin (op:BinOp) (x y:X)
 | mP (neg:Bool) (c:HI) (x y:X)
 | beq (neg:Bool) (x y:X)
 | eqs (neg:Bool) (ks:List vo) (x y:X)
 | un (op:UnOp) (x:X)
 | hU (k:IntKind) (x:X)
 | CH (x:X)
 | cvb (x:X)
 | len (k:Lc) (x:X)
 | alloc (z:List T)
 | box (x:X)
 | build (z:List T) (ps:List (Nat×Nat×X))
 | o8 (n:Nat) (z:List T) (ps:List (Nat×X))
 | ld (n:Nat) (ag:Bool) (x:X)
 | st (n:Nat) (a v:X)
 | oa (off:Nat) (x:X)
 | P6 (off n:Nat) (ag:Bool) (x:X)
 | fc (st:Nat) (x i:X)
 | L8 (n st:Nat) (x i:X)
 | P7 (x i:X)
 | UR (n st:Nat) (ag:Bool) (x i:X)
 | P8 (x:X) (lo hi:Option X)
 | gm (st:Nat) (x:X) (lo hi mx:Option X)
 | zd
 | mW (kt:KT) (z:T) (ok:Bool) (m k:X)
 | ze (kt:KT) (m k v:X)
 | del (kt:KT) (m k:X)
 | app (st bytes:Nat) (mu:Bool) (x y:X)
 | VQ (mu:Bool) (bytes:Nat) (z:List T) (l c:X)
 | HJ (f:Nat) (ke:List X)
 | ext (i:Nat) (x:X)
 | mn (x y:X)
 | mx (x y:X)
 | tV (x:X)
 | cap (x:X)
 | AR (n:Nat) (x y:X)
 | Pr (n:Nat) (x y:X)
 | L9 (x:X)
 | pI (x:X)
 | Ma (x:X)
 | Ps (n:Nat) (z:List T) (x:X)
 | P9 (n bytes:Nat) (z:List T) (x k:X)
 | Pt (n:Nat) (z:List T) (ps:List (Nat×X))
abbrev Gd:=Option (Nat×Bool)
structure Rd where
 d:Nat
 op:Bo
 g:Gd
inductive KL where
 | b (op:Bo)
 | call (f:Nat) (as:List X)
 | bB (f:X) (as:List X)
structure O where
 d:Option Nat
 op:KL
 g:Gd
 AS:List Rd
inductive C where
 | skip
 | ops (l:List O)
 | seq (a b:C)
 | cond (x:X) (a b:C)
 | block (id:Nat) (a:C)
 | loop (a:C)
 | exit (id:Nat)
 | ret
 | cI (n:Nat) (x:X) (ps:List Nat) (bZ body:C)
inductive Ex where
 | normal|exit (id:Nat)|ret
inductive Mb where
 | ready|busy|done
 deriving DecidableEq
inductive B where
 | cells (cs:List T)
 | map (es:List (T×T))
 | tok (e:Nat)
 | loop (st:Mb) (ft:Option Ex) (n:Nat) (R:Nat→T) (ps:List Nat) (bZ body:C)
 | zf
 | dead
 /-- a map that is ranged over: the places still to come;the range's block;the place last told -/
 | cP (es:List (T×T)) (ix:List Nat) (bi:Nat) (cur:Option Nat)
 | ua (b:Nat)
abbrev af:=List B
def iZ (a b:ByteArray):Bool:=a.toList==b.toList
def strLt (a b:ByteArray):Bool:=Op.bytesLess a.toList b.toList
def cG (op:BinOp):T→T→Option T
 | .int k a,.int k' b =>
  match op with
  | .shl=>if b<0 then none else some (.int k (k.wrap (a*2^(min b.toNat k.bits))))
  | .shr=>if b<0 then none else some (.int k (a.fdiv (2^(min b.toNat k.bits))))
  | op =>
   if k=k' then
    match op with
    | .add=>some (.int k (k.wrap (a+b)))
    | .sub=>some (.int k (k.wrap (a-b)))
    | .mul=>some (.int k (k.wrap (a*b)))
    | .quo=>if b=0 then none else some (.int k (k.wrap (a.tdiv b)))
    | .rem=>if b=0 then none else some (.int k (a.tmod b))
    | .and=>some (.int k (k.wrap (BitVec.ofInt k.bits a &&& BitVec.ofInt k.bits b).toNat))
    | .or=>some (.int k (k.wrap (BitVec.ofInt k.bits a ||| BitVec.ofInt k.bits b).toNat))
    | .xor=>some (.int k (k.wrap (BitVec.ofInt k.bits a ^^^ BitVec.ofInt k.bits b).toNat))
    | .andNot=>some (.int k (k.wrap (BitVec.ofInt k.bits a &&& ~~~ BitVec.ofInt k.bits b).toNat))
    | .eql=>some (.bool (a==b))
    | .neq=>some (.bool (a != b))
    | .lss=>some (.bool (a<b))
    | .leq=>some (.bool (a≤b))
    | .gtr=>some (.bool (a>b))
    | .geq=>some (.bool (a≥b))
    | _=>none
   else none
 | .str a,.str b =>
  match op with
  | .add=>if a.size+b.size≤9223372036854775807 then some (.str (a++b))else none
  | .eql=>some (.bool (iZ a b))
  | .neq=>some (.bool (!iZ a b))
  | .lss=>some (.bool (strLt a b))
  | .leq=>some (.bool (strLt a b||iZ a b))
  | .gtr=>some (.bool (!(strLt a b||iZ a b)))
  | .geq=>some (.bool (!strLt a b))
  | _=>none
 | _,_=>none
def KM (op:UnOp):T→Option T
 | .int k n =>
  match op with
  | .neg=>some (.int k (k.wrap (0-n)))
  | .xor=>some (.int k (k.wrap (BitVec.ofInt k.bits (if k.signed then -1 else k.max) ^^^ BitVec.ofInt k.bits n).toNat))
  | _=>none
 | .bool b=>match op with | .not=>some (.bool !b)|_=>none
 | _=>none
def jP:HI→T→Option Bool
 | .ptr,.bV=>some true
 | .ptr,.ptr _ _ | .ptr,.dL _=>some false
 | .slice,.sl .nil []=>some true
 | .slice,.sl .full _ | .slice,.sl (.own _ _) _ | .slice,.sl .arg (_ :: _) | .slice,.ay _ _ _ _=>some false
 | .map,.gh=>some true
 | .map,.map _=>some false
 | .func,.mg=>some true
 | .func,.fn _ _=>some false
 | _,_=>none
def dR (c:HI)(x y:T):Option Bool :=
 match jP c x,jP c y with
 | some true,some b=>some b
 | some b,some true=>some b
 | _,_=>none
def iM:T→T→Option Bool
 | .int k a,.int k' b=>if k=k' then some (a==b)else none
 | .str a,.str b=>some (iZ a b)
 | .bool a,.bool b=>some (a==b)
 | _,_=>none
def b8:List T→List T→Option Bool
 | [],[]=>some true
 | a :: as,b :: bs=>match iM a b,b8 as bs with
  | some x,some y=>some (x&&y)
  | _,_=>none
 | _,_=>none
def gJ:T→T→Option Bool
 | .agg as,.agg bs=>b8 as bs
 | a,b=>iM a b
def cZ (k:T):List (T×T)→Option (Option Nat)
 | []=>some none
 | e :: es=>match gJ k e.1 with
  | some true=>some (some 0)
  | some false=>(cZ k es).map (Option.map (·+1))
  | none=>none
def gn (H:af):T→Option (List (T×T))
 | .gh=>some []
 | .map b=>match H[b]? with|some (.map es)=>some es|some (.cP es _ _ _)=>some es|_=>none
 | _=>none
def lV (cells:List T):List (Nat×List T)→Option (List T)
 | []=>some cells
 | (off,vs) :: rest=>if off+vs.length≤cells.length then lV (cells.take off++vs++cells.drop (off+vs.length)) rest else none
def fe (R:ar):List (Nat×Nat×X)→Option (List (Nat×List T))
 | []=>some []
 | (off,n,x) :: rest=>match (x.ev R).cells?,fe R rest with
  | some cs,some l=>if cs.length=n then some ((off,cs) :: l)else none
  | _,_=>none
def ja (n:Nat)(es:List (List T))(R:ar):List (Nat×X)→Option (List (List T))
 | []=>some es
 | (i,x) :: rest=>match (x.ev R).cells? with
  | some cs=>if cs.length=n∧i<es.length then ja n (es.set i (cs.map T.erase)) R rest else none
  | none=>none
def jb (n:Nat)(es:List (List T))(R:ar):List (Nat×X)→Option (List (List T))
 | []=>some es
 | (i,x) :: rest=>match (x.ev R).cells? with
  | some cs=>if cs.length=n∧i<es.length then jb n (es.set i cs) R rest else none
  | none=>none
def pr (H:af)(n:Nat):T→Option (List T)
 | .ptr b off=>match H[b]? with
  | some (.cells cs)=>if off+n≤cs.length then some ((cs.drop off).take n)else none
  | _=>none
 | .dL cs=>if n≤cs.length then some (cs.take n)else none
 | _=>none
def valOf (ag:Bool)(cs:List T):Option T :=
 if ag then some (.agg cs)else match cs with | [v]=>some v|_=>none
def Qa (H:af)(vs:List T):T→Option af
 | .ptr b off=>match H[b]? with
  | some (.cells cs)=>if off+vs.length≤cs.length then some (H.set b (.cells (cs.take off++vs++cs.drop (off+vs.length))))else none
  | _=>none
 | _=>none
def vF (off:Nat):T→Option T
 | .ptr b o=>some (.ptr b (o+off))
 | .dL cs=>if off<cs.length then some (.dL (cs.drop off))else none
 | _=>none
def eI (n i:Nat):T→Option T
 | .sl _ es=>match es[i]? with
  | some c=>if c.length=n∧n≠0 then some (.dL c)else none
  | none=>none
 | .ay b off len n'=>if n'=n∧i<len∧n≠0 then some (.ptr b (off+i*n))else none
 | _=>none
def bK (H:af)(n:Nat):T→Option (List (List T))
 | .sl _ es=>if es.all (·.length==n)then some es else none
 | .ay b off len n'=>match H[b]? with
  | some (.cells cs)=>if n'=n∧off+len*n≤cs.length then some ((List.range len).map fun i=>(cs.drop (off+i*n)).take n)else none
  | _=>none
 | .str s=>if n=1 then some (s.data.toList.map fun c=>[.int .u8 c.toNat])else none
 | _=>none
def bytesOf:List (List T)→Option (List UInt8)
 | []=>some []
 | [.int .u8 n] :: es=>(bytesOf es).map (UInt8.ofNat n.toNat :: ·)
 | _=>none
def jc (H:af):Lc→T→Option Nat
 | .str,.str s=>some s.size
 | .sl,.sl _ es=>some es.length
 | .sl,.ay _ _ len _=>some len
 | .sl,.dQ _ _ len _ _=>some len
 | .map,.gh=>some 0
 | .map,.map b=>match H[b]? with
  | some (.map es)=>some es.length
  | some (.cP es _ _ _)=>some es.length
  | _=>none
 | _,_=>none
def cj:T→Option Nat
 | .int _ n=>if 0≤n then some n.toNat else none
 | _=>none
def gg (R:ar)(d:Nat):Option X→Option Nat
 | none=>some d
 | some x=>cj (x.ev R)
def SK.cut (k:SK)(len lo hi:Nat):SK :=
 match k with
 | .nil=>.nil
 | .arg=>.arg
 | .full=>if hi=len then .full else .arg
 | .own t e=>if hi=len∧lo<len then .own t e else .arg
def da (jt bytes:Nat):Bool:=(jt+jt/4+512)*bytes≤281474976710656
def gK (H:af)(bytes:Nat)(k:SK)(es new:List (List T)):Option (T×af) :=
 match new with
 | []=>some (.sl k es,H)
 | _ =>
  if da (es.length+new.length) bytes then
   match k with
   | .nil | .full=>some (.sl (.own H.length (es.length+new.length)) (es++new.map (·.map T.erase)),H++[.tok (es.length+new.length)])
   | .own t e=>match H[t]? with
    | some (.tok e')=>if e=e' then some (.sl (.own t (e+new.length)) (es++new.map (·.map T.erase)),H.set t (.tok (e+new.length)))else none
    | _=>none
   | .arg=>none
  else none
def CI:T→Bool
 | .sl _ _ | .ay _ _ _ _=>true
 | _=>false
def mX (H:af)(n bytes:Nat)(x:T)(new:List (List T)):Option (T×af) :=
 match new with
 | []=>if CI x then some (x,H)else none
 | _ =>
  match x with
  | .sl .nil es | .sl .full es =>
   if da (es.length+new.length) bytes∧es=[]then some (.ay H.length 0 new.length n,H++[.cells new.flatten])else none
  | .ay b off len n'=>match H[b]? with
   | some (.cells cs) =>
    if n'=n∧off=0∧len*n=cs.length∧da (len+new.length) bytes then
     some (.ay H.length 0 (len+new.length) n,H.set b .dead++[.cells (cs++new.flatten)])else none
   | _=>none
  | _=>none
def zg:T→T
 | .dQ b off len n _=>.ay b off len n
 | t=>t
def gL (H:af)(n k:Nat):T→Option (List (List T))
 | .ay b off _ n' | .dQ b off _ n' _=>match H[b]? with
  | some (.cells cs)=>if n'=n∧off+k*n≤cs.length then some ((List.range k).map fun i=>(cs.drop (off+i*n)).take n)else none
  | _=>none
 | _=>none
def CJ:T→Option Nat
 | .ay _ _ len _ | .dQ _ _ len _ _=>some len
 | _=>none
def AU (H:af)(n:Nat)(x y:T):Option (T×af) :=
 match x,CJ y with
 | .ay b off len n',some ly | .dQ b off len n' _,some ly =>
  match H[b]?,gL H n (min ly len) y with
  | some (.cells cs),some new =>
   if n'=n∧n≠0∧off≤cs.length then some (.int .i64 (min ly len:Nat),H.set b (.cells (cs.take off++new.flatten++cs.drop (off+(min ly len)*n))))else none
  | _,_=>none
 | _,_=>none
def CK (H:af)(n bytes:Nat)(z:List T)(x:T)(k:Nat):Option (T×af) :=
 match x with
 | .dQ b off len n' c=>match gL H n len x with
  | some es=>if n'=n∧n≠0∧0<k∧c<len+k∧z.length=n∧da (len+k) bytes then some (.ay H.length 0 (len+k) n,H++[.cells (es.flatten++(List.replicate k z).flatten)])else none
  | none=>none
 | _=>none
def AV (H:af)(n:Nat)(x y:T):Option (T×af) :=
 match x,y with
 | .ay bv _ _ n1,.dQ b _ len n2 _ =>
  match H[bv]?,H[b]? with
  | some (.cells _),some (.cells cs)=>if bv≠b∧n1=n∧n2=n∧0<cs.length then some (.bool false,H)else none
  | _,_=>none
 | _,_=>none
def KN (R:ar)(l:List X):List T:=l.map (X.ev R)
def ak (R:ar)(H:af):Bo→Option (T×af)
 | .aw x=>some (x.ev R,H)
 | .pick c a b=>match c.ev R with
  | .bool t=>some (if t then a.ev R else b.ev R,H)
  | _=>none
 | .bin op x y=>(cG op (x.ev R) (y.ev R)).map (·,H)
 | .mP neg c x y=>(dR c (x.ev R) (y.ev R)).map fun b=>(.bool (if neg then !b else b),H)
 | .beq neg x y=>match x.ev R,y.ev R with
  | .bool a,.bool b=>some (.bool (if neg then !(a==b)else a==b),H)
  | _,_=>none
 | .eqs neg ks x y=>match x.ev R,y.ev R with
  | .agg as,.agg bs=>if fC ks as then(b8 as bs).map fun b=>(.bool (if neg then !b else b),H)else none
  | _,_=>none
 | .un op x=>(KM op (x.ev R)).map (·,H)
 | .hU k x=>match x.ev R with
  | .int _ n=>some (.int k (k.wrap n),H)
  | _=>none
 | .CH x=>match bK H 1 (x.ev R)with
  | some es=>match x.ev R with
   | .str _=>none
   | _=>(bytesOf es).map fun l=>(.str ⟨l.toArray⟩,H)
  | none=>none
 | .cvb x=>match x.ev R with
  | .str s=>if s.size=0 then some (.sl .arg [],H)else if s.size≤281474976710656 then some (.sl (.own H.length s.size) (s.data.toList.map fun c=>[.int .u8 c.toNat]),H++[.tok s.size])else none
  | _=>none
 | .len k x=>(jc H k (x.ev R)).map fun (n:Nat)=>(T.int .i64 (n:Int),H)
 | .alloc z=>some (.ptr H.length 0,H++[.cells z])
 | .box x=>(x.ev R).cells?.map fun cs=>(.ptr H.length 0,H++[.cells cs])
 | .build z ps=>match fe R ps with
  | some l=>(lV z l).map fun cs=>(.agg cs,H)
  | none=>none
 | .o8 n z ps=>(ja z.length (List.replicate n z) R ps).map fun es=>(.sl .full es,H)
 | .ld n ag x=>match pr H n (x.ev R)with
  | some cs=>(valOf ag cs).map (·,H)
  | none=>none
 | .st n a v=>match (v.ev R).cells? with
  | some vs=>if vs.length=n then(Qa H vs (a.ev R)).map (bX,·)else none
  | none=>none
 | .oa off x=>(vF off (x.ev R)).map (·,H)
 | .P6 off n ag x=>match x.ev R with
  | .agg cs=>if off+n≤cs.length then(valOf ag ((cs.drop off).take n)).map (·,H)else none
  | _=>none
 | .fc n x i=>(cj (i.ev R)).bind fun i=>(eI n i (x.ev R)).map (·,H)
 | .L8 len n x i=>match x.ev R,cj (i.ev R)with
  | .ptr b off,some i=>if i<len then some (.ptr b (off+i*n),H)else none
  | _,_=>none
 | .P7 x i=>match x.ev R,cj (i.ev R)with
  | .str s,some i=>(s.data[i]?).map fun c=>(.int .u8 c.toNat,H)
  | _,_=>none
 | .UR len n ag x i=>match x.ev R,cj (i.ev R)with
  | .agg cs,some i=>if i<len∧i*n+n≤cs.length then(valOf ag ((cs.drop (i*n)).take n)).map (·,H)else none
  | _,_=>none
 | .P8 x lo hi=>match x.ev R with
  | .str s=>match gg R 0 lo,gg R s.size hi with
   | some l,some h=>if l≤h∧h≤s.size then some (.str (s.extract l h),H)else none
   | _,_=>none
  | _=>none
 | .gm n x lo hi mx=>match x.ev R with
  | .sl k es=>match gg R 0 lo,gg R es.length hi,mx with
   | some l,some h,none=>if l≤h∧h≤es.length∧es.all (·.length==n)then some (.sl (k.cut es.length l h) ((es.take h).drop l),H)else none
   | some l,some h,some m=>match cj (m.ev R)with
    | some m =>
     if l≤h∧h≤m∧m≤es.length∧es.all (·.length==n)then
      some (.sl (if k=.nil then .nil else if es=[]∧k=.arg then .arg else if h=m then .full else .arg) ((es.take h).drop l),H)else none
    | none=>none
   | _,_,_=>none
  | .ay b off len n'=>match gg R 0 lo,gg R len hi,mx with
   | some l,some h,none =>
    if n'=n∧l≤h∧h≤len then some (if l=h then(if l=0 then .ay b off 0 n else .sl .arg [])else .ay b (off+l*n) (h-l) n,H)else none
   | _,_,_=>none
  | .dQ b off len n' c=>match gg R 0 lo,gg R len hi,mx with
   | some l,some h,none =>
    if n'=n∧l≤h∧h≤c then some (if l<c∨l=0 then .dQ b (off+l*n) (h-l) n (c-l)else .sl .arg [],H)else none
   | _,_,_=>none
  | _=>none
 | .zd=>some (.map H.length,H++[.map []])
 | .mW kt z ok m k =>
  if (k.ev R).iL kt then
   match gn H (m.ev R)with
   | some es=>match cZ (k.ev R) es with
    | some (some i)=>match es[i]? with
     | some e=>some (if ok then .bN [e.2,.bool true]else e.2,H)
     | none=>none
    | some none=>some (if ok then .bN [z,.bool false]else z,H)
    | none=>none
   | none=>none
  else none
 | .ze kt m k v=>match m.ev R with
  | .map b=>if (k.ev R).iL kt then match H[b]? with
   | some (.map es)=>match cZ (k.ev R) es with
    | some (some i)=>some (bX,H.set b (.map (es.set i (k.ev R,v.ev R))))
    | some none=>some (bX,H.set b (.map (es++[(k.ev R,v.ev R)])))
    | none=>none
   | _=>none else none
  | _=>none
 | .del kt m k=>match m.ev R with
  | .map b=>if (k.ev R).iL kt then match H[b]? with
   | some (.map es)=>match cZ (k.ev R) es with
    | some (some i)=>some (.bN [],H.set b (.map (es.eraseIdx i)))
    | some none=>some (.bN [],H)
    | none=>none
   | _=>none else none
  | _=>none
 | .app n bytes mu x y=>match bK H n (y.ev R)with
  | some new=>if mu then mX H n bytes (zg (x.ev R)) new else match x.ev R with
   | .sl k es=>if es.all (·.length==n)then gK H bytes k es new else none
   | _=>none
  | none=>none
 | .VQ mu bytes z l c=>match cj (l.ev R),cj (c.ev R)with
  | some l,some c =>
   if l≤c∧c*bytes≤281474976710656∧c≤9223372036854775807 then
    if mu then some (.ay H.length 0 l z.length,H++[.cells (List.replicate l z).flatten])
    else if l=0 then some (.sl .arg [],H)else some (.sl (.own H.length l) (List.replicate l z),H++[.tok l])
   else none
  | _,_=>none
 | .HJ f ke=>some (.fn f (KN R ke),H)
 | .ext i x=>match x.ev R with
  | .bN vs=>(vs[i]?).map (·,H)
  | _=>none
 | .mn x y=>match x.ev R,y.ev R with
  | .int k a,.int _ b=>some (.int k (if b<a then b else a),H)
  | _,_=>none
 | .mx x y=>match x.ev R,y.ev R with
  | .int k a,.int _ b=>some (.int k (if b>a then b else a),H)
  | _,_=>none
 | .tV x=>match x.ev R with
  | .bV | .gk | .mg=>none
  | v=>some (v,H)
 | .cap x=>match x.ev R with
  | .dQ _ _ _ _ c=>some (.int .i64 (c:Nat),H)
  | _=>none
 | .AR n x y=>AU H n (x.ev R) (y.ev R)
 | .L9 x=>match x.ev R with
  | .map b=>(gn H (.map b)).map fun es=>(.ptr H.length 0,H.set b (.cP es (List.range es.length) H.length none)++[.ua b])
  | _=>none
 | .pI _=>none
 | .Ma x=>match x.ev R with
  | .ptr bi 0=>match H[bi]? with
   | some (.ua b)=>match H[b]? with
    | some (.cP es _ Qb (some c))=>if Qb=bi then(es[c]?).map fun e=>(.bN [e.1,e.2],H)else none
    | _=>none
   | _=>none
  | _=>none
 | .Ps n z x=>match x.ev R with
  | .ay b off len n'=>match H[b]? with
   | some (.cells cs)=>if n'=n∧z.length=n∧off+len*n≤cs.length then some (bX,H.set b (.cells (cs.take off++(List.replicate len z).flatten++cs.drop (off+len*n))))else none
   | _=>none
  | _=>none
 | .Pr n x y=>AV H n (x.ev R) (y.ev R)
 | .P9 n bytes z x k=>(cj (k.ev R)).bind fun k=>CK H n bytes z (x.ev R) k
 | .Pt n z ps=>(jb z.length (List.replicate n z) R ps).bind fun es=>if z.length≠0 then some (.ay H.length 0 n z.length,H++[.cells es.flatten])else none
def bL (R:ar):Gd→Bool
 | none=>true
 | some (t,b)=>match R t with
  | .bool c=>c==b
  | _=>false
inductive Rs where
 | t (r:Nat)
 | cl (r n:Nat) (ag:Bool)
structure Fn where
 n:Nat
 np:Nat
 res:List Rs
 body:C
structure Env where
 fn:Nat→Option Fn
 ob:Nat→List T→af→(T→af→Prop)→Prop
 mono:∀f az H (Q Q':T→af→Prop),ob f az H Q→(∀t H',Q t H'→Q' t H')→ob f az H Q'
inductive J where
 | code (c:C) (R:ar)
 | ops (l:List O) (R:ar)
 | call (f:Nat) (as:List T)
inductive Out where
 | ex (e:Ex) (R:ar)
 | val (v:T)
def C.lP:C→Bool
 | .seq a b | .cond _ a b=>a.lP||b.lP
 | .block _ a | .loop a=>a.lP
 | .cI _ _ _ _ _=>true
 | _=>false
def iq (R:ar):List Nat→List T→ar
 | p :: ps,v :: vs=>iq (nY R p v) ps vs
 | _,_=>R
def CL:T→Option Nat
 | .ptr b 0=>some b
 | _=>none
def qf:List T→Option (List Nat)
 | []=>some []
 | t :: ts=>match CL t,qf ts with
  | some b,some bs=>some (b :: bs)
  | _,_=>none
def marks:T→Option (List Nat)
 | .bN ts=>qf ts
 | _=>none
def mY (t:T)(b:Nat):T:=match t with
 | .bN ts=>.bN (.ptr b 0 :: ts)
 | t=>t
def kill (H:af):List Nat→af
 | []=>H
 | b :: bs=>kill (H.set b .dead) bs
def CM:Option Ex→Ex
 | none=>.normal
 | some e=>e
def gp (as:List T):ar:=fun t=>as.getD t bX
def xM (R:ar)(H:af):Rs→Option T
 | .t r=>some (R r)
 | .cl r n ag=>match pr H n (R r)with
  | some cs=>valOf ag cs
  | none=>none
def rT (R:ar)(H:af):List Rs→Option (List T)
 | []=>some []
 | x :: xs=>match xM R H x,rT R H xs with
  | some v,some vs=>some (v :: vs)
  | _,_=>none
def AW:List T→T
 | [v]=>v
 | l=>.bN l
def pt (R:ar)(H:af)(l:List Rs):Option T:=(rT R H l).map AW
def ju (R:ar)(H:af)(l:List Rd):Prop:=∀r∈l,bL R r.g=true→ak R H r.op=some (R r.d,H)
def rU (cs:List T)(off len n:Nat):List (List T):=(List.range len).map fun i=>(cs.drop (off+i*n)).take n
def vG (b:Nat)(cs:List T):T→T
 | .ay b' off len n=>if b'=b∧off+len*n≤cs.length then .sl .arg (rU cs off len n)else .ay b' off len n
 | t=>t
def xN (b:Nat)(cs:List T):T→T
 | .bN vs=>.bN (vs.map (vG b cs))
 | t=>vG b cs t
def zh (b:Nat):T→Prop
 | .bN vs=>∃off len n,T.ay b off len n∈vs
 | .ay b' _ _ _=>b'=b
 | _=>False
def mZ (H:af)(b bi:Nat)(es:List (T×T))(ix:List Nat)(t:T)(H':af):Prop :=
 (ix=[]∧t=.bN [.bool false]∧H'=H.set b (.map es))∨∃i e,i∈ix∧es[i]?=some e∧t=.bN [.bool true,e.1,e.2]∧H'=H.set b (.cP es (ix.erase i) bi (some i))
inductive W (E:Env):J→af→(Out→af→Prop)→Prop
 | skip {R H Q} (h:Q (.ex .normal R) H):W E (.code .skip R) H Q
 | exit {id R H Q} (h:Q (.ex (.exit id) R) H):W E (.code (.exit id) R) H Q
 | ret {R H Q} (h:Q (.ex .ret R) H):W E (.code .ret R) H Q
 | Pu {l R H Q} (h:W E (.ops l R) H Q):W E (.code (.ops l) R) H Q
 | seq {a b R H Q} (M:Out→af→Prop) (h1:W E (.code a R) H M) (h2:∀R' H',M (.ex .normal R') H'→W E (.code b R') H' Q)
   (h3:∀o H',M o H'→(∀R',o≠.ex .normal R')→Q o H'):W E (.code (.seq a b) R) H Q
 | cond {x a b R H Q} (t:Bool) (hx:x.ev R=.bool t) (h:W E (.code (if t then a else b) R) H Q):W E (.code (.cond x a b) R) H Q
 | block {id a R H Q} (M:Out→af→Prop) (h1:W E (.code a R) H M) (h2:∀R' H',M (.ex (.exit id) R') H'→Q (.ex .normal R') H')
   (h3:∀o H',M o H'→(∀R',o≠.ex (.exit id) R')→Q o H'):W E (.code (.block id a) R) H Q
 | loop {a R H Q} (M:Out→af→Prop) (h1:W E (.code a R) H M) (h2:∀R' H',M (.ex .normal R') H'→W E (.code (.loop a) R') H' Q)
   (h3:∀o H',M o H'→(∀R',o≠.ex .normal R')→Q o H'):W E (.code (.loop a) R) H Q
 | nil {R H Q} (h:Q (.ex .normal R) H):W E (.ops [] R) H Q
 | no {o l R H Q} (hg:bL R o.g=false) (h:W E (.ops l (bA R o.d bX)) H Q):W E (.ops (o :: l) R) H Q
 | op {d b g s l R H Q v H'} (hg:bL R g=true) (he:ak R H b=some (v,H')) (hs:ju R H' s) (h:W E (.ops l (bA R d v)) H' Q):W E (.ops (⟨d,.b b,g,s⟩ :: l) R) H Q
 | call {d f as g s l R H Q} (M:Out→af→Prop) (hg:bL R g=true) (h1:W E (.call f (as.map (X.ev R))) H M)
   (hs:∀v H',M (.val v) H'→ju R H' s) (h2:∀v H',M (.val v) H'→W E (.ops l (bA R d v)) H' Q):W E (.ops (⟨d,.call f as,g,s⟩ :: l) R) H Q
 | bB {d x f cs as g s l R H Q} (M:Out→af→Prop) (hg:bL R g=true) (hf:x.ev R=.fn f cs) (h1:W E (.call f (as.map (X.ev R)++cs)) H M)
   (hs:∀v H',M (.val v) H'→ju R H' s) (h2:∀v H',M (.val v) H'→W E (.ops l (bA R d v)) H' Q):W E (.ops (⟨d,.bB x as,g,s⟩ :: l) R) H Q
 | AX {d neg c x y s l R H Q} (hs:s=[]) (h:∀b:Bool,W E (.ops l (bA R d (.bool b))) H Q) (hx:x.ev R=.sl .arg []) (hy:y.ev R=.sl .nil []) (hc:c=.slice) :
   W E (.ops (⟨d,.b (.mP neg c x y),none,s⟩ :: l) R) H Q
 | mO {d x b as g s l R H Q n R0 ps bZ body} (M1 M:Out→af→Prop) (hg:bL R g=true) (hf:x.ev R=.mO b) (hb:H[b]?=some (.loop .ready none n R0 ps bZ body)) (hn:as.length=ps.length)
   (h1:W E (.code bZ (iq R0 ps (as.map (X.ev R)))) H M1) (AY:∀o H',M1 o H'→(∃R1,o=.ex .normal R1)∧H'[b]?=some (.loop .ready none n R0 ps bZ body))
   (h2:∀R1 H1,M1 (.ex .normal R1) H1→W E (.code body R1) (H1.set b (.loop .busy none n R0 ps bZ body)) M) (AZ:∀o H',M o H'→H'[b]?=some (.loop .busy none n R0 ps bZ body))
   (zi:∀R' H',M (.ex .normal R') H'→ju R (H'.set b (.loop .ready none n R0 ps bZ body)) s)
   (h3:∀R' H',M (.ex .normal R') H'→W E (.ops l (bA R d (.bool true))) (H'.set b (.loop .ready none n R0 ps bZ body)) Q)
   (Cn:∀e R' H',M (.ex e R') H'→e≠.normal→ju R (H'.set b (.loop .done (some e) n R0 ps bZ body)) s)
   (h4:∀e R' H',M (.ex e R') H'→e≠.normal→W E (.ops l (bA R d (.bool false))) (H'.set b (.loop .done (some e) n R0 ps bZ body)) Q):W E (.ops (⟨d,.bB x as,g,s⟩ :: l) R) H Q
 | cI {n x ps bZ body R H Q f cs} (M:Out→af→Prop) (hx:x.ev R=.fn f cs) (h1:W E (.call f (.mO (H.length+1) :: cs)) (H++[.zf,.loop .ready none n R ps bZ body]) M)
   (h2:∀v H',M (.val v) H'→∃st ft,st≠.busy∧ft≠some .normal∧H'[H.length+1]?=some (.loop st ft n R ps bZ body)∧Q (.ex (CM ft) (nY R n (mY (R n) H.length))) (H'.set (H.length+1) .dead)) :
   W E (.code (.cI n x ps bZ body) R) H Q
 | Pv {f as H Q fn} (M:Out→af→Prop) (hf:E.fn f=some fn) (hn:as.length=fn.np) (h1:W E (.code fn.body (gp as)) H M)
   (h2:∀o H',M o H'→∃R' bs,(o=.ex .normal R'∨o=.ex .ret R')∧marks (R' fn.n)=some bs∧bs.Nodup∧(∀b∈bs,H'[b]?=some .zf)∧∃v,pt R' (kill H' bs) fn.res=some v∧Q (.val v) (kill H' bs)):W E (.call f as) H Q
 | fn {f as H Q fn} (M:Out→af→Prop) (hf:E.fn f=some fn) (hr:fn.body.lP=false) (hn:as.length=fn.np) (h1:W E (.code fn.body (gp as)) H M)
   (h2:∀o H',M o H'→∃R',(o=.ex .normal R'∨o=.ex .ret R')∧∃v,pt R' H' fn.res=some v∧Q (.val v) H'):W E (.call f as) H Q
 | A0 {f as H Q b off len n} (i:Nat) (M:Out→af→Prop) (hi:as[i]?=some (.ay b off len n)) (h1:∀c,len≤c→W E (.call f (as.set i (.dQ b off len n c))) H M) (h2:∀v H',M (.val v) H'→Q (.val (zg v)) H'):W E (.call f as) H Q
 | pJ {f as H Q} (M:Out→af→Prop) (h1:W E (.call f as) H M) (h2:∀o H',M o H'→∃v b cs,o=.val v∧zh b v∧H'[b]?=some (.cells cs)∧Q (.val (xN b cs v)) (H'.set b .dead)):W E (.call f as) H Q
 | pI {d x g s l R H Q b bi es ix cur} (hg:bL R g=true) (hx:x.ev R=.ptr bi 0) (hb:H[b]?=some (.cP es ix bi cur))
   (hs:∀t H',mZ H b bi es ix t H'→ju R H' s) (h:∀t H',mZ H b bi es ix t H'→W E (.ops l (bA R d t)) H' Q):W E (.ops (⟨d,.b (.pI x),g,s⟩ :: l) R) H Q
 | shr {f as H Q} (M:Out→af→Prop) (h1:W E (.call f as) H M) (h2:∀o H',M o H'→∃v b cs k,o=.val v∧zh b v∧H'[b]?=some (.cells cs)∧Q (.val v) (H'.set b (.cells (cs.take k)))):W E (.call f as) H Q
 | A1 {f as H Q b off len n cs} (i:Nat) (hi:as[i]?=some (.ay b off len n)) (hb:H[b]?=some (.cells cs)) (h:W E (.call f (as.map (xN b cs))) (H.set b .dead) Q):W E (.call f as) H Q
 | ob {f as H Q} (h:E.ob f as H fun v H'=>Q (.val v) H'):W E (.call f as) H Q
inductive Ow where
 | free|lQ|mut (b:Nat)|spare (t:Nat)
 deriving DecidableEq
structure Ctx where
 φ:Nat→Option (Nat×Nat×Nat)
 κ:Nat→Nat→Ow
 π:Nat→Nat→Option (Nat×Nat×Nat)
 ck:Nat→C→Code→Prop
def A2 (g:Ctx)(w:World)(r o:Nat)(v:Value):Prop:=g.κ r o=.lQ∧w.cell? ⟨r,o,none⟩=some v
def gx (g:Ctx)(k:SK)(r o len cap n:Nat):Prop :=
 match k with
 | .nil=>False
 | .arg=>True
 | .full=>cap=len
 | .own t e=>g.π t e=some (r,o+len*n,o+cap*n)∧0<len
inductive VR (g:Ctx)(w:World):T→Value→Prop
 | int (k n):VR g w (.int k n) (.int k n)
 | bool (b):VR g w (.bool b) (.bool b)
 | str (s):VR g w (.str s) (.string s)
 | bV:VR g w .bV (.pointer none)
 | ptr {b off r o q} (h:g.φ b=some (r,o,q)):VR g w (.ptr b off) (.pointer (some ⟨r,o+off,none⟩))
 | dL {cs r o} (cQ:Nat→Value) (h1:∀(j:Nat) (t:T),cs[j]?=some t→t.one=true∧A2 g w r (o+j) (cQ j)) (h2:∀(j:Nat) (t:T),cs[j]?=some t→VR g w t (cQ j)) :
   VR g w (.dL cs) (.pointer (some ⟨r,o,none⟩))
 | gh:VR g w .gh (.map none)
 | map {b r o q} (h:g.φ b=some (r,o,q)):VR g w (.map b) (.map (some r))
 | slnil:VR g w (.sl .nil []) (.slice none 0 0)
 | ir (a:Option Addr):VR g w (.sl .arg []) (.slice a 0 0)
 | sl {k es r o cap n} (cQ:Nat→Nat→Value) (hk:gx g k r o es.length cap n) (hc:es.length≤cap) (hn:∀c∈es,c.length=n)
   (h1:∀(i j:Nat) (c:List T) (t:T),es[i]?=some c→c[j]?=some t→t.one=true∧A2 g w r (o+i*n+j) (cQ i j))
   (h2:∀(i j:Nat) (c:List T) (t:T),es[i]?=some c→c[j]?=some t→VR g w t (cQ i j)) :
   VR g w (.sl k es) (.slice (some ⟨r,o,none⟩) es.length cap)
 | ay {b off len n r o q cap} (h:g.φ b=some (r,o,q)) (hc:len≤cap) (hq:o+off+cap*n=q):VR g w (.ay b off len n) (.slice (some ⟨r,o+off,none⟩) len cap)
 | dQ {b off len n r o q c} (h:g.φ b=some (r,o,q)) (hc:len≤c) (hq:o+off+c*n=q):VR g w (.dQ b off len n c) (.slice (some ⟨r,o+off,none⟩) len c)
 | mg:VR g w .mg .nilFunc
 | fn {f ke vs} (hl:vs.size=ke.length) (h:∀(i:Nat) (t:T) (v:Value),ke[i]?=some t→vs[i]?=some v→VR g w t v):VR g w (.fn f ke) (.func (.func f) #[] vs)
 | mO {b r o q} (h:g.φ b=some (r,o,q)):VR g w (.mO b) (.func (.yield r) #[] #[])
 | gk:VR g w .gk .nilIface
 | agg {cs vs} (hl:vs.size=cs.length) (h1:∀t∈cs,t.one=true) (h2:∀(i:Nat) (t:T) (v:Value),cs[i]?=some t→vs[i]?=some v→VR g w t v):VR g w (.agg cs) (.agg vs)
 | bN {cs vs} (hl:vs.size=cs.length) (h2:∀(i:Nat) (t:T) (v:Value),cs[i]?=some t→vs[i]?=some v→VR g w t v):VR g w (.bN cs) (.tuple vs)
structure Le (g:Ctx)(w:World)(g':Ctx)(w':World):Prop where
 φ:∀b x,g.φ b=some x→g'.φ b=some x
 κ:∀r o,g.κ r o=.lQ→g'.κ r o=.lQ
 π:∀t e x,g.π t e=some x→g'.π t e=some x
 cell:∀r o v,g.κ r o=.lQ→w.cell? ⟨r,o,none⟩=some v→w'.cell? ⟨r,o,none⟩=some v
 ck:g'.ck=g.ck
theorem Le.refl (g:Ctx)(w:World):Le g w g w:=⟨fun _ _ h=>h,fun _ _ h=>h,fun _ _ _ h=>h,fun _ _ _ _ h=>h,rfl⟩
theorem Le.trans {g g' Qc:Ctx}{w w' Qd:World}(h:Le g w g' w')(h':Le g' w' Qc Qd):Le g w Qc Qd :=
 ⟨fun b x e=>h'.φ b x (h.φ b x e),fun r o e=>h'.κ r o (h.κ r o e),fun t e x k=>h'.π t e x (h.π t e x k),fun r o v k e=>h'.cell r o v (h.κ r o k) (h.cell r o v k e),h'.ck.trans h.ck⟩
theorem A2.mono {g g':Ctx}{w w':World}(le:Le g w g' w'){r o:Nat}{v:Value}(h:A2 g w r o v):A2 g' w' r o v:=⟨le.κ _ _ h.1,le.cell _ _ _ h.1 h.2⟩
theorem gx.mono {g g':Ctx}{w w':World}(le:Le g w g' w'){k:SK}{r o len cap n:Nat}(h:gx g k r o len cap n):gx g' k r o len cap n:=by
 cases k with
 | nil=>exact h
 | arg=>exact h
 | full=>exact h
 | own t e=>exact⟨le.π _ _ _ h.1,h.2⟩
theorem VR.mono {g g':Ctx}{w w':World}(le:Le g w g' w'){t:T}{v:Value}(h:VR g w t v):VR g' w' t v:=by
 induction h with
 | int k n=>exact .int k n
 | bool b=>exact .bool b
 | str s=>exact .str s
 | bV=>exact .bV
 | ptr h=>exact .ptr (le.φ _ _ h)
 | dL cQ h1 _ ih=>exact .dL cQ (fun j t e=>⟨(h1 j t e).1,(h1 j t e).2.mono le⟩) ih
 | gh=>exact .gh
 | map h=>exact .map (le.φ _ _ h)
 | slnil=>exact .slnil
 | ir a=>exact .ir a
 | sl cQ hk hc hn h1 _ ih=>exact .sl cQ (hk.mono le) hc hn (fun i j c t a b=>⟨(h1 i j c t a b).1,(h1 i j c t a b).2.mono le⟩) ih
 | ay h hc hq=>exact .ay (le.φ _ _ h) hc hq
 | dQ h hc hq=>exact .dQ (le.φ _ _ h) hc hq
 | mg=>exact .mg
 | fn hl _ ih=>exact .fn hl ih
 | mO h=>exact .mO (le.φ _ _ h)
 | gk=>exact .gk
 | agg hl h1 _ ih=>exact .agg hl h1 ih
 | bN hl _ ih=>exact .bN hl ih
theorem VR.erase {g:Ctx}{w:World}{t:T}{v:Value}(h:VR g w t v):VR g w t.erase v:=by
 cases h with
 | sl cQ hk hc hn h1 h2=>exact .sl cQ trivial hc hn h1 h2
 | slnil=>exact .ir none
 | ir a=>exact .ir a
 | int k n=>exact .int k n
 | bool b=>exact .bool b
 | str s=>exact .str s
 | bV=>exact .bV
 | ptr h=>exact .ptr h
 | dL cQ h1 h2=>exact .dL cQ h1 h2
 | gh=>exact .gh
 | map h=>exact .map h
 | ay h hc hq=>exact .ay h hc hq
 | dQ h hc hq=>exact .dQ h hc hq
 | mg=>exact .mg
 | fn hl h=>exact .fn hl h
 | mO h=>exact .mO h
 | gk=>exact .gk
 | agg hl h1 h2=>exact .agg hl h1 h2
 | bN hl h2=>exact .bN hl h2
theorem A3 (t:T):t.erase.one=t.one:=by cases t<;>rfl
theorem VR.iu {g:Ctx}{w:World}{t:T}{v:Value}(h:VR g w t v)(ho:t.one=true):v.oneCell'=true:=by
 cases h<;>simp_all [T.one,Value.oneCell']
def pK (g:Ctx)(w:World)(b:Nat)(cs:List T)(r o q:Nat):Prop :=
 o+cs.length≤q∧(∀j,o≤j→j<q→g.κ r j=.mut b∧w.frozen? ⟨r,j,none⟩=false∧(w.cell? ⟨r,j,none⟩).isSome=true) ∧
 ∀(i:Nat) (t:T),cs[i]?=some t→t.one=true∧∃v,w.cell? ⟨r,o+i,none⟩=some v∧VR g w t v
def dS (g:Ctx)(w:World)(es:List (T×T))(av:Array MapEntry):Prop :=
 av.size=es.length∧∀(i:Nat) (e:T×T) (m:MapEntry),es[i]?=some e→av[i]?=some m→VR g w e.1 m.key∧VR g w e.2 m.val
def ff (av:Array MapEntry)(clock:Nat):Prop:=(∀m∈av.toList,m.born<clock)∧(av.toList.map (·.born)).Nodup
def HK (av:Array MapEntry)(seen:Array Nat)(ix:List Nat)(cur:Option Nat):Prop :=
 ix.Nodup∧(∀i,i∈ix↔∃m,av[i]?=some m∧m.born∉seen)∧∀c,cur=some c→∃m,av[c]?=some m∧seen.back?=some m.born
def Qe (g:Ctx)(w:World)(t e:Nat):Prop :=
 ∃r p q,g.π t e=some (r,p,q)∧p≤q∧(∀j,p≤j→j<q→g.κ r j=.spare t∧w.frozen? ⟨r,j,none⟩=false∧(w.cell? ⟨r,j,none⟩).isSome=true)∧∀e',e<e'→g.π t e'=none
def Mb.real:Mb→LoopState
 | .ready=>.ready
 | .busy=>.busy
 | .done=>.done
def vH:Option Ex→Option Code
 | some .ret=>some .ret
 | some (.exit id)=>some (.exit id)
 | _=>none
def ub (g:Ctx)(w:World)(st:Mb)(ft:Option Ex)(n:Nat)(R:Nat→T)(ps:List Nat)(bZ body:C)(rec:Loop):Prop :=
 rec.state=st.real∧rec.pending=vH ft∧rec.params.toList=ps∧rec.tmps.size=n∧(∀t,t<n→VR g w (R t) (rec.tmps.getD t undef))∧(∀p∈ps,p<n)∧g.ck n bZ rec.assign∧g.ck n body rec.body
def zj (g:Ctx)(w:World)(b:Nat):B→Prop
 | .cells cs=>∀r o q,g.φ b=some (r,o,q)→pK g w b cs r o q
 | .map es=>∀r o q,g.φ b=some (r,o,q)→g.κ r 0=.mut b∧∃av clock,w.heap[r]?=some (.map av clock)∧dS g w es av∧ff av clock
 | .tok e=>Qe g w b e
 | .loop st ft n R ps bZ body=>∀r o q,g.φ b=some (r,o,q)→g.κ r 0=.mut b∧∃rec,w.heap[r]?=some (.loop rec)∧ub g w st ft n R ps bZ body rec
 | .zf=>∀r o q,g.φ b=some (r,o,q)→g.κ r 0=.mut b∧w.heap[r]?=some (.deferred (some []))
 | .dead=>True
 | .cP es ix bi cur=>∃r o q,g.φ b=some (r,o,q)∧g.κ r 0=.mut b∧∃av clock,w.heap[r]?=some (.map av clock)∧dS g w es av∧ff av clock ∧
   ∃ri q' seen,g.φ bi=some (ri,0,q')∧g.κ ri 0=.mut b∧w.heap[ri]?=some (.mapIter (some r) clock seen clock)∧HK av seen ix cur
 | .ua _=>True
structure SR (w0:World)(g:Ctx)(H:af)(w:World):Prop where
 size:w0.heap.size≤w.heap.size
 jv:∀r,r<w0.heap.size→w.heap[r]?=w0.heap[r]?
 A4:∀r o,r<w0.heap.size→g.κ r o=.lQ
 fresh:∀r o,w.heap.size≤r→g.κ r o=.free
 rV:∀b x,g.φ b=some x→b<H.length
 iP:∀t e x,g.π t e=some x→t<H.length
 dP:∀b x,H[b]?=some x→zj g w b x
 pJ:∀r j,w0.heap.size≤r→w.frozen? ⟨r,j,none⟩=false
 env:w.os=w0.os∧w.output=w0.output
def fg:Obj→Bool
 | .map _ _ | .loop _ | .deferred _ | .mapIter _ _ _ _=>true
 | _=>false
structure Tr (w w':World)(S:Nat→Nat→Prop)(M:Nat→Prop):Prop where
 size:w.heap.size≤w'.heap.size
 cell:∀r j,r<w.heap.size→¬S r j→w'.cell? ⟨r,j,none⟩=w.cell? ⟨r,j,none⟩
 pJ:∀r j,r<w.heap.size→w'.frozen? ⟨r,j,none⟩=w.frozen? ⟨r,j,none⟩
 dE:∀r j,r<w.heap.size→(w.cell? ⟨r,j,none⟩).isSome=true→(w'.cell? ⟨r,j,none⟩).isSome=true
 maps:∀r x,¬M r→fg x=true→w.heap[r]?=some x→w'.heap[r]?=some x
 jv:∀r,r<w.heap.size→¬M r→(∀j,¬S r j)→w'.heap[r]?=w.heap[r]?
 xO:∀r j,w.heap.size≤r→w'.frozen? ⟨r,j,none⟩=false
 env:w'.os=w.os∧w'.output=w.output
theorem dp {w:World}{r j:Nat}(h:w.heap.size≤r):w.frozen? ⟨r,j,none⟩=false:=by
 unfold World.frozen?
 rw[Array.getElem?_eq_none h]
theorem jw {w:World}{r j:Nat}{v:Value}(h:w.cell? ⟨r,j,none⟩=some v):r<w.heap.size:=by
 unfold World.cell? at h
 cases hr:w.heap[r]? with
 | none=>simp[hr]at h
 | some x=>exact(Array.getElem?_eq_some_iff.1 hr).1
theorem pK.mono {g g':Ctx}{w w':World}{b:Nat}{cs:List T}{r o q:Nat}(h:pK g w b cs r o q)(le:Le g w g' w')
  (hκ:∀j,o≤j→j<q→g'.κ r j=.mut b) (hf:∀j,o≤j→j<q→w'.frozen? ⟨r,j,none⟩=w.frozen? ⟨r,j,none⟩∧w'.cell? ⟨r,j,none⟩=w.cell? ⟨r,j,none⟩):pK g' w' b cs r o q:=by
 obtain⟨h1,h2,h3⟩:=h
 refine⟨h1,fun j hj hq=>⟨hκ j hj hq,by rw[(hf j hj hq).1];exact(h2 j hj hq).2.1,by rw[(hf j hj hq).2];exact(h2 j hj hq).2.2⟩,fun i t hi=>?_⟩
 have ax:i<cs.length:=(List.getElem?_eq_some_iff.1 hi).1
 obtain⟨h4,v,h5,h6⟩:=h3 i t hi
 exact⟨h4,v,by rw[(hf (o+i) (by omega) (by omega)).2];exact h5,h6.mono le⟩
theorem dS.mono {g g':Ctx}{w w':World}{es:List (T×T)}{av:Array MapEntry}(h:dS g w es av)(le:Le g w g' w'):dS g' w' es av :=
 ⟨h.1,fun i e m a b=>⟨(h.2 i e m a b).1.mono le,(h.2 i e m a b).2.mono le⟩⟩
theorem ub.mono {g g':Ctx}{w w':World}{st:Mb}{ft:Option Ex}{n:Nat}{R:Nat→T}{ps:List Nat}{bZ body:C}{rec:Loop}(h:ub g w st ft n R ps bZ body rec)(le:Le g w g' w'):ub g' w' st ft n R ps bZ body rec:=by
 obtain⟨h1,h2,h3,h4,h5,h6,h7,h8⟩:=h
 exact⟨h1,h2,h3,h4,fun t ht=>(h5 t ht).mono le,h6,by rw[le.ck];exact h7,by rw[le.ck];exact h8⟩
theorem SR.step {w0 w w':World}{g g':Ctx}{H H':af}(h:SR w0 g H w)(Mc:Nat→Prop){S:Nat→Nat→Prop}{M:Nat→Prop}(tr:Tr w w' S M)(le:Le g w g' w')
  (hS:∀r j,S r j→g.κ r j=.free∨(∃b,g.κ r j=.mut b∧Mc b)∨∃b,g.κ r j=.spare b∧Mc b) (hM:∀r,M r→∃b,g.κ r 0=.mut b∧Mc b)
  (Md:∀r o,w'.heap.size≤r→g'.κ r o=.free) (VT:∀b x,g'.φ b=some x→b<H'.length) (Qf:∀t e x,g'.π t e=some x→t<H'.length)
  (kφ:∀b,b<H.length→¬Mc b→g'.φ b=g.φ b) (kκ:∀r j b,¬Mc b→(g.κ r j=.mut b→g'.κ r j=.mut b)∧(g.κ r j=.spare b→g'.κ r j=.spare b))
  (kπ:∀t e,t<H.length→¬Mc t→g'.π t e=g.π t e)
  (hb:∀b x,H'[b]?=some x→(¬Mc b∧H[b]?=some x)∨zj g' w' b x):SR w0 g' H' w':=by
 have nS:∀r j,r<w0.heap.size→¬S r j:=by
  intro r j hr hs
  have:=h.A4 r j hr
  rcases hS r j hs with e|⟨b,e,_⟩|⟨b,e,_⟩<;>simp[this]at e
 have nM:∀r,r<w0.heap.size→¬M r:=by
  intro r hr hm
  have:=h.A4 r 0 hr
  obtain⟨b,e,_⟩:=hM r hm
  simp[this]at e
 refine⟨Nat.le_trans h.size tr.size,fun r hr=>?_,fun r o hr=>le.κ _ _ (h.A4 r o hr),Md,VT,Qf,fun b x hx=>?_,fun r j hr=>(by
  by_cases hw:r<w.heap.size
  ·rw[tr.pJ r j hw];exact h.pJ r j hr
  ·exact tr.xO r j (by omega)),tr.env.1.trans h.env.1,tr.env.2.trans h.env.2⟩
 ·rw[tr.jv r (Nat.lt_of_lt_of_le hr h.size) (nM r hr) (fun j=>nS r j hr)]
  exact h.jv r hr
 ·rcases hb b x hx with⟨nt,jr⟩|pL
  ·have ax:b<H.length:=(List.getElem?_eq_some_iff.1 jr).1
   have hk:=h.dP b x jr
   have nSm:∀r j,g.κ r j=.mut b∨g.κ r j=.spare b→¬S r j:=by
    intro r j hm hs
    rcases hS r j hs with e|⟨b',e,ht⟩|⟨b',e,ht⟩<;>rcases hm with hm|hm<;>simp[hm]at e
    ·exact nt (e▸ht)
    ·exact nt (e▸ht)
   cases x with
   | cells cs =>
    intro r o q hφ
    have ka:g.φ b=some (r,o,q):=by rw[←kφ b ax nt];exact hφ
    have hc:=hk r o q ka
    refine hc.mono le (fun j a c=>(kκ r j b nt).1 (hc.2.1 j a c).1) fun j a c=>?_
    have hh:=hc.2.1 j a c
    have hr:r<w.heap.size:=by
     cases hv:w.cell? ⟨r,j,none⟩with
     | none=>simp[hv]at hh
     | some v=>exact jw hv
    exact⟨tr.pJ r j hr,tr.cell r j hr (nSm r j (.inl hh.1))⟩
   | map es =>
    intro r o q hφ
    have ka:g.φ b=some (r,o,q):=by rw[←kφ b ax nt];exact hφ
    obtain⟨h1,av,c,h2,h3⟩:=hk r o q ka
    refine⟨(kκ r 0 b nt).1 h1,av,c,tr.maps r _ (fun hm=>?_) rfl h2,h3.1.mono le,h3.2⟩
    obtain⟨b',e,ht⟩:=hM r hm
    rw[h1]at e;cases e;exact nt ht
   | cP es ix bi cur =>
    obtain⟨r,o,q,hφ,h1,av,c,h2,h3,h4,ri,q',seen,h5,h6,h7,h8⟩:=hk
    refine⟨r,o,q,le.φ _ _ hφ,(kκ r 0 b nt).1 h1,av,c,tr.maps r _ (fun hm=>?_) rfl h2,h3.mono le,h4,ri,q',seen,le.φ _ _ h5,(kκ ri 0 b nt).1 h6,tr.maps ri _ (fun hm=>?_) rfl h7,h8⟩
    ·obtain⟨b',e,ht⟩:=hM r hm
     rw[h1]at e;cases e;exact nt ht
    ·obtain⟨b',e,ht⟩:=hM ri hm
     rw[h6]at e;cases e;exact nt ht
   | ua _=>trivial
   | tok e =>
    obtain⟨r,p,q,h1,h2,h3,h4⟩:=hk
    refine⟨r,p,q,le.π _ _ _ h1,h2,fun j a c=>?_,fun e' he=>by rw[kπ b e' ax nt];exact h4 e' he⟩
    have hh:=h3 j a c
    have hr:r<w.heap.size:=by
     cases hv:w.cell? ⟨r,j,none⟩with
     | none=>simp[hv]at hh
     | some v=>exact jw hv
    exact⟨(kκ r j b nt).2 hh.1,by rw[tr.pJ r j hr];exact hh.2.1,by rw[tr.cell r j hr (nSm r j (.inr hh.1))];exact hh.2.2⟩
   | loop st ft n R ps bZ body =>
    intro r o q hφ
    have ka:g.φ b=some (r,o,q):=by rw[←kφ b ax nt];exact hφ
    obtain⟨h1,rec,h2,h3⟩:=hk r o q ka
    refine⟨(kκ r 0 b nt).1 h1,rec,tr.maps r _ (fun hm=>?_) rfl h2,h3.mono le⟩
    obtain⟨b',e,ht⟩:=hM r hm
    rw[h1]at e;cases e;exact nt ht
   | zf =>
    intro r o q hφ
    have ka:g.φ b=some (r,o,q):=by rw[←kφ b ax nt];exact hφ
    obtain⟨h1,h2⟩:=hk r o q ka
    refine⟨(kκ r 0 b nt).1 h1,tr.maps r _ (fun hm=>?_) rfl h2⟩
    obtain⟨b',e,ht⟩:=hM r hm
    rw[h1]at e;cases e;exact nt ht
   | dead=>trivial
  ·exact pL
def Fr (g:Ctx)(H:af)(g':Ctx)(H':af):Prop :=
 H.length≤H'.length∧∀b x,H[b]?=some x→(∀e,x≠.tok e)→g.φ b=none→H'[b]?=some x∧g'.φ b=none
theorem Fr.refl (g:Ctx)(H:af):Fr g H g H:=⟨Nat.le_refl _,fun _ _ h _ k=>⟨h,k⟩⟩
theorem Fr.trans {g g' Qc:Ctx}{H H' vI:af}(h:Fr g H g' H')(h':Fr g' H' Qc vI):Fr g H Qc vI :=
 ⟨Nat.le_trans h.1 h'.1,fun b x a c d=>let ⟨e,f⟩:=h.2 b x a c d;h'.2 b x e c f⟩
def b6 (P:Program)(w0:World)(g:Ctx)(H:af)(w:World)(s:Sem Value)(t:T)(H':af):Prop :=
 ∃v w' g',s.run P w=.ok v w'∧Le g w g' w'∧SR w0 g' H' w'∧VR g' w' t v∧Fr g H g' H'
theorem b6.same {P:Program}{w0:World}{g:Ctx}{H:af}{w:World}{s:Sem Value}{t:T}{v:Value}(h:SR w0 g H w)(hr:s.run P w=.ok v w)(hv:VR g w t v):b6 P w0 g H w s t H :=
 ⟨v,w,g,hr,.refl _ _,h,hv,.refl _ _⟩
def bD (g:Ctx)(w:World)(ts:List T)(vs:List Value):Prop:=ts.length=vs.length∧∀(i:Nat) (t:T) (v:Value),ts[i]?=some t→vs[i]?=some v→VR g w t v
theorem bD.mono {g g':Ctx}{w w':World}(le:Le g w g' w'){ts:List T}{vs:List Value}(h:bD g w ts vs):bD g' w' ts vs:=⟨h.1,fun i t v a b=>(h.2 i t v a b).mono le⟩
theorem bD.nil {g:Ctx}{w:World}:bD g w [] []:=⟨rfl,fun i t v h=>by simp at h⟩
theorem bD.cons {g:Ctx}{w:World}{t:T}{v:Value}{ts:List T}{vs:List Value}(h:VR g w t v)(hs:bD g w ts vs):bD g w (t :: ts) (v :: vs) :=
 ⟨by simp[hs.1],fun i a b ha hb=>by
  cases i with
  | zero=>simp at ha hb;subst ha;subst hb;exact h
  | succ i=>exact hs.2 i a b (by simpa using ha) (by simpa using hb)⟩
theorem bD.head {g:Ctx}{w:World}{t:T}{v:Value}{ts:List T}{vs:List Value}(h:bD g w (t :: ts) (v :: vs)):VR g w t v:=h.2 0 t v rfl rfl
theorem bD.tail {g:Ctx}{w:World}{t:T}{v:Value}{ts:List T}{vs:List Value}(h:bD g w (t :: ts) (v :: vs)):bD g w ts vs :=
 ⟨by have:=h.1;simpa using this,fun i a b ha hb=>h.2 (i+1) a b (by simpa using ha) (by simpa using hb)⟩
theorem bD.append {g:Ctx}{w:World}{ts Me:List T}{vs Pw:List Value}(h:bD g w ts vs)(h':bD g w Me Pw):bD g w (ts++Me) (vs++Pw):=by
 refine⟨by simp[h.1,h'.1],fun i t v ha hb=>?_⟩
 rw[List.getElem?_append]at ha hb
 rw[←h.1]at hb
 split at ha
 ·rename_i hi;rw[if_pos hi]at hb;exact h.2 i t v ha hb
 ·rename_i hi;rw[if_neg hi]at hb;exact h'.2 _ t v ha hb
theorem bD.take {g:Ctx}{w:World}{ts:List T}{vs:List Value}(n:Nat)(h:bD g w ts vs):bD g w (ts.take n) (vs.take n) :=
 ⟨by simp[h.1],fun i t v ha hb=>by
  rw[List.getElem?_take]at ha hb
  split at ha
  ·rename_i hi;rw[if_pos hi]at hb;exact h.2 i t v ha hb
  ·simp at ha⟩
theorem bD.drop {g:Ctx}{w:World}{ts:List T}{vs:List Value}(n:Nat)(h:bD g w ts vs):bD g w (ts.drop n) (vs.drop n) :=
 ⟨by simp[h.1],fun i t v ha hb=>by
  rw[List.getElem?_drop]at ha hb
  exact h.2 _ t v ha hb⟩
def cy (cs:List T):Prop:=∀t∈cs,t.one=true
theorem bD.iu {g:Ctx}{w:World}{ts:List T}{vs:List Value}(h:bD g w ts vs)(ho:cy ts):∀v∈vs,v.oneCell'=true:=by
 intro v hv
 obtain⟨i,hi,rfl⟩:=List.getElem_of_mem hv
 have jU:i<ts.length:=by rw[h.1];exact hi
 exact(h.2 i ts[i] vs[i] (List.getElem?_eq_getElem jU) (List.getElem?_eq_getElem hi)).iu (ho _ (List.getElem_mem jU))
theorem db (r o j:Nat):(⟨r,o,none⟩:Addr).add j=⟨r,o+j,none⟩:=by
 unfold Addr.add;split<;>simp_all
theorem qg {w:World}{r o:Nat}:∀(n:Nat) (f:Nat→Value),(∀j,j<n→w.cell? ⟨r,o+j,none⟩=some (f j))→∀(j:Nat) (v:Value),((List.range n).map f)[j]?=some v→w.cell? ⟨r,o+j,none⟩=some v:=by
 intro n f h j v hv
 have hj:j<n:=by
  have:=(List.getElem?_eq_some_iff.1 hv).1
  simpa using this
 rw[h j hj]
 simp[hj]at hv
 rw[hv]
theorem oc {w0 w:World}{g:Ctx}{H:af}{n:Nat}{p:T}{vp:Value}{cs:List T}(h:SR w0 g H w)(hv:VR g w p vp)(he:pr H n p=some cs) :
  ∃r o vs,vp=.pointer (some ⟨r,o,none⟩)∧vs.length=n∧(∀(j:Nat) (v:Value),vs[j]?=some v→w.cell? ⟨r,o+j,none⟩=some v)∧bD g w cs vs∧cy cs:=by
 cases hv with
 | @ptr b off r o q hφ =>
  simp only[pr]at he
  cases hb:H[b]? with
  | none=>simp[hb]at he
  | some x =>
   cases x with
   | cells KO =>
    simp only[hb]at he
    split at he
    ·rename_i hle
     simp at he
     subst he
     obtain⟨h1,h2,h3⟩:=h.dP b _ hb r o q hφ
     have key:∀j,j<n→∃t v,KO[off+j]?=some t∧t.one=true∧w.cell? ⟨r,o+off+j,none⟩=some v∧VR g w t v:=by
      intro j hj
      have ax:off+j<KO.length:=by omega
      obtain⟨a,v,b',c⟩:=h3 (off+j) KO[off+j] (List.getElem?_eq_getElem ax)
      exact⟨_,v,List.getElem?_eq_getElem ax,a,by rw[Nat.add_assoc];exact b',c⟩
     refine⟨r,o+off,(List.range n).map (fun j=>(w.cell? ⟨r,o+off+j,none⟩).getD undef),rfl,by simp,qg n _ (fun j hj=>?_),⟨by simp;omega,fun i t v ha iW=>?_⟩,fun t ht=>?_⟩
     ·obtain⟨t,v,_,_,e,_⟩:=key j hj
      simp[e]
     ·have hi:i<n:=by
       have:=(List.getElem?_eq_some_iff.1 iW).1
       simpa using this
      obtain⟨t',v',e1,e2,e3,e4⟩:=key i hi
      simp[hi]at iW
      rw[e3]at iW;simp at iW
      rw[List.getElem?_take,if_pos hi,List.getElem?_drop,e1]at ha
      simp at ha
      subst ha;subst iW;exact e4
     ·obtain⟨i,hi,rfl⟩:=List.getElem_of_mem ht
      simp at hi
      obtain⟨t',v',e1,e2,_,_⟩:=key i (by omega)
      have Mf:=(List.getElem?_eq_some_iff.1 e1).2
      simp[Mf,e2]
    ·simp at he
   | map _=>simp[hb]at he
   | tok _=>simp[hb]at he
   | _=>simp[hb]at he
 | @dL KO r o cQ h1 h2 =>
  simp only[pr]at he
  split at he
  ·rename_i hle
   simp at he
   subst he
   have get:∀i,i<n→∃t,KO[i]?=some t:=fun i hi=>⟨KO[i]'(by omega),List.getElem?_eq_getElem _⟩
   refine⟨r,o,(List.range n).map cQ,rfl,by simp,qg n _ (fun j hj=>?_),⟨by simp;omega,fun i t v ha hb=>?_⟩,fun t ht=>?_⟩
   ·obtain⟨t,e⟩:=get j hj
    exact(h1 j t e).2.2
   ·have hi:i<n:=by
     have:=(List.getElem?_eq_some_iff.1 hb).1
     simpa using this
    simp[hi]at hb
    rw[List.getElem?_take,if_pos hi]at ha
    rw[←hb];exact h2 i t ha
   ·obtain⟨i,hi,rfl⟩:=List.getElem_of_mem ht
    simp at hi
    have:KO[i]?=some KO[i]:=List.getElem?_eq_getElem _
    simp
    exact(h1 i _ this).1
  ·simp at he
 | _=>simp[pr]at he
theorem bD.agg {g:Ctx}{w:World}{cs:List T}{vs:List Value}(h:bD g w cs vs)(ho:cy cs):VR g w (.agg cs) (.agg vs.toArray) :=
 .agg (by simp[h.1]) ho (fun i t v ha hb=>h.2 i t v ha (by simpa using hb))
theorem bD.bN {g:Ctx}{w:World}{cs:List T}{vs:List Value}(h:bD g w cs vs):VR g w (.bN cs) (.tuple vs.toArray) :=
 .bN (by simp[h.1]) (fun i t v ha hb=>h.2 i t v ha (by simpa using hb))
theorem VR.fK {g:Ctx}{w:World}{cs:List T}{v:Value}(h:VR g w (.agg cs) v):∃vs:List Value,v=.agg vs.toArray∧bD g w cs vs∧cy cs:=by
 cases h with
 | @agg _ vs hl h1 h2=>exact⟨vs.toList,by simp,⟨by simp[hl],fun i t v ha hb=>h2 i t v ha (by simpa using hb)⟩,h1⟩
theorem VR.HL {g:Ctx}{w:World}{cs:List T}{v:Value}(h:VR g w (.bN cs) v):∃vs:List Value,v=.tuple vs.toArray∧bD g w cs vs:=by
 cases h with
 | @bN _ vs hl h2=>exact⟨vs.toList,by simp,⟨by simp[hl],fun i t v ha hb=>h2 i t v ha (by simpa using hb)⟩⟩
theorem jd {g:Ctx}{w:World}{t:T}{v:Value}{cs:List T}(h:VR g w t v)(hc:t.cells?=some cs):bD g w cs v.cells.toList∧cy cs:=by
 by_cases ha:∃c,t=.agg c
 ·obtain⟨c,rfl⟩:=ha
  simp[T.cells?]at hc;subst hc
  obtain⟨vs,rfl,h1,h2⟩:=h.fK
  exact⟨by simpa[Value.cells]using h1,h2⟩
 ·by_cases ht:∃c,t=.bN c
  ·obtain⟨c,rfl⟩:=ht;simp[T.cells?]at hc
  ·have e:cs=[t]:=by cases t<;>simp_all [T.cells?]
   have o:t.one=true:=by cases t<;>simp_all [T.one]
   have ev:v.cells=#[v]:=by
    have:=h.iu o
    cases v<;>simp_all [Value.cells,Value.oneCell']
   subst e
   rw[ev]
   exact⟨bD.cons h bD.nil,by simpa[cy]using o⟩
theorem qh {g:Ctx}{w:World}{cs:List T}{vs:List Value}{ag:Bool}{t:T}(h:bD g w cs vs)(ho:cy cs)(hv:valOf ag cs=some t) :
  (ag=true→VR g w t (.agg vs.toArray))∧(ag=false→∃v,vs=[v]∧VR g w t v):=by
 cases ag with
 | true=>simp[valOf]at hv;subst hv;exact⟨fun _=>h.agg ho,by simp⟩
 | false =>
  refine⟨by simp,fun _=>?_⟩
  cases cs with
  | nil=>simp[valOf]at hv
  | cons c cs =>
   cases cs with
   | nil =>
    simp[valOf]at hv;subst hv
    cases vs with
    | nil=>have:=h.1;simp at this
    | cons v vs =>
     cases vs with
     | nil=>exact⟨v,rfl,h.head⟩
     | cons _ _=>have:=h.1;simp at this
   | cons _ _=>simp[valOf]at hv
theorem bq {P:Program}{w:World}{t:TypeId}{i:TypeInfo}(h:P.info? t=some i):(typeInfo t).run P w=.ok i w:=by
 simp[typeInfo,h]
def dU:TypeDesc→Bool
 | .struct _ | .array _ _=>true
 | _=>false
theorem eJ {P:Program}{t:TypeId}{d:TypeDesc}(h:P.underlying t=some d)(w:World):(isAgg t).run P w=.ok (dU d) w:=by
 simp only[isAgg,Sem.run_bind,run_underlying h,Result.andThen_ok]
 cases d<;>rfl
theorem Mg {P:Program}{w0 w:World}{g:Ctx}{H:af}{n:Nat}{ag:Bool}{p t:T}{vp:Value}{cs:List T}{ty:TypeId}{d:TypeDesc}{i:TypeInfo}
  (hd:P.underlying ty=some d) (hi:P.info? ty=some i) (uc:dU d=ag) (hn:ag=true→i.size=n)
  (h:SR w0 g H w) (hv:VR g w p vp) (he:pr H n p=some cs) (ht:valOf ag cs=some t):b6 P w0 g H w (Instr.loadAt ty vp) t H:=by
 obtain⟨r,o,vs,rfl,h1,h2,h3,h4⟩:=oc h hv he
 obtain⟨ha,hb⟩:=qh h3 h4 ht
 cases ag with
 | true =>
  refine b6.same h (v:=.agg vs.toArray) ?_ (ha rfl)
  have:=run_loadCells_list (P:=P) w ⟨r,o,none⟩ vs (fun j v hj=>by rw[db];exact h2 j v hj)
  simp[Instr.loadAt,Instr.sureAddr,loadVar,eJ hd,uc,sizeOf,bq hi,hn rfl,←h1,this]
 | false =>
  obtain⟨v,rfl,fD⟩:=hb rfl
  refine b6.same h (v:=v) ?_ fD
  have:=h2 0 v rfl
  simp at this
  simp[Instr.loadAt,Instr.sureAddr,loadVar,eJ hd,uc,run_load,this]
theorem HM {P:Program}{w0 w:World}{g:Ctx}{H:af}{n:Nat}{ag:Bool}{p t:T}{vp:Value}{cs:List T}{ty:TypeId}{d:TypeDesc}{i:TypeInfo}
  (hd:P.underlying ty=some d) (hi:P.info? ty=some i) (uc:dU d=ag) (hn:ag=true→i.size=n)
  (h:SR w0 g H w) (hv:VR g w p vp) (he:pr H n p=some cs) (ht:valOf ag cs=some t):∃v w' g',(Instr.loadAt ty vp).run P w=.ok v w'∧w'=w∧VR g' w t v∧g'=g:=by
 obtain⟨r,o,vs,rfl,h1,h2,h3,h4⟩:=oc h hv he
 obtain⟨ha,hb⟩:=qh h3 h4 ht
 cases ag with
 | true =>
  refine⟨.agg vs.toArray,w,g,?_,rfl,ha rfl,rfl⟩
  have:=run_loadCells_list (P:=P) w ⟨r,o,none⟩ vs (fun j v hj=>by rw[db];exact h2 j v hj)
  simp[Instr.loadAt,Instr.sureAddr,loadVar,eJ hd,uc,sizeOf,bq hi,hn rfl,←h1,this]
 | false =>
  obtain⟨v,rfl,fD⟩:=hb rfl
  refine⟨v,w,g,?_,rfl,fD,rfl⟩
  have:=h2 0 v rfl
  simp at this
  simp[Instr.loadAt,Instr.sureAddr,loadVar,eJ hd,uc,run_load,this]
section
variable {P:Program} {w:World} {op:BinOp} {ty:TypeId} {x y:Operand}
theorem sE {k k':IntKind}{a b:Int}:(eqGuard op ty x y (.int k a) (.int k' b)).run P w=.ok () w:=by cases op<;>rfl
theorem sF {a b:ByteArray}:(eqGuard op ty x y (.string a) (.string b)).run P w=.ok () w:=by cases op<;>rfl
theorem jx {a b:Bool}:(eqGuard op ty x y (.bool a) (.bool b)).run P w=.ok () w:=by cases op<;>rfl
theorem A5 {a b:Option Addr}:(eqGuard op ty x y (.pointer a) (.pointer b)).run P w=.ok () w:=by cases op<;>rfl
theorem vJ {a b:Option Addr}{c d e f:Nat}:(eqGuard op ty x y (.slice a c d) (.slice b e f)).run P w=.ok () w:=by cases op<;>rfl
theorem A6 {a b:Option Nat}:(eqGuard op ty x y (.map a) (.map b)).run P w=.ok () w:=by cases op<;>rfl
theorem CN {f:Go.Fn}{a b:Array Value}:(eqGuard op ty x y (.func f a b) .nilFunc).run P w=.ok () w:=by cases op<;>rfl
theorem CO {f:Go.Fn}{a b:Array Value}:(eqGuard op ty x y .nilFunc (.func f a b)).run P w=.ok () w:=by cases op<;>rfl
theorem CP:(eqGuard op ty x y .nilFunc .nilFunc).run P w=.ok () w:=by cases op<;>rfl
end
section
variable {P:Program} {w:World} {ty:TypeId}
theorem sG (n:Nat)(h:P.underlying ty=some .bool)(a b:Bool):(Op.equalIn (n+1) ty (.bool a) (.bool b)).run P w=.ok (a==b) w:=by
 rw[Op.equalIn];simp only[Sem.run_bind,run_underlying h,Result.andThen_ok];rfl
theorem CQ (n:Nat){k:IntKind}(h:P.underlying ty=some (.int k))(a b:Int)(k':IntKind):(Op.equalIn (n+1) ty (.int k' a) (.int k' b)).run P w=.ok (a==b) w:=by
 rw[Op.equalIn];simp only[Sem.run_bind,run_underlying h,Result.andThen_ok];simp
theorem CR (n:Nat)(h:P.underlying ty=some .string)(a b:ByteArray):(Op.equalIn (n+1) ty (.string a) (.string b)).run P w=.ok (a==b) w:=by
 rw[Op.equalIn];simp only[Sem.run_bind,run_underlying h,Result.andThen_ok];rfl
theorem fP {x y:Value}{b:Bool}(h:∀n,(Op.equalIn (n+1) ty x y).run P w=.ok b w):(Op.equal ty x y).run P w=.ok b w:=h 9999
theorem qi (h:P.underlying ty=some .bool)(a b:Bool):(Op.equal ty (.bool a) (.bool b)).run P w=.ok (a==b) w:=fP fun n=>sG n h a b
end
theorem HN {P:Program}{w0 w:World}{g:Ctx}{H:af}{op:BinOp}{x y t:T}{vx vy:Value}{ty:TypeId}{ox oy:Operand}
  (h:SR w0 g H w) (hx:VR g w x vx) (hy:VR g w y vy) (he:cG op x y=some t):b6 P w0 g H w (do eqGuard op ty ox oy vx vy;binOp op ty vx vy) t H:=by
 cases hx<;>cases hy<;>(try (simp[cG]at he;done))
 case int.int k a k' b =>
  have key:∃v,(binOp op ty (.int k a) (.int k' b)).run P w=.ok v w∧VR g w t v:=by
   cases op<;>simp only[cG]at he<;>(repeat' (split at he))<;>(try (simp at he;done)) <;>
    (simp at he;subst he;first
     | (refine⟨_,?_,.int _ _⟩;simp_all [binOp,Op.shift,Op.intArith,Op.intDiv,Op.intBits,Op.intCmp];done)
     | (refine⟨_,?_,.int _ _⟩;rename_i hs;simp only[binOp,Op.shift,if_neg hs,Sem.run_pure];done)
     | (refine⟨_,?_,.bool _⟩;simp_all [binOp,Op.shift,Op.intArith,Op.intDiv,Op.intBits,Op.intCmp];done))
  obtain⟨v,hr,hv⟩:=key
  refine b6.same h (v:=v) ?_ hv
  simp[sE,sF,jx,hr]
 case str.str a b =>
  have key:∃v,(binOp op ty (.string a) (.string b)).run P w=.ok v w∧VR g w t v:=by
   cases op<;>simp only[cG]at he<;>(repeat' (split at he))<;>(try (simp at he;done)) <;>
    (simp at he;subst he;first
     | (refine⟨_,?_,.str _⟩;rename_i hs;simp[binOp,Op.stringOp,IntKind.max,IntKind.signed,IntKind.bits];omega)
     | (refine⟨_,?_,.bool _⟩;simp[binOp,Op.stringOp,iZ,strLt];done))
  obtain⟨v,hr,hv⟩:=key
  refine b6.same h (v:=v) ?_ hv
  simp[sE,sF,jx,hr]
theorem HO {P:Program}{w0 w:World}{g:Ctx}{H:af}{neg:Bool}{a b:Bool}{vx vy:Value}{ty:TypeId}{ox oy:Operand}(hu:P.underlying ty=some .bool)
  (h:SR w0 g H w) (hx:VR g w (.bool a) vx) (hy:VR g w (.bool b) vy) :
  b6 P w0 g H w (do eqGuard (if neg then .neq else .eql) ty ox oy vx vy;binOp (if neg then .neq else .eql) ty vx vy) (.bool (if neg then !(a==b)else a==b)) H:=by
 cases hx;cases hy
 cases neg
 ·refine b6.same h (v:=.bool (a==b)) ?_ (.bool _)
  simp only[Bool.false_eq_true,if_false,Sem.run_bind,jx,Result.andThen_ok,binOp,qi hu,Sem.run_pure]
 ·refine b6.same h (v:=.bool (!(a==b))) ?_ (.bool _)
  simp only[if_true,Sem.run_bind,jx,Result.andThen_ok,binOp,qi hu,Sem.run_pure]
def CS:HI→TypeDesc→Bool
 | .ptr,.pointer _ | .slice,.slice _ | .map,.map _ _ | .func,.func _ _ _=>true
 | _,_=>false
theorem vK {g:Ctx}{w:World}{c:HI}{x:T}{vx:Value}{b:Bool}(hx:VR g w x vx)(h:jP c x=some b) :
  match c with
  | .ptr=>∃a:Option Addr,vx=.pointer a∧a.isNone=b
  | .slice=>∃(a:Option Addr) (l p:Nat),vx=.slice a l p∧a.isNone=b
  | .map=>∃r:Option Nat,vx=.map r∧r.isNone=b
  | .func=>(b=true∧vx=.nilFunc)∨(b=false∧∃f vs,vx=.func f #[] vs):=by
 cases c<;>cases hx<;>first
  | (change (none:Option Bool)=some b at h;simp at h;done)
  | (change some true=some b at h;simp at h;subst h;simp;done)
  | (change some false=some b at h;simp at h;subst h;simp;done)
  | skip
 case slice.sl k es r o cap n cQ hk hc hn h1 h2 =>
  have hb:b=false:=by
   cases k
   ·exact hk.elim
   ·cases es with
    | nil=>change (none:Option Bool)=some b at h;simp at h
    | cons _ _=>change some false=some b at h;simpa using h.symm
   ·change some false=some b at h;simpa using h.symm
   ·change some false=some b at h;simpa using h.symm
  subst hb
  exact⟨_,_,_,rfl,rfl⟩
theorem HP {P:Program}{w0 w:World}{g:Ctx}{H:af}{neg:Bool}{c:HI}{x y:T}{b:Bool}{vx vy:Value}{ty:TypeId}{ox oy:Operand}{d:TypeDesc}
  (hu:P.underlying ty=some d) (hc:CS c d=true)
  (h:SR w0 g H w) (hx:VR g w x vx) (hy:VR g w y vy) (he:dR c x y=some b) :
  b6 P w0 g H w (do eqGuard (if neg then .neq else .eql) ty ox oy vx vy;binOp (if neg then .neq else .eql) ty vx vy) (.bool (if neg then !b else b)) H:=by
 have key:(∀op,(eqGuard op ty ox oy vx vy).run P w=.ok () w)∧(Op.equal ty vx vy).run P w=.ok b w∧∀neg:Bool,(binOp (if neg then .neq else .eql) ty vx vy).run P w=((Op.equal ty vx vy).run P w).andThen fun b w'=>.ok (.bool (if neg then !b else b)) w':=by
  unfold dR at he
  cases CT:jP c x with
  | none=>simp[CT]at he
  | some bx =>
   cases hny:jP c y with
   | none=>cases bx<;>simp[CT,hny]at he
   | some bY =>
    have e:b=(bx&&bY)∧(bx=true∨bY=true):=by
     cases bx<;>cases bY<;>simp_all
    obtain⟨rfl,hor⟩:=e
    have h1:=vK hx CT
    have h2:=vK hy hny
    cases c with
    | ptr =>
     obtain⟨a,rfl,rfl⟩:=h1
     obtain⟨a',rfl,rfl⟩:=h2
     cases d<;>simp[CS]at hc
     refine⟨fun op=>A5,fP fun n=>?_,fun neg=>by cases neg<;>simp[binOp]⟩
     rw[Op.equalIn];simp only[Sem.run_bind,run_underlying hu,Result.andThen_ok]
     cases a<;>cases a'<;>simp_all
    | slice =>
     obtain⟨a,l,p,rfl,rfl⟩:=h1
     obtain⟨a',l',p',rfl,rfl⟩:=h2
     cases d<;>simp[CS]at hc
     refine⟨fun op=>vJ,fP fun n=>?_,fun neg=>by cases neg<;>simp[binOp]⟩
     rw[Op.equalIn];simp only[Sem.run_bind,run_underlying hu,Result.andThen_ok]
     cases a<;>cases a'<;>simp_all
    | map =>
     obtain⟨a,rfl,rfl⟩:=h1
     obtain⟨a',rfl,rfl⟩:=h2
     cases d<;>simp[CS]at hc
     refine⟨fun op=>A6,fP fun n=>?_,fun neg=>by cases neg<;>simp[binOp]⟩
     rw[Op.equalIn];simp only[Sem.run_bind,run_underlying hu,Result.andThen_ok]
     cases a<;>cases a'<;>simp_all
    | func =>
     cases d<;>simp[CS]at hc
     rcases h1 with⟨rfl,rfl⟩|⟨rfl,f,vs,rfl⟩<;>rcases h2 with⟨rfl,rfl⟩|⟨rfl,f',Pw,rfl⟩
     ·refine⟨fun op=>CP,fP fun n=>?_,fun neg=>by cases neg<;>simp[binOp]⟩
      rw[Op.equalIn];simp[run_underlying hu]
     ·refine⟨fun op=>CO,fP fun n=>?_,fun neg=>by cases neg<;>simp[binOp]⟩
      rw[Op.equalIn];simp[run_underlying hu]
     ·refine⟨fun op=>CN,fP fun n=>?_,fun neg=>by cases neg<;>simp[binOp]⟩
      rw[Op.equalIn];simp[run_underlying hu]
     ·simp at hor
 obtain⟨k1,k2,k3⟩:=key
 refine b6.same h (v:=.bool (if neg then !b else b)) ?_ (.bool _)
 simp only[Sem.run_bind,k1,Result.andThen_ok,k3,k2]
section
variable {P:Program} {w0 w:World} {g:Ctx} {H:af}
def G7:vo→TypeDesc→Bool
 | .int,.int _ | .str,.string | .bool,.bool=>true
 | _,_=>false
def flat (P:Program):List Field→Nat→List vo→Bool
 | [],_,[]=>true
 | f :: fs,off,k :: ks=>f.offset==off&&f.name != "_"&&(match P.underlying f.type with | some d=>G7 k d | none=>false)&&flat P fs (off+1) ks
 | _,_,_=>false
theorem zk {n:Nat}{ty:TypeId}{d:TypeDesc}{k:vo}(hu:P.underlying ty=some d)(hk:G7 k d=true){a b:T}{va vb:Value}{r:Bool}(ha:VR g w a va)(hb:VR g w b vb)(h1:a.xL k=true)(he:iM a b=some r) :
  (Op.equalIn (n+1) ty va vb).run P w=.ok r w:=by
 cases k<;>cases d<;>simp[G7]at hk<;>cases ha<;>simp[T.xL]at h1<;>cases hb<;>simp[iM]at he
 ·obtain⟨rfl,rfl⟩:=he
  rw[CQ n hu]
 ·subst he
  rw[CR n hu,beq_toListBytes];rfl
 ·subst he
  rw[sG n hu]
theorem od {ty:TypeId}{d:TypeDesc}{k:vo}(hu:P.underlying ty=some d)(hk:G7 k d=true){xs:Array Value}{off:Nat}{v:Value}(h:xs[off]?=some v):(part ty xs off).run P w=.ok v w:=by
 have:dU d=false:=by cases k<;>cases d<;>simp_all [G7,dU]
 simp[part,eJ hu,this,h]
theorem pb {n:Nat}:∀(fs:List Field) (off:Nat) (ks:List vo) (cs ds:List T) (xs ys:Array Value) (r:Bool),flat P fs off ks=true→fC ks cs=true →
  (∀(i:Nat) (t:T),cs[i]?=some t→∃v,xs[off+i]?=some v∧VR g w t v)→(∀(i:Nat) (t:T),ds[i]?=some t→∃v,ys[off+i]?=some v∧VR g w t v)→b8 cs ds=some r →
  (Op.eqFields (n+1) xs ys fs).run P w=.ok r w
 | [],off,ks,cs,ds,xs,ys,r,hf,hk,hc,hd,he=>by
  cases ks with
  | nil =>
   cases cs with
   | nil=>cases ds<;>simp[b8]at he;subst he;rfl
   | cons _ _=>simp[fC]at hk
  | cons _ _=>simp[flat]at hf
 | f :: fs,off,ks,cs,ds,xs,ys,r,hf,hk,hc,hd,he=>by
  cases ks with
  | nil=>simp[flat]at hf
  | cons k ks =>
   cases cs with
   | nil=>simp[fC]at hk
   | cons c cs =>
    cases ds with
    | nil=>simp[b8]at he
    | cons d ds =>
     simp only[flat,Bool.and_eq_true,beq_iff_eq,bne_iff_ne]at hf
     obtain⟨⟨⟨A7,CU⟩,G8⟩,fw⟩:=hf
     simp only[fC,Bool.and_eq_true]at hk
     cases hu:P.underlying f.type with
     | none=>simp[hu]at G8
     | some de =>
      simp[hu]at G8
      obtain⟨va,Co,A8⟩:=hc 0 c rfl
      obtain⟨vb,kb,kc⟩:=hd 0 d rfl
      simp only[Nat.add_zero]at Co kb
      simp only[b8]at he
      cases e1:iM c d with
      | none=>simp[e1]at he
      | some r1 =>
       cases e2:b8 cs ds with
       | none=>simp[e1,e2]at he
       | some r2 =>
        simp[e1,e2]at he;subst he
        have ih:=pb (n:=n) fs (off+1) ks cs ds xs ys r2 fw hk.2 (fun i t hi=>by have:=hc (i+1) t (by simpa using hi);rwa[show off+1+i=off+(i+1) by omega])
         (fun i t hi=>by have:=hd (i+1) t (by simpa using hi);rwa[show off+1+i=off+(i+1) by omega]) e2
        simp only[Op.eqFields,CU,ne_eq,not_false_eq_true,if_true,Sem.run_bind,A7,od hu G8 Co,od hu G8 kb,Result.andThen_ok,zk hu G8 A8 kc hk.1 e1]
        cases r1
        ·simp
        ·simp[ih]
theorem bD.fL {ts:List T}{vs:List Value}(h:bD g w ts vs)(i:Nat)(t:T)(hi:ts[i]?=some t):∃v,vs.toArray[i]?=some v∧VR g w t v:=by
 have ax:i<vs.length:=by rw[←h.1];exact(List.getElem?_eq_some_iff.1 hi).1
 exact⟨vs[i],by simp[ax],h.2 i t _ hi (List.getElem?_eq_getElem ax)⟩
theorem sH {ty:TypeId}{fs:Array Field}{ks:List vo}(hu:P.underlying ty=some (.struct fs))(hf:flat P fs.toList 0 ks=true)(hp:P.stoodInHeld ty=false){cs ds:List T}{xs ys:List Value}{r:Bool}
  (hk:fC ks cs=true) (hx:bD g w cs xs) (hy:bD g w ds ys) (he:b8 cs ds=some r) (n:Nat):(Op.equalIn (n+1+1) ty (.agg xs.toArray) (.agg ys.toArray)).run P w=.ok r w:=by
 have Px:P.fieldsOf ty=fs:=by simp[Program.fieldsOf,hu]
 rw[run_equalIn_struct w (n+1) ty _ _ (by rw[Px];exact hu) hp,Px]
 exact pb _ 0 ks cs ds _ _ r hf hk (fun i t hi=>by simpa using hx.fL i t hi) (fun i t hi=>by simpa using hy.fL i t hi) he
theorem HQ {neg:Bool}{ks:List vo}{cs ds:List T}{r:Bool}{vx vy:Value}{ty:TypeId}{ox oy:Operand}{fs:Array Field}
  (hu:P.underlying ty=some (.struct fs)) (hf:flat P fs.toList 0 ks=true) (hp:P.stoodInHeld ty=false) (hg:P.eqGuardType P.depth ty=false)
  (h:SR w0 g H w) (hx:VR g w (.agg cs) vx) (hy:VR g w (.agg ds) vy) (hk:fC ks cs=true) (he:b8 cs ds=some r) :
  b6 P w0 g H w (do eqGuard (if neg then .neq else .eql) ty ox oy vx vy;binOp (if neg then .neq else .eql) ty vx vy) (.bool (if neg then !r else r)) H:=by
 obtain⟨xs,rfl,G9,_⟩:=hx.fK
 obtain⟨ys,rfl,Py,_⟩:=hy.fK
 have e:(Op.equalIn 10000 ty (.agg xs.toArray) (.agg ys.toArray)).run P w=.ok r w:=sH hu hf hp hk G9 Py he 9998
 refine b6.same h (v:=.bool (if neg then !r else r)) ?_ (.bool _)
 cases neg
 ·simp only[Bool.false_eq_true,if_false,Sem.run_bind,run_eqGuard_agg w _ _ _ _ _ _ hg,Result.andThen_ok,run_eql_struct,e]
 ·simp only[if_true,Sem.run_bind,run_eqGuard_agg w _ _ _ _ _ _ hg,Result.andThen_ok,run_neq_struct,e]
theorem Mh {op:UnOp}{x t:T}{vx:Value}(h:SR w0 g H w)(hx:VR g w x vx)(he:KM op x=some t):b6 P w0 g H w (Op.unary op vx) t H:=by
 cases hx<;>(try (simp[KM]at he;done))<;>cases op<;>simp[KM]at he<;>subst he
 ·exact b6.same h (by simp[Op.unary,Op.intArith]) (.int _ _)
 ·exact b6.same h (by simp[Op.unary,Op.intBits]) (.int _ _)
 ·exact b6.same h (by simp[Op.unary]) (.bool _)
theorem HR {src dst:TypeId}{ds:TypeDesc}{k k0:IntKind}{n:Int}{vx:Value}(hs:P.underlying src=some ds)(hd:P.underlying dst=some (.int k))(h:SR w0 g H w)(hx:VR g w (.int k0 n) vx) :
  b6 P w0 g H w (convert src dst vx) (.int k (k.wrap n)) H:=by
 cases hx
 exact b6.same h (by simp[convert,run_underlying hs,run_underlying hd,Conv.intToInt]) (.int _ _)
theorem CV {c:Bool}{x y:T}{vc vx vy:Value}(h:SR w0 g H w)(hc:VR g w (.bool c) vc)(hx:VR g w x vx)(hy:VR g w y vy) :
  b6 P w0 g H w (do pure (if ←asBool vc then vx else vy)) (if c then x else y) H:=by
 cases hc
 refine b6.same h (v:=if c then vx else vy) (by simp[asBool]) ?_
 cases c<;>simpa
def VU:Lc→TypeDesc→Bool
 | .str,.string | .sl,.slice _ | .map,.map _ _=>true
 | _,_=>false
theorem HS {ty rt:TypeId}{d:TypeDesc}{k:Lc}{x:T}{vx:Value}{n:Nat}(hu:P.underlying ty=some d)(hd:VU k d=true)
  (h:SR w0 g H w) (hx:VR g w x vx) (he:jc H k x=some n):b6 P w0 g H w (Builtin.len_ #[ty] rt #[vx]) (.int .i64 n) H:=by
 refine b6.same h (v:=.int .i64 n) ?_ (.int _ _)
 cases k<;>cases d<;>(first|(simp[VU]at hd;done)|skip)<;>cases hx<;>simp[jc]at he
 ·subst he;simp[Builtin.len_,run_underlying hu,goInt]
 ·subst he;simp[Builtin.len_,run_underlying hu,goInt]
 ·subst he;simp[Builtin.len_,run_underlying hu,goInt]
 ·subst he;simp[Builtin.len_,run_underlying hu,goInt]
 ·subst he;simp[Builtin.len_,run_underlying hu,goInt]
 ·subst he;simp[Builtin.len_,run_underlying hu,goInt]
 ·subst he;simp[Builtin.len_,run_underlying hu,goInt]
 ·rename_i b r o q hφ
  cases hb:H[b]? with
  | none=>simp[hb]at he
  | some y =>
   cases y<;>simp[hb]at he
   ·rename_i es
    obtain⟨_,av,c,h2,h3,_⟩:=h.dP b _ hb r o q hφ
    subst he
    simp[Builtin.len_,run_underlying hu,goInt,getObj,Sem.run,h2,h3.1]
   ·rename_i es _ _ _
    obtain⟨r',o',q',ka,_,av,c,h2,h3,_⟩:=h.dP b _ hb
    rw[hφ]at ka;cases ka
    subst he
    simp[Builtin.len_,run_underlying hu,goInt,getObj,Sem.run,h2,h3.1]
theorem m3 {n:Nat}{x:T}{vx:Value}{es:List (List T)}(h:SR w0 g H w)(hx:VR g w x vx)(he:bK H n x=some es)(hs:∀s,x≠.str s) :
  ∃(a:Option Addr) (cap:Nat) (vs:List Value),vx=.slice a es.length cap∧es.length≤cap∧(a=none→es=[]∧cap=0)∧(∀a',a=some a'→(es≠[]→a'.spot=none)∧∀(j:Nat) (v:Value),vs[j]?=some v→w.cell? (a'.add j)=some v) ∧
   bD g w es.flatten vs∧vs.length=es.length*n∧cy es.flatten∧∀c∈es,c.length=n:=by
 cases hx with
 | slnil=>simp[bK]at he;subst he;exact⟨none,0,[],rfl,Nat.le_refl _,fun _=>⟨rfl,rfl⟩,(by simp),bD.nil,by simp,by simp[cy],by simp⟩
 | ir a=>simp[bK]at he;subst he;exact⟨a,0,[],rfl,Nat.le_refl _,fun _=>⟨rfl,rfl⟩,(by simp),bD.nil,by simp,by simp[cy],by simp⟩
 | @sl k Cp r o cap n' cQ hk hc hn h1 h2 =>
  simp only[bK]at he
  split at he
  ·rename_i cn
   simp at he;subst he
   have lX:∀c∈Cp,c.length=n:=by simpa using cn
   have key:∀(i j:Nat),i<Cp.length→j<n→∃c t,Cp[i]?=some c∧c[j]?=some t∧t.one=true∧w.cell? ⟨r,o+i*n+j,none⟩=some (cQ i j)∧VR g w t (cQ i j):=by
    intro i j hi hj
    have e1:Cp[i]?=some Cp[i]:=List.getElem?_eq_getElem hi
    have l1:(Cp[i]).length=n:=lX _ (List.getElem_mem hi)
    have l2:(Cp[i]).length=n':=hn _ (List.getElem_mem hi)
    have e2:(Cp[i])[j]?=some ((Cp[i])[j]'(by omega)):=List.getElem?_eq_getElem _
    have a:=h1 i j _ _ e1 e2
    have ud:n'=n:=by omega
    exact⟨_,_,e1,e2,a.1,by rw[←ud];exact a.2.2,h2 i j _ _ e1 e2⟩
   have build:∀(l:List (List T)) (k:Nat),(∀i c,l[i]?=some c→Cp[k+i]?=some c)→∃vs:List Value,vs.length=l.length*n∧bD g w l.flatten vs∧cy l.flatten ∧
     ∀(j:Nat) (v:Value),vs[j]?=some v→w.cell? ⟨r,o+k*n+j,none⟩=some v:=by
    intro l
    induction l with
    | nil=>intro k _;exact⟨[],by simp,bD.nil,by simp[cy],by simp⟩
    | cons c l ih =>
     intro k hk
     have mh:=hk 0 c rfl
     simp only[Nat.add_zero]at mh
     have Mi:k<Cp.length:=(List.getElem?_eq_some_iff.1 mh).1
     have lh:c.length=n:=lX c (List.mem_of_getElem? mh)
     obtain⟨vs,a1,a2,a3,a4⟩:=ih (k+1) (fun i c' hi=>by have:=hk (i+1) c' (by simpa using hi);rwa[show k+1+i=k+(i+1) by omega])
     refine⟨(List.range n).map (cQ k)++vs,by simp[a1,Nat.succ_mul];omega,?_,?_,fun j v hj=>?_⟩
     ·rw[List.flatten_cons]
      refine bD.append ⟨by simp[lh],fun i t v hi hv=>?_⟩ a2
      have ax:i<n:=by have:=(List.getElem?_eq_some_iff.1 hv).1;simpa using this
      obtain⟨c',t',e1,e2,_,_,e5⟩:=key k i Mi ax
      rw[mh]at e1;cases e1
      rw[hi]at e2;cases e2
      simp[ax]at hv
      rw[←hv];exact e5
     ·rw[List.flatten_cons]
      intro t ht
      rcases List.mem_append.1 ht with ht|ht
      ·obtain⟨i,hi,rfl⟩:=List.getElem_of_mem ht
       obtain⟨c',t',e1,e2,e3,_,_⟩:=key k i Mi (by omega)
       rw[mh]at e1;cases e1
       rw[List.getElem?_eq_getElem hi]at e2;cases e2
       exact e3
      ·exact a3 t ht
     ·rw[List.getElem?_append]at hj
      split at hj
      ·rename_i ax
       simp at ax
       simp[ax]at hj
       obtain⟨c',t',_,_,_,e4,_⟩:=key k j Mi ax
       rw[←hj];exact e4
      ·rename_i dV
       simp at dV hj
       have:=a4 _ v hj
       rwa[show o+(k+1)*n+(j-n)=o+k*n+j by rw[Nat.succ_mul];omega]at this
   obtain⟨vs,a1,a2,a3,a4⟩:=build Cp 0 (fun i c h=>by simpa using h)
   refine⟨some ⟨r,o,none⟩,cap,vs,rfl,hc,by simp,fun a' ha=>?_,a2,a1,a3,lX⟩
   cases ha
   exact⟨fun _=>rfl,fun j v hj=>by rw[db];simpa using a4 j v hj⟩
  ·simp at he
 | @ay b off len n' r o q cap hφ hc hq =>
  simp only[bK]at he
  cases hb:H[b]? with
  | none=>simp[hb]at he
  | some y =>
   cases y with
   | cells cs =>
    simp only[hb]at he
    split at he
    ·rename_i cD
     obtain⟨rfl,hle⟩:=cD
     simp at he
     obtain⟨h1,h2,h3⟩:=h.dP b _ hb r o q hφ
     have hlen:es.length=len:=by rw[←he];simp
     have hn:∀c∈es,c.length=n':=by
      rw[←he]
      intro c iv
      obtain⟨i,hi,rfl⟩:=List.mem_map.1 iv
      simp at hi
      have:i*n'+n'≤len*n':=by rw[←Nat.succ_mul];exact Nat.mul_le_mul_right _ hi
      simp;omega
     have pO:∀m,m≤len→((List.range m).map fun i=>(cs.drop (off+i*n')).take n').flatten=(cs.drop off).take (m*n'):=by
      intro m
      induction m with
      | zero=>intro _;simp
      | succ m ih =>
       intro hm
       rw[List.range_succ,List.map_append,List.flatten_append,ih (by omega)]
       simp only[List.map_cons,List.map_nil,List.flatten_cons,List.flatten_nil,List.append_nil]
       rw[Nat.succ_mul,List.take_add,List.drop_drop]
     have KP:es.flatten=(cs.drop off).take (len*n'):=by rw[←he];exact pO len (Nat.le_refl _)
     have hp:pr H (len*n') (.ptr b off)=some ((cs.drop off).take (len*n')):=by simp[pr,hb,hle]
     obtain⟨r',o',vs,e1,e2,e3,e4,e5⟩:=oc h (.ptr hφ) hp
     cases e1
     refine⟨some ⟨r,o+off,none⟩,cap,vs,by rw[hlen],by omega,by simp,fun a' ha=>?_,by rw[KP];exact e4,by rw[e2,hlen],by rw[KP];exact e5,hn⟩
     cases ha
     exact⟨fun _=>rfl,fun j v hj=>by rw[db];exact e3 j v hj⟩
    ·simp at he
   | map _=>simp[hb]at he
   | tok _=>simp[hb]at he
   | _=>simp[hb]at he
 | str s=>exact absurd rfl (hs s)
 | _=>simp[bK]at he
theorem qj:∀(es:List (List T)) (l:List UInt8),bytesOf es=some l→∃ns:List Int,es=ns.map (fun n=>[T.int .u8 n])∧l=ns.map (fun n=>UInt8.ofNat n.toNat)
 | [],l,h=>⟨[],rfl,by simpa[bytesOf]using h.symm⟩
 | [.int .u8 n] :: es,l,h=>by
  simp only[bytesOf,Option.map_eq_some_iff]at h
  obtain⟨l',h1,rfl⟩:=h
  obtain⟨ns,rfl,rfl⟩:=qj es l' h1
  exact⟨n :: ns,rfl,rfl⟩
 | [] :: es,l,h=>by simp[bytesOf]at h
 | (_ :: _ :: _) :: es,l,h=>by simp[bytesOf]at h
 | [.int .i8 n] :: es,l,h=>by simp[bytesOf]at h
 | [.int .i16 n] :: es,l,h=>by simp[bytesOf]at h
 | [.int .i32 n] :: es,l,h=>by simp[bytesOf]at h
 | [.int .i64 n] :: es,l,h=>by simp[bytesOf]at h
 | [.int .u16 n] :: es,l,h=>by simp[bytesOf]at h
 | [.int .u32 n] :: es,l,h=>by simp[bytesOf]at h
 | [.int .u64 n] :: es,l,h=>by simp[bytesOf]at h
 | [.bool _] :: es,l,h=>by simp[bytesOf]at h
 | [.str _] :: es,l,h=>by simp[bytesOf]at h
 | [.bV] :: es,l,h=>by simp[bytesOf]at h
 | [.ptr _ _] :: es,l,h=>by simp[bytesOf]at h
 | [.dL _] :: es,l,h=>by simp[bytesOf]at h
 | [.gh] :: es,l,h=>by simp[bytesOf]at h
 | [.map _] :: es,l,h=>by simp[bytesOf]at h
 | [.sl _ _] :: es,l,h=>by simp[bytesOf]at h
 | [.ay _ _ _ _] :: es,l,h=>by simp[bytesOf]at h
 | [.mg] :: es,l,h=>by simp[bytesOf]at h
 | [.fn _ _] :: es,l,h=>by simp[bytesOf]at h
 | [.gk] :: es,l,h=>by simp[bytesOf]at h
 | [.agg _] :: es,l,h=>by simp[bytesOf]at h
 | [.bN _] :: es,l,h=>by simp[bytesOf]at h
theorem foldl_push (ns:List Int):∀(b:ByteArray),ns.foldl (fun r n=>r.push (UInt8.ofNat n.toNat)) b=⟨b.data++(ns.map (fun n=>UInt8.ofNat n.toNat)).toArray⟩:=by
 induction ns with
 | nil=>intro b;simp
 | cons n ns ih=>intro b;rw[List.foldl_cons,ih];cases b;simp[ByteArray.push]
theorem Qg (ns:List Int):(ns.map fun n=>[T.int .u8 n]).flatten=ns.map (T.int .u8):=by
 induction ns with
 | nil=>rfl
 | cons n ns ih=>simp only[List.map_cons,List.flatten_cons,ih];rfl
theorem HT {src dst e:TypeId}{x:T}{vx:Value}{es:List (List T)}{l:List UInt8}(hs:P.underlying src=some (.slice e))(hb:P.underlying e=some (.int .u8))(hd:P.underlying dst=some .string)
  (h:SR w0 g H w) (hx:VR g w x vx) (he:bK H 1 x=some es) (hn:∀s,x≠.str s) (hl:bytesOf es=some l):b6 P w0 g H w (convert src dst vx) (.str ⟨l.toArray⟩) H:=by
 obtain⟨a,cap,vs,rfl,_,h1,h2,h3,h4,h5,_⟩:=m3 h hx he hn
 obtain⟨ns,rfl,rfl⟩:=qj es l hl
 refine b6.same h ?_ (.str _)
 rw[run_convert_bytes_string w src dst e a _ cap hs hb hd]
 cases a with
 | none =>
  have:=h1 rfl
  have CW:ns=[]:=by simpa using this.1
  subst CW
  simp[Conv.bytesToString];rfl
 | some a =>
  obtain⟨_,h6⟩:=h2 a rfl
  have hY:vs=ns.map (Value.int .u8):=by
   apply List.ext_getElem?
   intro i
   have hlen:vs.length=ns.length:=by simpa using h4
   by_cases hi:i<ns.length
   ·have hv:vs[i]?=some vs[i]:=List.getElem?_eq_getElem (by omega)
    have ht:((ns.map fun n=>[T.int .u8 n]).flatten)[i]?=some (T.int .u8 ns[i]):=by
     rw[Qg];simp[hi]
    have:=h3.2 i _ _ ht hv
    rw[hv]
    simp only[List.getElem?_map,List.getElem?_eq_getElem hi,Option.map_some]
    congr 1
    generalize vs[i]=vv at this
    cases this;rfl
   ·rw[List.getElem?_eq_none (by omega),List.getElem?_eq_none (by simpa using hi)]
  have:=run_loadCells_list (P:=P) w a vs h6
  rw[h4]at this
  have hl:(ns.map fun n=>[T.int .u8 n]).length*1=(ns.map fun n=>[T.int .u8 n]).length:=Nat.mul_one _
  rw[hl]at this
  rw[run_bytesToString w a _ cap ns (by rw[this,hY]),foldl_push]
  show Result.ok (Value.string ⟨#[]++_⟩) w=_
  simp
end
section
variable {P:Program} {w0 w:World} {g:Ctx} {H:af}
def qk:Value→Option T
 | .int k n=>some (.int k n)
 | .bool b=>some (.bool b)
 | .string s=>some (.str s)
 | .pointer none=>some .bV
 | .slice none 0 0=>some (.sl .nil [])
 | .map none=>some .gh
 | .nilFunc=>some .mg
 | .nilIface=>some .gk
 | _=>none
def eM:List Value→Option (List T)
 | []=>some []
 | v :: vs=>match qk v,eM vs with
  | some t,some ts=>some (t :: ts)
  | _,_=>none
def mj:Value→Option T
 | .agg cs=>(eM cs.toList).map .agg
 | .tuple cs=>if cs.size=0 then some (.bN [])else none
 | v=>qk v
theorem sI {v:Value}{t:T}(h:qk v=some t):VR g w t v∧t.one=true:=by
 unfold qk at h
 split at h<;>simp at h<;>subst h
 ·exact⟨.int _ _,rfl⟩
 ·exact⟨.bool _,rfl⟩
 ·exact⟨.str _,rfl⟩
 ·exact⟨.bV,rfl⟩
 ·exact⟨.slnil,rfl⟩
 ·exact⟨.gh,rfl⟩
 ·exact⟨.mg,rfl⟩
 ·exact⟨.gk,rfl⟩
theorem dA:∀(vs:List Value) (ts:List T),eM vs=some ts→bD g w ts vs∧cy ts
 | [],ts,h=>by simp[eM]at h;subst h;exact⟨bD.nil,by simp[cy]⟩
 | v :: vs,ts,h=>by
  simp only[eM]at h
  cases h1:qk v with
  | none=>simp[h1]at h
  | some t =>
   cases h2:eM vs with
   | none=>simp[h1,h2]at h
   | some Me =>
    simp[h1,h2]at h;subst h
    obtain⟨a,b⟩:=sI (g:=g) (w:=w) h1
    obtain⟨c,d⟩:=dA vs Me h2
    exact⟨bD.cons a c,by intro x hx;rcases List.mem_cons.1 hx with rfl|hx;exact b;exact d x hx⟩
theorem lj {v:Value}{t:T}(h:mj v=some t):VR g w t v:=by
 unfold mj at h
 split at h
 ·rename_i cs
  simp only[Option.map_eq_some_iff]at h
  obtain⟨ts,h1,rfl⟩:=h
  obtain⟨a,b⟩:=dA (g:=g) (w:=w) _ _ h1
  have:=a.agg b
  simpa using this
 ·rename_i cs
  split at h
  ·rename_i hs
   simp at h;subst h
   have:cs=#[]:=Array.eq_empty_of_size_eq_zero hs
   subst this
   exact .bN rfl (by simp)
  ·simp at h
 ·exact(sI h).1
theorem dX {x:T}{vx:Value}{i:Nat}(hx:VR g w x vx)(h:cj x=some i):∃(k:IntKind) (n:Int),vx=.int k n∧0≤n∧n.toNat=i:=by
 cases hx<;>simp[cj]at h
 exact⟨_,_,rfl,h.1,h.2⟩
theorem A9 {cs:List T}{r o off:Nat}(h:VR g w (.dL cs) (.pointer (some ⟨r,o,none⟩))):VR g w (.dL (cs.drop off)) (.pointer (some ⟨r,o+off,none⟩)):=by
 cases h with
 | dL cQ h1 h2 =>
  refine .dL (fun j=>cQ (off+j)) (fun j t e=>?_) (fun j t e=>?_)
  ·rw[List.getElem?_drop]at e
   have:=h1 (off+j) t e
   exact⟨this.1,by rw[Nat.add_assoc];exact this.2⟩
  ·rw[List.getElem?_drop]at e
   exact h2 (off+j) t e
theorem HU {ty:TypeId}{fs:Array Field}{i:Nat}{f:Field}{fi:TypeInfo}{x t:T}{vx:Value}(hu:P.underlying ty=some (.struct fs))(hf:fs[i]?=some f)(hi:P.info? f.type=some fi)(hz:fi.size≠0)
  (h:SR w0 g H w) (hx:VR g w x vx) (he:vF f.offset x=some t) :
  b6 P w0 g H w (Instr.fieldAt ty vx i) t H:=by
 cases hx<;>simp[vF]at he
 case ptr b off r o q hφ =>
  subst he
  refine b6.same h (v:=.pointer (some ⟨r,o+(off+f.offset),none⟩)) ?_ (.ptr hφ)
  simp[Instr.fieldAt,Instr.sureAddr,run_underlying hu,hf,fieldPlace,sizeOf,bq hi,hz,db,Nat.add_assoc]
 case dL cs r o cQ h1 h2 =>
  obtain⟨_,rfl⟩:=he
  refine b6.same h (v:=.pointer (some ⟨r,o+f.offset,none⟩)) ?_ (A9 (.dL cQ h1 h2))
  simp[Instr.fieldAt,Instr.sureAddr,run_underlying hu,hf,fieldPlace,sizeOf,bq hi,hz,db]
theorem vL {ty:TypeId}{d:TypeDesc}{i:TypeInfo}{ag:Bool}{n off:Nat}{cs:List T}{vs:List Value}{t:T}(hd:P.underlying ty=some d)(hi:P.info? ty=some i)(uc:dU d=ag)(hn:i.size=n)
  (hv:bD g w cs vs) (ho:cy cs) (hle:off+n≤cs.length) (he:valOf ag ((cs.drop off).take n)=some t):∃v,(part ty vs.toArray off).run P w=.ok v w∧VR g w t v:=by
 have h1:=(hv.drop off).take n
 have h2:cy ((cs.drop off).take n):=fun x hx=>ho x (List.mem_of_mem_drop (List.mem_of_mem_take hx))
 obtain⟨ha,hb⟩:=qh h1 h2 he
 cases ag with
 | true =>
  refine⟨_,?_,ha rfl⟩
  simp[part,eJ hd,uc,sizeOf,bq hi,hn]
 | false =>
  obtain⟨v,h3,h4⟩:=hb rfl
  refine⟨v,?_,h4⟩
  have h5:vs[off]?=some v:=by
   have:((vs.drop off).take n)[0]?=some v:=by rw[h3];rfl
   rw[List.getElem?_take]at this
   split at this
   ·rw[List.getElem?_drop]at this;simpa using this
   ·simp at this
  simp[part,eJ hd,uc,h5]
theorem HV {ty:TypeId}{fs:Array Field}{i:Nat}{f:Field}{fi:TypeInfo}{d:TypeDesc}{cs:List T}{t:T}{vx:Value}{ag:Bool}(hu:P.underlying ty=some (.struct fs))(hf:fs[i]?=some f)(hd:P.underlying f.type=some d)(hi:P.info? f.type=some fi)
  (uc:dU d=ag) (h:SR w0 g H w) (hx:VR g w (.agg cs) vx) (hle:f.offset+fi.size≤cs.length) (he:valOf ag ((cs.drop f.offset).take fi.size)=some t):b6 P w0 g H w (Instr.field ty vx i) t H:=by
 obtain⟨vs,rfl,h1,h2⟩:=hx.fK
 obtain⟨v,hr,hv⟩:=vL (P:=P) hd hi uc rfl h1 h2 hle he
 exact b6.same h (by simp[Instr.field,run_underlying hu,hf,asAgg,hr]) hv
theorem HW {ty elem:TypeId}{ei:TypeInfo}{x ix t:T}{i:Nat}{vx vi:Value}(hu:P.underlying ty=some (.slice elem))(hi:P.info? elem=some ei)
  (h:SR w0 g H w) (hx:VR g w x vx) (vM:VR g w ix vi) (hn:cj ix=some i) (he:eI ei.size i x=some t):b6 P w0 g H w (Instr.indexAt ty vx vi) t H:=by
 obtain⟨k,m,rfl,vN,Cq⟩:=dX vM hn
 cases hx<;>simp[eI]at he
 case sl k' es r o cap n cQ hk hc Ba h1 h2 =>
  cases hJ:es[i]? with
  | none=>simp[hJ]at he
  | some c =>
   simp[hJ]at he
   obtain⟨⟨lh,bF⟩,rfl⟩:=he
   have ax:i<es.length:=(List.getElem?_eq_some_iff.1 hJ).1
   have hcn:c.length=n:=Ba c (List.mem_of_getElem? hJ)
   have ud:n=ei.size:=by omega
   subst ud
   refine b6.same h (v:=.pointer (some ⟨r,o+i*ei.size,none⟩)) ?_ (.dL (cQ i) (fun j t e=>h1 i j c t hJ e) (fun j t e=>h2 i j c t hJ e))
   have xP:m<es.length:=by omega
   simp[Instr.indexAt,asIntOf,run_underlying hu,vN,xP,sizeOf,bq hi,db,Cq]
 case ay b off len n r o q cap hφ hc hq =>
  obtain⟨⟨rfl,ax,bF⟩,rfl⟩:=he
  refine b6.same h (v:=.pointer (some ⟨r,o+(off+i*ei.size),none⟩)) ?_ (.ptr hφ)
  have xP:m<len:=by omega
  simp[Instr.indexAt,asIntOf,run_underlying hu,vN,xP,sizeOf,bq hi,db,Cq,Nat.add_assoc]
theorem HX {ty elem:TypeId}{len:Nat}{ei:TypeInfo}{ix:T}{b off i:Nat}{vx vi:Value}(hu:P.underlying ty=some (.array len elem))(hi:P.info? elem=some ei)
  (h:SR w0 g H w) (hx:VR g w (.ptr b off) vx) (vM:VR g w ix vi) (hn:cj ix=some i) (ax:i<len):b6 P w0 g H w (Instr.indexAt ty vx vi) (.ptr b (off+i*ei.size)) H:=by
 obtain⟨k,m,rfl,vN,Cq⟩:=dX vM hn
 cases hx with
 | @ptr _ _ r o q hφ =>
  refine b6.same h (v:=.pointer (some ⟨r,o+(off+i*ei.size),none⟩)) ?_ (.ptr hφ)
  have xP:m<len:=by omega
  simp[Instr.indexAt,Instr.sureAddr,asIntOf,run_underlying hu,vN,xP,sizeOf,bq hi,db,Cq,Nat.add_assoc]
theorem HY {ty:TypeId}{ix:T}{s:ByteArray}{i:Nat}{c:UInt8}{vx vi:Value}(hu:P.underlying ty=some .string)
  (h:SR w0 g H w) (hx:VR g w (.str s) vx) (vM:VR g w ix vi) (hn:cj ix=some i) (hc:s.data[i]?=some c):b6 P w0 g H w (Instr.index ty vx vi) (.int .u8 c.toNat) H:=by
 obtain⟨k,m,rfl,vN,Cq⟩:=dX vM hn
 cases hx
 refine b6.same h ?_ (.int _ _)
 have iv:s[i]?=some c:=by
  have ax:i<s.data.size:=(Array.getElem?_eq_some_iff.1 hc).1
  have h2:=(Array.getElem?_eq_some_iff.1 hc).2
  have Bb:i<s.size:=ax
  rw[getElem?_pos s i Bb]
  exact congrArg some h2
 simp[Instr.index,asIntOf,run_underlying hu,vN,Cq,iv]
theorem HZ {ty elem:TypeId}{len i:Nat}{ei:TypeInfo}{d:TypeDesc}{ag:Bool}{ix t:T}{cs:List T}{vx vi:Value}(hu:P.underlying ty=some (.array len elem))(hd:P.underlying elem=some d)(hi:P.info? elem=some ei)(uc:dU d=ag)
  (h:SR w0 g H w) (hx:VR g w (.agg cs) vx) (vM:VR g w ix vi) (hn:cj ix=some i) (ax:i<len) (hle:i*ei.size+ei.size≤cs.length) (he:valOf ag ((cs.drop (i*ei.size)).take ei.size)=some t):b6 P w0 g H w (Instr.index ty vx vi) t H:=by
 obtain⟨k,m,rfl,vN,Cq⟩:=dX vM hn
 obtain⟨vs,rfl,h1,h2⟩:=hx.fK
 obtain⟨v,hr,hv⟩:=vL (P:=P) hd hi uc rfl h1 h2 hle he
 have xP:m<len:=by omega
 exact b6.same h (by simp[Instr.index,asIntOf,run_underlying hu,vN,xP,sizeOf,bq hi,Cq,hr]) hv
def OV (g:Ctx)(w:World)(R:ar):Option X→Option Value→Prop
 | none,none=>True
 | some x,some v=>VR g w (x.ev R) v
 | _,_=>False
def Mj (l:Nat):Option Value→Prop
 | none=>l=0
 | some v=>∃k n,v=.int k n∧0≤n∧n.toNat=l
theorem run_sliceBound {k:IntKind}{n:Int}{y:Nat}{c:BoundsCode}(h0:0≤n)(hy:n.toNat≤y):(Instr.sliceBound (.int k n) y c).run P w=.ok n.toNat w:=by
 have:n≤y:=by omega
 simp[Instr.sliceBound,asIntOf,h0,this]
theorem gE {R:ar}{Ha:Bool}{len cap d l hh:Nat}{lo hi:Option X}{kf mQ:Option Value}(mR:OV g w R lo kf)
  (xQ:OV g w R hi mQ) (hl:gg R 0 lo=some l) (sJ:gg R d hi=some hh) (hd:hi=none→d=len) (h1:l≤hh) (h2:hh≤cap) :
  (Instr.sliceBounds Ha len cap kf mQ none).run P w=.ok (l,hh,cap) w:=by
 have eh:∀c,(match mQ with|some v=>Instr.sliceBound v cap c|none=>pure len:Sem Nat).run P w=.ok hh w:=by
  intro c
  cases hi with
  | none =>
   cases mQ with
   | none=>simp[gg]at sJ;simp[←sJ,hd rfl]
   | some _=>exact xQ.elim
  | some x =>
   cases mQ with
   | none=>exact xQ.elim
   | some v =>
    obtain⟨k,n,rfl,a,b⟩:=dX xQ sJ
    subst b
    exact run_sliceBound a h2
 have el:∀c,(match kf with|some v=>Instr.sliceBound v hh c|none=>pure 0:Sem Nat).run P w=.ok l w:=by
  intro c
  cases lo with
  | none =>
   cases kf with
   | none=>simp[gg]at hl;simp[←hl]
   | some _=>exact mR.elim
  | some x =>
   cases kf with
   | none=>exact mR.elim
   | some v =>
    obtain⟨k,n,rfl,a,b⟩:=dX mR hl
    subst b
    exact run_sliceBound a h1
 have eh':=eh (if Ha then .sliceAcap else .sliceAlen)
 have el':=el .sliceB
 cases mQ<;>cases kf<;>simp_all [Instr.sliceBounds]
theorem Ia {R:ar}{ty:TypeId}{s:ByteArray}{l hh:Nat}{lo hi:Option X}{kf mQ:Option Value}{vx:Value}(hu:P.underlying ty=some .string)
  (h:SR w0 g H w) (hx:VR g w (.str s) vx) (mR:OV g w R lo kf)
  (xQ:OV g w R hi mQ) (hl:gg R 0 lo=some l) (sJ:gg R s.size hi=some hh) (h1:l≤hh) (h2:hh≤s.size) :
  b6 P w0 g H w (Instr.sliceAt ty vx kf mQ none) (.str (s.extract l hh)) H:=by
 cases hx
 refine b6.same h ?_ (.str _)
 have:=gE (P:=P) (Ha:=false) mR xQ hl sJ (fun _=>rfl) h1 h2
 simp[Instr.sliceAt,run_underlying hu,Instr.slice,this]
theorem zl {k k':SK}{es:List (List T)}{r o cap ue n l m:Nat}{a:Option Addr}(cQ:Nat→Nat→Value)(hn:∀c∈es,c.length=n)
  (h1:∀(i j:Nat) (c:List T) (t:T),es[i]?=some c→c[j]?=some t→t.one=true∧A2 g w r (o+i*n+j) (cQ i j))
  (h2:∀(i j:Nat) (c:List T) (t:T),es[i]?=some c→c[j]?=some t→VR g w t (cQ i j))
  (hlm:l≤m) (hm:m≤es.length) (m4:m-l≤ue) (hk:gx g k' r (o+l*n) (m-l) ue n) :
  VR g w (.sl k' ((es.take m).drop l)) (.slice (some ⟨r,o+l*n,none⟩) (m-l) ue):=by
 have hlen:((es.take m).drop l).length=m-l:=by simp;omega
 have get:∀i c,((es.take m).drop l)[i]?=some c→es[l+i]?=some c:=by
  intro i c hi
  rw[List.getElem?_drop,List.getElem?_take]at hi
  split at hi
  ·exact hi
  ·simp at hi
 have:=VR.sl (g:=g) (w:=w) (k:=k') (es:=(es.take m).drop l) (r:=r) (o:=o+l*n) (cap:=ue) (n:=n) (fun i j=>cQ (l+i) j) (by rw[hlen];exact hk) (by omega)
  (fun c hc=>hn c (List.mem_of_mem_take (List.mem_of_mem_drop hc)))
  (fun i j c t a b=>⟨(h1 (l+i) j c t (get i c a) b).1,by
   have:=(h1 (l+i) j c t (get i c a) b).2
   rwa[show o+l*n+i*n+j=o+(l+i)*n+j by rw[Nat.add_mul];omega]⟩)
  (fun i j c t a b=>h2 (l+i) j c t (get i c a) b)
 rwa[hlen]at this
theorem Ib {R : ar}{ty elem : TypeId}{ei : TypeInfo}{k : SK}{es : List (List T)}{l hh : Nat}{lo hi : Option X}{kf mQ : Option Value}{vx : Value}(hu : P.underlying ty = some (.slice elem))(jU : P.info? elem = some ei)
    (h : SR w0 g H w) (hx : VR g w (.sl k es) vx) (mR : OV g w R lo kf)
    (xQ : OV g w R hi mQ) (hl : gg R 0 lo = some l) (sJ : gg R es.length hi = some hh) (h1 : l ≤ hh) (h2 : hh ≤ es.length) (cn : es.all (·.length == ei.size) = true) :
    b6 P w0 g H w (Instr.sliceAt ty vx kf mQ none) (.sl (k.cut es.length l hh) ((es.take hh).drop l)) H := by
  have lX : ∀c ∈ es, c.length = ei.size := by simpa using cn
  cases hx with
  | slnil =>
    simp at h2; subst h2
    have xF : l = 0 := by omega
    subst xF
    have := gE (P := P) (w := w) (g := g) (Ha := true) (cap := 0) mR xQ hl sJ (fun _ => rfl) h1 (Nat.le_refl _)
    simp only[List.length_nil]at this
    exact b6.same h (v := .slice none 0 0) (by simp[Instr.sliceAt, run_underlying hu, Instr.slice, this, sizeOf, bq jU]) (by simpa[SK.cut]using VR.slnil)
  | ir a =>
    simp at h2; subst h2
    have xF : l = 0 := by omega
    subst xF
    have := gE (P := P) (w := w) (g := g) (Ha := true) (cap := 0) mR xQ hl sJ (fun _ => rfl) h1 (Nat.le_refl _)
    simp only[List.length_nil]at this
    exact b6.same h (v := .slice a 0 0) (by cases a<;>simp[Instr.sliceAt, run_underlying hu, Instr.slice, this, sizeOf, bq jU]) (by simpa[SK.cut]using VR.ir a)
  | @sl _ _ r o cap n cQ hk hc hn h3 h4 =>
    have := gE (P := P) (w := w) (g := g) (Ha := true) (cap := cap) mR xQ hl sJ (fun _ => rfl) h1 (by omega)
    have hr : (Instr.sliceAt ty (.slice (some ⟨r, o, none⟩) es.length cap) kf mQ none).run P w = .ok (.slice (some (if cap = l then⟨r, o, none⟩else⟨r, o + l * ei.size, none⟩)) (hh - l) (cap - l)) w := by
      simp[Instr.sliceAt, run_underlying hu, Instr.slice, this, sizeOf, bq jU, db]
      split<;>rfl
    by_cases he : l<hh
    · -- Pz is left
      have lh : cap ≠ l := by omega
      simp only[lh, if_false]at hr
      have ud : n = ei.size := by
        cases es with
        | nil => simp at h2; omega
        | cons c es => have a := hn c (by simp); have b := lX c (by simp); omega
      subst ud
      refine b6.same h hr (zl (k := k) (cap := cap) (a := none) cQ hn h3 h4 h1 h2 (by omega) ?_)
      cases k with
      | nil => exact hk.elim
      | arg => trivial
      | full =>
        simp only[SK.cut]; split
        · rename_i e; simp only[gx]at hk ⊢; omega
        · trivial
      | own t e =>
        simp only[SK.cut]; split
        · rename_i e'
          simp only[gx]at hk ⊢
          refine⟨?_, by omega⟩
          rw[hk.1]
          have e1 : o + l * ei.size + (hh - l) * ei.size = o + es.length * ei.size := by
            rw[Nat.add_assoc, ←Nat.add_mul]; congr 2; omega
          have e2 : o + l * ei.size + (cap - l) * ei.size = o + cap * ei.size := by
            rw[Nat.add_assoc, ←Nat.add_mul]; congr 2; omega
          rw[e1, e2]
        · trivial
    · have hle : l = hh := by omega
      subst hle
      have hd : (es.take l).drop l = [] := by simp
      rw[hd]
      have vr : ∀a : Addr, a.spot = none → VR g w (.sl .arg []) (.slice (some a) 0 (cap - l)) := by
        intro a ha
        obtain⟨ab, ao, as⟩ := a
        simp at ha; subst ha
        exact .sl (n := 0) (fun _ _ => .nilIface) trivial (by simp) (by simp) (by simp) (by simp)
      have bO : k.cut es.length l l = .arg ∨ (k.cut es.length l l = .full ∧ cap = l) := by
        cases k with
        | nil => exact hk.elim
        | arg => exact .inl rfl
        | full => simp only[SK.cut]; split
                  · rename_i e; right; simp only[gx]at hk; exact⟨rfl, by omega⟩
                  · exact .inl rfl
        | own t e => simp only[SK.cut]; split
                     · omega
                     · exact .inl rfl
      rcases bO with e|⟨e, lh⟩
      · rw[e]
        refine b6.same h hr ?_
        rw[Nat.sub_self]
        exact vr _ (by split<;>rfl)
      · rw[e]
        refine b6.same h hr ?_
        rw[Nat.sub_self, lh, Nat.sub_self]
        have zm : ∀a : Addr, a.spot = none → VR g w (.sl .full []) (.slice (some a) 0 0) := by
          intro a ha
          obtain⟨ab, ao, as⟩ := a
          simp at ha; subst ha
          exact .sl (n := 0) (fun _ _ => .nilIface) rfl (by simp) (by simp) (by simp) (by simp)
        exact zm _ (by split<;>rfl)
theorem oe {Ha:Bool}{len cap l hh m:Nat}{kf:Option Value}{k:IntKind}{nm:Int}{vh:Value}
  (vN:0≤nm) (VV:nm.toNat=m) (Ml:m≤cap) (sJ:∃k n,vh=.int k n∧0≤n∧n.toNat=hh) (h2:hh≤m)
  (hl:Mj l kf) (h1:l≤hh) :
  (Instr.sliceBounds Ha len cap kf (some vh) (some (.int k nm))).run P w=.ok (l,hh,m) w:=by
 subst VV
 obtain⟨kh,nh,rfl,a,b⟩:=sJ
 subst b
 cases kf with
 | none=>simp only[Mj]at hl;subst hl;simp[Instr.sliceBounds,run_sliceBound vN Ml,run_sliceBound a h2]
 | some v =>
  obtain⟨kl,nl,rfl,c,d⟩:=hl
  subst d
  simp[Instr.sliceBounds,run_sliceBound vN Ml,run_sliceBound a h2,run_sliceBound c h1]
theorem CX {R:ar}{ty elem:TypeId}{ei:TypeInfo}{k:SK}{es:List (List T)}{l hh m:Nat}{lo:Option X}{hi mx:X}{kf:Option Value}{mQ vm:Value}{vx:Value}(hu:P.underlying ty=some (.slice elem))(jU:P.info? elem=some ei)
  (h:SR w0 g H w) (hx:VR g w (.sl k es) vx) (mR:OV g w R lo kf)
  (xQ:VR g w (hi.ev R) mQ) (hvm:VR g w (mx.ev R) vm) (hl:gg R 0 lo=some l) (sJ:cj (hi.ev R)=some hh) (hm:cj (mx.ev R)=some m) (h1:l≤hh) (h2:hh≤m) (Qh:m≤es.length) (cn:es.all (·.length==ei.size)=true) :
  b6 P w0 g H w (Instr.sliceAt ty vx kf (some mQ) (some vm)) (.sl (if k=.nil then .nil else if es=[]∧k=.arg then .arg else if hh=m then .full else .arg) ((es.take hh).drop l)) H:=by
 have lX:∀c∈es,c.length=ei.size:=by simpa using cn
 have nZ:Mj l kf:=by
  cases lo<;>cases kf
  ·simp[gg]at hl;exact hl.symm
  ·exact mR.elim
  ·exact mR.elim
  ·exact dX mR hl
 obtain⟨km,nm,rfl,vN,VV⟩:=dX hvm hm
 have hb:∀cap,m≤cap→(Instr.sliceBounds true es.length cap kf (some mQ) (some (.int km nm))).run P w=.ok (l,hh,m) w :=
  fun cap hc=>oe vN VV hc (dX xQ sJ) h2 nZ h1
 cases hx with
 | slnil =>
  simp at Qh;subst Qh
  obtain rfl:hh=0:=by omega
  obtain rfl:l=0:=by omega
  have:=hb 0 (Nat.le_refl _)
  simp only[List.length_nil]at this
  exact b6.same h (v:=.slice none 0 0) (by simp[Instr.sliceAt,run_underlying hu,Instr.slice,this,sizeOf,bq jU]) (by simpa using VR.slnil)
 | ir a =>
  simp at Qh;subst Qh
  obtain rfl:hh=0:=by omega
  obtain rfl:l=0:=by omega
  have:=hb 0 (Nat.le_refl _)
  simp only[List.length_nil]at this
  exact b6.same h (v:=.slice a 0 0) (by cases a<;>simp[Instr.sliceAt,run_underlying hu,Instr.slice,this,sizeOf,bq jU]) (by simpa using VR.ir a)
 | @sl _ _ r o cap n cQ hk hc hn h3 h4 =>
  have Qi:k≠.nil:=by rintro rfl;exact hk.elim
  simp only[Qi,if_false]
  have hr:(Instr.sliceAt ty (.slice (some ⟨r,o,none⟩) es.length cap) kf (some mQ) (some (.int km nm))).run P w=.ok (.slice (some (if m=l then⟨r,o,none⟩else⟨r,o+l*ei.size,none⟩)) (hh-l) (m-l)) w:=by
   simp[Instr.sliceAt,run_underlying hu,Instr.slice,hb cap (by omega),sizeOf,bq jU,db]
   split<;>rfl
  by_cases he:l<hh
  ·have lh:m≠l:=by omega
   simp only[lh,if_false]at hr
   have bF:es≠[]:=by rintro rfl;simp at Qh;omega
   have ud:n=ei.size:=by
    cases es with
    | nil=>exact absurd rfl bF
    | cons c es=>have a:=hn c (by simp);have b:=lX c (by simp);omega
   subst ud
   simp only[bF,false_and,if_false]
   refine b6.same h hr (zl (k:=k) (cap:=cap) (a:=none) cQ hn h3 h4 h1 (by omega) (by omega) ?_)
   split
   ·rename_i e;simp only[gx];omega
   ·trivial
  ·obtain rfl:l=hh:=by omega
   have hd:(es.take l).drop l=[]:=by simp
   rw[hd]
   have zm:∀(a:Addr) (c:Nat) (k':SK),a.spot=none→(k'=.arg∨(k'=.full∧c=0))→VR g w (.sl k' []) (.slice (some a) 0 c):=by
    intro a c k' ha kg
    obtain⟨ab,ao,as⟩:=a
    simp at ha;subst ha
    refine .sl (n:=0) (fun _ _=>.nilIface) ?_ (by simp) (by simp) (by simp) (by simp)
    rcases kg with rfl|⟨rfl,rfl⟩
    ·trivial
    ·rfl
   refine b6.same h hr ?_
   rw[Nat.sub_self]
   refine zm _ _ _ (by split<;>rfl) ?_
   split
   ·exact .inl rfl
   ·split
    ·exact .inr ⟨rfl,by omega⟩
    ·exact .inl rfl
theorem CY {R:ar}{ty elem:TypeId}{ei:TypeInfo}{b off len l hh:Nat}{lo hi:Option X}{kf mQ:Option Value}{vx:Value}(hu:P.underlying ty=some (.slice elem))(jU:P.info? elem=some ei)
  (h:SR w0 g H w) (hx:VR g w (.ay b off len ei.size) vx) (mR:OV g w R lo kf)
  (xQ:OV g w R hi mQ) (hl:gg R 0 lo=some l) (sJ:gg R len hi=some hh) (h1:l≤hh) (h2:hh≤len) :
  b6 P w0 g H w (Instr.sliceAt ty vx kf mQ none) (if l=hh then(if l=0 then .ay b off 0 ei.size else .sl .arg [])else .ay b (off+l*ei.size) (hh-l) ei.size) H:=by
 cases hx with
 | @ay _ _ _ _ r o q cap hφ hc hq =>
  have:=gE (P:=P) (w:=w) (g:=g) (Ha:=true) (cap:=cap) mR xQ hl sJ (fun _=>rfl) h1 (by omega)
  have hr:(Instr.sliceAt ty (.slice (some ⟨r,o+off,none⟩) len cap) kf mQ none).run P w=.ok (.slice (some (if cap=l then⟨r,o+off,none⟩else⟨r,o+off+l*ei.size,none⟩)) (hh-l) (cap-l)) w:=by
   simp[Instr.sliceAt,run_underlying hu,Instr.slice,this,sizeOf,bq jU,db]
   split<;>rfl
  refine b6.same h hr ?_
  have key:∀a:Addr,a=⟨r,o+(off+l*ei.size),none⟩→(cap≠l∨l=0)→VR g w (.ay b (off+l*ei.size) (hh-l) ei.size) (.slice (some a) (hh-l) (cap-l)):=by
   rintro a rfl lh
   refine .ay hφ (by omega) ?_
   rw[←hq]
   have:l*ei.size+(cap-l)*ei.size=cap*ei.size:=by rw[←Nat.add_mul];congr 1;omega
   omega
  split
  ·rename_i e;subst e
   split
   ·rename_i e;subst e
    have:=key (if cap=0 then⟨r,o+off,none⟩else⟨r,o+off+0*ei.size,none⟩) (by split<;>simp) (.inr rfl)
    simpa using this
   ·rw[Nat.sub_self]
    have zm:∀(a:Addr) (c:Nat),a.spot=none→VR g w (.sl .arg []) (.slice (some a) 0 c):=by
     intro a c ha
     obtain⟨ab,ao,as⟩:=a
     simp at ha;subst ha
     exact .sl (n:=0) (fun _ _=>.nilIface) trivial (by simp) (by simp) (by simp) (by simp)
    exact zm _ _ (by split<;>rfl)
  ·have lh:cap≠l:=by omega
   exact key _ (by rw[if_neg lh,Nat.add_assoc]) (.inl lh)
theorem CZ {R:ar}{ty elem:TypeId}{ei:TypeInfo}{b off len c l hh:Nat}{lo hi:Option X}{kf mQ:Option Value}{vx:Value}(hu:P.underlying ty=some (.slice elem))(jU:P.info? elem=some ei)
  (h:SR w0 g H w) (hx:VR g w (.dQ b off len ei.size c) vx) (mR:OV g w R lo kf)
  (xQ:OV g w R hi mQ) (hl:gg R 0 lo=some l) (sJ:gg R len hi=some hh) (h1:l≤hh) (h2:hh≤c) :
  b6 P w0 g H w (Instr.sliceAt ty vx kf mQ none) (if l<c∨l=0 then .dQ b (off+l*ei.size) (hh-l) ei.size (c-l)else .sl .arg []) H:=by
 cases hx with
 | @dQ _ _ _ _ r o q cap hφ hc hq =>
  have:=gE (P:=P) (w:=w) (g:=g) (Ha:=true) (cap:=c) mR xQ hl sJ (fun _=>rfl) h1 (by omega)
  have hr:(Instr.sliceAt ty (.slice (some ⟨r,o+off,none⟩) len c) kf mQ none).run P w=.ok (.slice (some (if c=l then⟨r,o+off,none⟩else⟨r,o+off+l*ei.size,none⟩)) (hh-l) (c-l)) w:=by
   simp[Instr.sliceAt,run_underlying hu,Instr.slice,this,sizeOf,bq jU,db]
   split<;>rfl
  refine b6.same h hr ?_
  by_cases h3:l<c∨l=0
  case neg =>
   rw[if_neg h3]
   have e0:hh-l=0:=by omega
   have zm:∀(a:Addr) (c:Nat),a.spot=none→VR g w (.sl .arg []) (.slice (some a) 0 c):=by
    intro a c ha
    obtain⟨ab,ao,as⟩:=a
    simp at ha;subst ha
    exact .sl (n:=0) (fun _ _=>.nilIface) trivial (by simp) (by simp) (by simp) (by simp)
   rw[e0]
   exact zm _ _ (by split<;>rfl)
  rw[if_pos h3]
  have e:(if c=l then(⟨r,o+off,none⟩:Addr)else⟨r,o+off+l*ei.size,none⟩)=⟨r,o+(off+l*ei.size),none⟩:=by
   split
   ·have:l=0:=by omega
    subst this;simp
   ·simp[Nat.add_assoc]
  rw[e]
  refine .dQ hφ (by omega) ?_
  rw[←hq]
  have:l*ei.size+(c-l)*ei.size=c*ei.size:=by rw[←Nat.add_mul];congr 1;omega
  omega
end
section
variable {P:Program} {w0 w:World} {g:Ctx} {H:af}
def mm (P:Program)(ty:TypeId):KT→Bool
 | .sc t=>match P.underlying ty with|some d=>G7 t d|none=>false
 | .st ks=>match P.underlying ty with|some (.struct fs)=>flat P fs.toList 0 ks&&!P.stoodInHeld ty|_=>false
theorem C0 {e:Bool}{n:Nat}{ty:TypeId}{d:TypeDesc}{k:vo}{v:Value}(hu:P.underlying ty=some d)(hk:G7 k d=true):(Instr.checkKey e (n+1) ty v).run P w=.ok () w:=by
 rw[Instr.checkKey];simp only[Sem.run_bind,run_underlying hu,Result.andThen_ok]
 cases k<;>cases d<;>simp[G7]at hk<;>cases v<;>rfl
theorem m5 {e:Bool}{n:Nat}:∀(fs:List Field) (off:Nat) (ks:List vo) (cs:List T) (xs:Array Value),flat P fs off ks=true→cs.length=ks.length →
  (∀(i:Nat) (t:T),cs[i]?=some t→∃v,xs[off+i]?=some v∧VR g w t v) →
  (forIn fs PUnit.unit (fun f _=>if f.name≠"_" then (do let x ← part f.type xs f.offset;Instr.checkKey e (n+1) f.type x;pure (ForInStep.yield PUnit.unit))
   else pure (ForInStep.yield PUnit.unit)):Sem PUnit).run P w=.ok PUnit.unit w
 | [],off,ks,cs,xs,hf,hl,hc=>by simp
 | f :: fs,off,ks,cs,xs,hf,hl,hc=>by
  cases ks with
  | nil=>simp[flat]at hf
  | cons k ks =>
   cases cs with
   | nil=>simp at hl
   | cons c cs =>
    simp only[flat,Bool.and_eq_true,beq_iff_eq,bne_iff_ne]at hf
    obtain⟨⟨⟨A7,CU⟩,G8⟩,fw⟩:=hf
    cases hu:P.underlying f.type with
    | none=>simp[hu]at G8
    | some de =>
     simp[hu]at G8
     obtain⟨va,Co,A8⟩:=hc 0 c rfl
     simp only[Nat.add_zero]at Co
     have ih:=m5 (e:=e) (n:=n) fs (off+1) ks cs xs fw (by simpa using hl) (fun i t hi=>by have:=hc (i+1) t (by simpa using hi);rwa[show off+1+i=off+(i+1) by omega])
     simp only[List.forIn_cons,Sem.run_bind,CU,ne_eq,not_false_eq_true,if_true,A7,od hu G8 Co,Result.andThen_ok,C0 hu G8,Sem.run_pure]
     exact ih
theorem ql:∀(ks:List vo) (cs:List T),fC ks cs=true→cs.length=ks.length
 | [],[],_=>rfl
 | _ :: ks,_ :: cs,h=>by simp[fC]at h;simp[ql ks cs h.2]
 | [],_ :: _,h=>by simp[fC]at h
 | _ :: _,[],h=>by simp[fC]at h
theorem ki {e:Bool}{ty:TypeId}{kt:KT}{k:T}{vk:Value}(jy:mm P ty kt=true)(hk:VR g w k vk)(h:k.iL kt=true):(Instr.checkKey e 10000 ty vk).run P w=.ok () w:=by
 cases kt with
 | sc t =>
  simp only[mm]at jy
  cases hu:P.underlying ty with
  | none=>simp[hu]at jy
  | some d=>simp[hu]at jy;exact C0 (n:=9999) hu jy
 | st ks =>
  simp only[mm]at jy
  cases hu:P.underlying ty with
  | none=>simp[hu]at jy
  | some d =>
   cases d<;>simp[hu]at jy
   rename_i fs
   cases k<;>simp[T.iL]at h
   rename_i cs
   obtain⟨xs,rfl,G9,_⟩:=hk.fK
   show(Instr.checkKey e (9998+1+1) ty _).run P w=_
   rw[Instr.checkKey];simp only[Sem.run_bind,run_underlying hu,Result.andThen_ok]
   rw[←Array.forIn_toList]
   rw[m5 (g:=g) (e:=e) (n:=9998) fs.toList 0 ks cs xs.toArray jy.1 (ql _ _ h) (fun i t hi=>by simpa using G9.fL i t hi)]
   rfl
theorem C1 {n:Nat}{ty:TypeId}{kt:KT}{a b:T}{va vb:Value}{r:Bool}(jy:mm P ty kt=true)(ha:VR g w a va)(hb:VR g w b vb)(hk:a.iL kt=true)(he:gJ a b=some r) :
  (Op.equalIn (n+1+1) ty va vb).run P w=.ok r w:=by
 cases kt with
 | sc t =>
  simp only[mm]at jy
  cases hu:P.underlying ty with
  | none=>simp[hu]at jy
  | some d =>
   simp[hu]at jy
   have Cr:iM a b=some r:=by
    cases a<;>simp[T.iL]at hk<;>(first|exact he|(cases t<;>simp[T.xL]at hk))
   exact zk hu jy ha hb hk Cr
 | st ks =>
  simp only[mm]at jy
  cases hu:P.underlying ty with
  | none=>simp[hu]at jy
  | some d =>
   cases d<;>simp[hu]at jy
   rename_i fs
   cases a<;>simp[T.iL]at hk
   rename_i cs
   cases b<;>simp[gJ,iM]at he
   rename_i ds
   obtain⟨xs,rfl,G9,_⟩:=ha.fK
   obtain⟨ys,rfl,Py,_⟩:=hb.fK
   exact sH hu jy.1 (by simpa using jy.2) hk G9 Py he n
theorem xR {t:vo}{d:TypeDesc}{a b:T}{va vb:Value}{r:Bool}(hd:G7 t d=true)(ha:VR g w a va)(hb:VR g w b vb)(hk:a.xL t=true)(he:gJ a b=some r):Instr.sameNow d va vb=some r:=by
 cases t<;>cases d<;>simp[G7]at hd<;>cases ha<;>simp[T.xL]at hk<;>cases hb<;>simp[gJ,iM]at he
 ·obtain⟨rfl,rfl⟩:=he;simp[Instr.sameNow]
 ·subst he;simp[Instr.sameNow,iZ,beq_toListBytes]
 ·subst he;simp[Instr.sameNow]
theorem uf {ty:TypeId}{kt:KT}{k:T}{vk:Value}(jy:mm P ty kt=true)(hk:VR g w k vk)(h:k.iL kt=true)(es:List (T×T))(av:List MapEntry)(hl:av.length=es.length)
  (hh:∀(i:Nat) (e:T×T) (m:MapEntry),es[i]?=some e→av[i]?=some m→VR g w e.1 m.key∧VR g w e.2 m.val) {r:Option Nat} (hr:cZ k es=some r) :
  (Instr.findKey ty vk av).run P w=.ok (r.bind fun i=>(av[i]?).map fun m=>(i,m.val)) w:=by
 cases kt with
 | sc t =>
  simp only[mm]at jy
  cases hu:P.underlying ty with
  | none=>simp[hu]at jy
  | some d =>
   simp[hu]at jy
   have key:∀(es:List (T×T)) (av:List MapEntry) (j:Nat) (r:Option Nat),av.length=es.length→(∀(i:Nat) (e:T×T) (m:MapEntry),es[i]?=some e→av[i]?=some m→VR g w e.1 m.key∧VR g w e.2 m.val) →
     cZ k es=some r→Instr.findNow d vk av j=some (r.bind fun i=>(av[i]?).map fun m=>(j+i,m.val)):=by
    intro es
    induction es with
    | nil =>
     intro av j r hl _ hr
     simp[cZ]at hr;subst hr
     cases av with
     | nil=>rfl
     | cons _ _=>simp at hl
    | cons e es ih =>
     intro av j r hl hh hr
     cases av with
     | nil=>simp at hl
     | cons m av =>
      have h0:=hh 0 e m rfl rfl
      simp only[cZ]at hr
      cases he:gJ k e.1 with
      | none=>simp[he]at hr
      | some b =>
       have hs:=xR jy hk h0.1 h he
       cases b with
       | true=>simp[he]at hr;subst hr;simp[Instr.findNow,hs]
       | false =>
        simp only[he,Option.map_eq_some_iff]at hr
        obtain⟨r',h1,rfl⟩:=hr
        simp only[Instr.findNow,hs]
        rw[ih av (j+1) r' (by simpa using hl) (fun i e' m' a b=>hh (i+1) e' m' (by simpa using a) (by simpa using b)) h1]
        cases r' with
        | none=>rfl
        | some i=>simp;cases av[i]?<;>simp;omega
   have:=key es av 0 r hl hh hr
   simp only[Instr.findKey,Sem.run_bind,run_underlying hu,Result.andThen_ok,this,Sem.run_pure]
   simp
 | st ks =>
  have VW:=jy
  simp only[mm]at jy
  cases hu:P.underlying ty with
  | none=>simp[hu]at jy
  | some d =>
   cases d<;>simp[hu]at jy
   rename_i fs
   have key:∀(es:List (T×T)) (av:List MapEntry) (j:Nat) (r:Option Nat),av.length=es.length→(∀(i:Nat) (e:T×T) (m:MapEntry),es[i]?=some e→av[i]?=some m→VR g w e.1 m.key∧VR g w e.2 m.val) →
     cZ k es=some r→(Instr.findAsking ty vk av j).run P w=.ok (r.bind fun i=>(av[i]?).map fun m=>(j+i,m.val)) w:=by
    intro es
    induction es with
    | nil =>
     intro av j r hl _ hr
     simp[cZ]at hr;subst hr
     cases av with
     | nil=>rfl
     | cons _ _=>simp at hl
    | cons e es ih =>
     intro av j r hl hh hr
     cases av with
     | nil=>simp at hl
     | cons m av =>
      have h0:=hh 0 e m rfl rfl
      simp only[cZ]at hr
      cases he:gJ k e.1 with
      | none=>simp[he]at hr
      | some b =>
       have hs:(Op.equal ty vk m.key).run P w=.ok b w:=C1 (n:=9998) VW hk h0.1 h he
       cases b with
       | true=>simp[he]at hr;subst hr;simp[Instr.findAsking,hs]
       | false =>
        simp only[he,Option.map_eq_some_iff]at hr
        obtain⟨r',h1,rfl⟩:=hr
        simp only[Instr.findAsking,Sem.run_bind,hs,Result.andThen_ok,Bool.false_eq_true,if_false]
        rw[ih av (j+1) r' (by simpa using hl) (fun i e' m' a b=>hh (i+1) e' m' (by simpa using a) (by simpa using b)) h1]
        cases r' with
        | none=>rfl
        | some i=>simp;cases av[i]?<;>simp;omega
   have kg:=key es av 0 r hl hh hr
   cases av with
   | nil =>
    simp only[Instr.findKey,Sem.run_bind,run_underlying hu,Result.andThen_ok,Instr.findNow,Sem.run_pure]
    exact kg
   | cons m av =>
    have:Instr.findNow (.struct fs) vk (m :: av) 0=none:=by simp[Instr.findNow,Instr.sameNow]
    simp only[Instr.findKey,Sem.run_bind,run_underlying hu,Result.andThen_ok,this]
    simpa using kg
def C2 (w:World)(vm:Value)(av:Array MapEntry):Prop:=(vm=.map none∧av=#[])∨∃r c,vm=.map (some r)∧w.heap[r]?=some (.map av c)
theorem Bc {m:T}{vm:Value}{es:List (T×T)}(h:SR w0 g H w)(hm:VR g w m vm)(hJ:gn H m=some es):∃av,C2 w vm av∧dS g w es av:=by
 cases hm<;>simp[gn]at hJ
 ·subst hJ;exact⟨#[],.inl ⟨rfl,rfl⟩,⟨rfl,by simp⟩⟩
 ·rename_i b r' o q hφ
  cases hb:H[b]? with
  | none=>simp[hb]at hJ
  | some y =>
   cases y<;>simp[hb]at hJ
   ·subst hJ
    obtain⟨_,av,c,h2,h3,_⟩:=h.dP b _ hb r' o q hφ
    exact⟨av,.inr ⟨r',c,rfl,h2⟩,h3⟩
   ·subst hJ
    obtain⟨r2,o',q',ka,_,av,c,h2,h3,_⟩:=h.dP b _ hb
    rw[hφ]at ka;cases ka
    exact⟨av,.inr ⟨r',c,rfl,h2⟩,h3⟩
theorem qm {ty key elem:TypeId}{ei:TypeInfo}{zv vm vk:Value}{ok:Bool}{av:Array MapEntry}{r:Option (Nat×Value)}(hu:P.underlying ty=some (.map key elem))(hi:P.info? elem=some ei)(hz:ei.zero=some zv)
  (he:C2 w vm av) (hc:(Instr.checkKey av.isEmpty 10000 key vk).run P w=.ok () w) (hf:(Instr.findKey key vk av.toList).run P w=.ok r w) :
  (Instr.lookup ty vm vk ok).run P w=.ok (match r with|some (_,v)=>if ok then .tuple #[v,.bool true]else v|none=>if ok then .tuple #[zv,.bool false]else zv) w:=by
 rcases he with⟨rfl,rfl⟩|⟨rr,c,rfl,h2⟩
 ·have pP:(Instr.findKey key vk []).run P w=.ok r w:=hf
  have iv:(Instr.checkKey true 10000 key vk).run P w=.ok () w:=hc
  simp only[Instr.lookup,Sem.run_bind,run_underlying hu,Result.andThen_ok]
  cases r with
  | none=>simp[iv,pP,zeroValue,bq hi,hz]
  | some x=>obtain⟨i,v⟩:=x;simp[iv,pP]
 ·simp only[Instr.lookup,Sem.run_bind,run_underlying hu,Result.andThen_ok]
  cases r with
  | none=>simp[getObj,Sem.run,h2,hc,hf,zeroValue,bq hi,hz]
  | some x=>obtain⟨i,v⟩:=x;simp[getObj,Sem.run,h2,hc,hf]
theorem zn {ty key elem:TypeId}{ei:TypeInfo}{zv:Value}{kt:KT}{z m k t:T}{ok:Bool}{vm vk:Value}{es:List (T×T)}{r:Option Nat}(hu:P.underlying ty=some (.map key elem))(hi:P.info? elem=some ei)(hz:ei.zero=some zv)(pQ:mj zv=some z)
  (jy:mm P key kt=true) (h:SR w0 g H w) (hm:VR g w m vm) (hk:VR g w k vk) (xS:k.iL kt=true)
  (hJ:gn H m=some es) (hr:cZ k es=some r)
  (ht:(match r with|some i=>(es[i]?).map fun e=>if ok then T.bN [e.2,.bool true]else e.2|none=>some (if ok then .bN [z,.bool false]else z))=some t):b6 P w0 g H w (Instr.lookup ty vm vk ok) t H:=by
 obtain⟨av,KQ,hE⟩:=Bc h hm hJ
 have hf:=uf jy hk xS es av.toList (by simpa using hE.1) (fun i e m a b=>hE.2 i e m a (by simpa using b)) hr
 have hc:=ki (e:=av.isEmpty) jy hk xS
 have zvr:VR g w z zv:=lj pQ
 cases r with
 | none =>
  simp only[Option.some.injEq]at ht
  subst ht
  refine b6.same h (qm hu hi hz KQ hc hf) ?_
  cases ok
  ·exact zvr
  ·exact bD.bN (bD.cons zvr (bD.cons (.bool _) bD.nil))
 | some i =>
  cases he:es[i]? with
  | none=>simp[he]at ht
  | some e =>
   have ax:i<av.size:=by rw[hE.1];exact(List.getElem?_eq_some_iff.1 he).1
   have qn:av[i]?=some av[i]:=Array.getElem?_eq_getElem ax
   have hv:=(hE.2 i e _ he qn).2
   simp only[he,Option.map_some,Option.some.injEq]at ht
   subst ht
   have hx:((some i:Option Nat).bind fun i=>(av.toList[i]?).map fun m=>(i,m.val))=some (i,av[i].val):=by simp[ax]
   rw[hx]at hf
   refine b6.same h (qm hu hi hz KQ hc hf) ?_
   cases ok
   ·exact hv
   ·exact bD.bN (bD.cons hv (bD.cons (.bool _) bD.nil))
theorem Ic {vs:List T}{i:Nat}{t:T}{vx:Value}(h:SR w0 g H w)(hx:VR g w (.bN vs) vx)(he:vs[i]?=some t):b6 P w0 g H w (Instr.extract vx i) t H:=by
 obtain⟨xs,rfl,G9⟩:=hx.HL
 obtain⟨v,h1,h2⟩:=G9.fL i t he
 exact b6.same h (by simp at h1;simp[Instr.extract,h1]) h2
theorem Mm {rt:TypeId}{iw:Array TypeId}{k k':IntKind}{a b:Int}{vx vy:Value}(h:SR w0 g H w)(hx:VR g w (.int k a) vx)(hy:VR g w (.int k' b) vy):b6 P w0 g H w (Builtin.min_ iw rt #[vx,vy]) (.int k (if b<a then b else a)) H:=by
 cases hx;cases hy
 exact b6.same h (by simp[Builtin.min_,Builtin.min2]) (.int _ _)
theorem Mn {rt:TypeId}{iw:Array TypeId}{k k':IntKind}{a b:Int}{vx vy:Value}(h:SR w0 g H w)(hx:VR g w (.int k a) vx)(hy:VR g w (.int k' b) vy):b6 P w0 g H w (Builtin.max_ iw rt #[vx,vy]) (.int k (if b>a then b else a)) H:=by
 cases hx;cases hy
 exact b6.same h (by simp[Builtin.max_,Builtin.max2]) (.int _ _)
end
section
variable {P:Program} {w0 w:World} {g:Ctx} {H:af}
def gq:Nat→Nat→Prop:=fun _ _=>False
def iz:Nat→Prop:=fun _=>False
theorem Tr.drew (w:World):Tr w w.drew gq iz:=⟨Nat.le_refl _,fun _ _ _ _=>rfl,fun _ _ _=>rfl,fun _ _ _ h=>h,fun _ _ _ _ h=>h,fun _ _ _ _=>rfl,fun _ _ h=>dp h,rfl,rfl⟩
theorem Tr.refl (w:World):Tr w w gq iz:=⟨Nat.le_refl _,fun _ _ _ _=>rfl,fun _ _ _=>rfl,fun _ _ _ h=>h,fun _ _ _ _ h=>h,fun _ _ _ _=>rfl,fun _ _ h=>dp h,rfl,rfl⟩
theorem Tr.alloc (w:World)(o:Obj)(ho:fg o=true∨∃c t,o=.cells c t):Tr w (w.alloc o) gq iz where
 size:=by simp
 cell r j hr _:=World.cell?_alloc_lt w o ⟨r,j,none⟩ hr
 pJ r j hr:=World.frozen?_alloc_old w o ⟨r,j,none⟩ (Nat.ne_of_lt hr)
 dE r j hr h:=by rw[World.cell?_alloc_lt w o ⟨r,j,none⟩ hr];exact h
 maps r x _ _ h:=by
  have hr:r<w.heap.size:=(Array.getElem?_eq_some_iff.1 h).1
  simp only[World.alloc,Array.getElem?_push];rw[if_neg (by omega)];exact h
 jv r hr _ _:=by simp only[World.alloc,Array.getElem?_push];rw[if_neg (by omega)]
 xO r j hr:=by
  by_cases e:r=w.heap.size
  ·subst e
   have e1:(w.alloc o).heap[w.heap.size]?=some o:=by show(w.heap.push o)[w.heap.size]?=some o;simp
   unfold World.frozen?
   rw[e1]
   rcases ho with ho|⟨c,t,rfl⟩
   ·cases o<;>simp[fg]at ho<;>rfl
   ·simp
  ·rw[World.frozen?_alloc_old w o ⟨r,j,none⟩ e];exact dp hr
 env:=⟨rfl,rfl⟩
theorem Tr.trans {w w' Qd:World}{S:Nat→Nat→Prop}{M:Nat→Prop}(h:Tr w w' S M)(h':Tr w' Qd S M):Tr w Qd S M where
 size:=Nat.le_trans h.size h'.size
 cell r j hr hs:=(h'.cell r j (Nat.lt_of_lt_of_le hr h.size) hs).trans (h.cell r j hr hs)
 pJ r j hr:=(h'.pJ r j (Nat.lt_of_lt_of_le hr h.size)).trans (h.pJ r j hr)
 dE r j hr hs:=h'.dE r j (Nat.lt_of_lt_of_le hr h.size) (h.dE r j hr hs)
 maps r x hm hs h1:=h'.maps r x hm hs (h.maps r x hm hs h1)
 jv r hr hm hs:=(h'.jv r (Nat.lt_of_lt_of_le hr h.size) hm hs).trans (h.jv r hr hm hs)
 xO r j hr:=by
  by_cases hw:r<w'.heap.size
  ·rw[h'.pJ r j hw];exact h.xO r j hr
  ·exact h'.xO r j (by omega)
 env:=⟨h'.env.1.trans h.env.1,h'.env.2.trans h.env.2⟩
theorem cE (r:Nat):∀(vs:List Value) (o:Nat) (w:World) (r' j:Nat),¬(r'=r∧o≤j∧j<o+vs.length)→(w.setCells r o vs).cell? ⟨r',j,none⟩=w.cell? ⟨r',j,none⟩
 | [],_,_,_,_,_=>rfl
 | v :: vs,o,w,r',j,h=>by
  rw[World.setCells,cE r vs (o+1) _ r' j (by simp at h ⊢;omega),World.cell?_setCell_other]
  intro e
  simp at e
  exact h ⟨e.1.symm,by omega,by simp;omega⟩
theorem cH (r:Nat):∀(vs:List Value) (o:Nat) (w:World),(∀j,o≤j→j<o+vs.length→(w.cell? ⟨r,j,none⟩).isSome=true)→∀(i:Nat) (v:Value),vs[i]?=some v→(w.setCells r o vs).cell? ⟨r,o+i,none⟩=some v
 | [],_,_,_,i,v,h=>by simp at h
 | u :: vs,o,w,hs,i,v,h=>by
  rw[World.setCells]
  cases i with
  | zero =>
   simp at h;subst h
   rw[cE r vs (o+1) _ r _ (by omega)]
   obtain⟨x,hx⟩:=Option.isSome_iff_exists.1 (hs o (Nat.le_refl _) (by simp))
   exact World.cell?_setCell_same w ⟨r,o,none⟩ u hx
  | succ i =>
   have:=cH r vs (o+1) (w.setCell ⟨r,o,none⟩ u) (fun j h1 h2=>by
    rw[World.cell?_setCell_other _ _ _ _ (by simp;omega)]
    exact hs j (by omega) (by simp;omega)) i v (by simpa using h)
   rwa[show o+(i+1)=o+1+i by omega]
theorem dB (r:Nat):∀(vs:List Value) (o:Nat) (w:World),(w.setCells r o vs).heap.size=w.heap.size
 | [],_,_=>rfl
 | v :: vs,o,w=>by rw[World.setCells,dB r vs,World.size_setCell]
theorem lY (r:Nat):∀(vs:List Value) (o:Nat) (w:World) (r':Nat),r'≠r→(w.setCells r o vs).heap[r']?=w.heap[r']?
 | [],_,_,_,_=>rfl
 | v :: vs,o,w,r',h=>by
  rw[World.setCells,lY r vs _ _ r' h]
  simp only[World.setCell,Array.getElem?_modify];rw[if_neg (fun e=>h e.symm)]
theorem m9 (r:Nat):∀(vs:List Value) (o:Nat) (w:World) (r':Nat) (x:Obj),fg x=true→w.heap[r']?=some x→(w.setCells r o vs).heap[r']?=some x
 | [],_,_,_,_,_,h=>h
 | v :: vs,o,w,r',x,hs,h=>by
  rw[World.setCells]
  refine m9 r vs _ _ r' x hs ?_
  simp only[World.setCell,Array.getElem?_modify]
  split
  ·rename_i e;rw[h];cases x<;>simp[fg]at hs<;>rfl
  ·exact h
theorem na (r:Nat):∀(vs:List Value) (o:Nat) (w:World),(w.setCells r o vs).os=w.os∧(w.setCells r o vs).output=w.output
 | [],_,_=>⟨rfl,rfl⟩
 | v :: vs,o,w=>by rw[World.setCells];exact na r vs _ _
def vO (r o n:Nat):Nat→Nat→Prop:=fun r' j=>r'=r∧o≤j∧j<o+n
theorem Tr.setCells (w:World)(r o:Nat)(vs:List Value)(hs:∀j,o≤j→j<o+vs.length→(w.cell? ⟨r,j,none⟩).isSome=true):Tr w (w.setCells r o vs) (vO r o vs.length) iz where
 size:=by rw[dB];exact Nat.le_refl _
 cell r' j _ h:=cE r vs o w r' j h
 pJ r' j _:=World.frozen?_setCells r vs o w _
 dE r' j _ h:=by
  by_cases e:r'=r∧o≤j∧j<o+vs.length
  ·obtain⟨rfl,e1,e2⟩:=e
   have hi:j-o<vs.length:=by omega
   have:=cH r' vs o w hs (j-o) _ (List.getElem?_eq_getElem hi)
   rw[show o+(j-o)=j by omega]at this
   rw[this];rfl
  ·rw[cE r vs o w r' j e];exact h
 maps r' x _ hs h:=m9 r vs o w r' x hs h
 jv r' _ _ h:=by
  by_cases e:r'=r
  ·cases vs with
   | nil=>rfl
   | cons v vs=>exact absurd ⟨e,Nat.le_refl _,by simp⟩ (h o)
  ·exact lY r vs o w r' e
 xO r' j hr:=by rw[World.frozen?_setCells];exact dp hr
 env:=na r vs o w
def Ctx.row (g:Ctx)(r:Nat)(f:Nat→Ow):Ctx:={ g with κ:=fun r' j=>if r'=r then f j else g.κ r' j }
def Ctx.at (g:Ctx)(b:Nat)(x:Nat×Nat×Nat):Ctx:={ g with φ:=fun b'=>if b'=b then some x else g.φ b' }
def Ctx.tok (g:Ctx)(t e:Nat)(x:Nat×Nat×Nat):Ctx:={ g with π:=fun t' e'=>if t'=t∧e'=e then some x else g.π t' e' }
theorem Le.gM {w':World}{g':Ctx}{S:Nat→Nat→Prop}{M:Nat→Prop}(tr:Tr w w' S M)(hφ:∀b x,g.φ b=some x→g'.φ b=some x)(hκ:∀r o,g.κ r o=.lQ→g'.κ r o=.lQ)(hπ:∀t e x,g.π t e=some x→g'.π t e=some x)
  (hS:∀r j,S r j→g.κ r j≠.lQ) (hck:g'.ck=g.ck:=by rfl):Le g w g' w' :=
 ⟨hφ,hκ,hπ,fun r o v hk hc=>by rw[tr.cell r o (jw hc) (fun hs=>hS r o hs hk)];exact hc,hck⟩
theorem SR.lQ {c:Array Value}{ty:TypeId}{w1:World}(h:SR w0 g H w)(tr:Tr w w1 gq iz)(hz:w1.heap.size=w.heap.size) :
  Le g w (g.row w.heap.size fun _=>.lQ) (w1.alloc (.cells c ty))∧SR w0 (g.row w.heap.size fun _=>.lQ) H (w1.alloc (.cells c ty))∧Fr g H (g.row w.heap.size fun _=>.lQ) H ∧
  ∀(j:Nat) (v:Value),c[j]?=some v→A2 (g.row w.heap.size fun _=>.lQ) (w1.alloc (.cells c ty)) w.heap.size j v:=by
 have vP:=tr.trans (Tr.alloc w1 (.cells c ty) (.inr ⟨_,_,rfl⟩))
 have le:Le g w (g.row w.heap.size fun _=>.lQ) (w1.alloc (.cells c ty)):=Le.gM vP (fun _ _ h=>h) (fun r o hk=>by simp only[Ctx.row];split;rfl;exact hk) (fun _ _ _ h=>h) (fun _ _ hs=>hs.elim)
 refine⟨le,?_,⟨Nat.le_refl _,fun _ _ a _ b=>⟨a,b⟩⟩,fun j v hj=>⟨by simp[Ctx.row],?_⟩⟩
 ·refine h.step (fun _=>False) vP le (fun _ _ hs=>hs.elim) (fun _ hm=>hm.elim) (fun r o hr=>?_) h.rV h.iP (fun _ _ _=>rfl) (fun r j b _=>?_) (fun _ _ _ _=>rfl) (fun b x hx=>.inl ⟨fun hf=>hf,hx⟩)
  ·simp at hr
   simp only[Ctx.row];rw[if_neg (by omega)];exact h.fresh r o (by omega)
  ·have bF:∀ow,g.κ r j=ow→ow≠.free→r≠w.heap.size:=by rintro ow e hn rfl;exact hn (e▸h.fresh _ j (Nat.le_refl _))
   constructor<;>intro e<;>simp only[Ctx.row]<;>rw[if_neg (bF _ e (by simp))]<;>exact e
 ·rw[←hz,World.cell?_alloc_new];exact hj
theorem SR.mut {c:Array Value}{ty:TypeId}{w1:World}{H':af}{b:Nat}{cs:List T}(h:SR w0 g H w)(tr:Tr w w1 gq iz)(hz:w1.heap.size=w.heap.size)
  (hb:H'[b]?=some (.cells cs)) (hn:g.φ b=none) (hH:∀b' x,b'≠b→H'[b']?=some x→H[b']?=some x∨x=.dead) (hl:H.length≤H'.length) (al:∀b' x,H[b']?=some x→(∀e,x≠.tok e)→g.φ b'=none→b'≠b→H'[b']?=some x)
  (hc:∀(i:Nat) (t:T),cs[i]?=some t→t.one=true∧∃v,c[i]?=some v∧VR g w t v) :
  Le g w ((g.row w.heap.size fun _=>.mut b).at b (w.heap.size,0,c.size)) (w1.alloc (.cells c ty))∧SR w0 ((g.row w.heap.size fun _=>.mut b).at b (w.heap.size,0,c.size)) H' (w1.alloc (.cells c ty)) ∧
  (∀b' x,H[b']?=some x→(∀e,x≠.tok e)→g.φ b'=none→b'≠b→H'[b']?=some x∧((g.row w.heap.size fun _=>.mut b).at b (w.heap.size,0,c.size)).φ b'=none):=by
 have vP:=tr.trans (Tr.alloc w1 (.cells c ty) (.inr ⟨_,_,rfl⟩))
 have bF:∀r j ow,g.κ r j=ow→ow≠.free→r≠w.heap.size:=by rintro r j ow e hn rfl;exact hn (e▸h.fresh _ j (Nat.le_refl _))
 have le:Le g w ((g.row w.heap.size fun _=>.mut b).at b (w.heap.size,0,c.size)) (w1.alloc (.cells c ty)):=Le.gM vP
  (fun b' x hx=>by simp only[Ctx.at,Ctx.row];split;rename_i e;subst e;rw[hn]at hx;simp at hx;exact hx)
  (fun r o hk=>by simp only[Ctx.row,Ctx.at];rw[if_neg (bF r o _ hk (by simp))];exact hk) (fun _ _ _ h=>h) (fun _ _ hs=>hs.elim)
 refine⟨le,?_,fun b' x a a' d e=>⟨al b' x a a' d e,by simp only[Ctx.at,Ctx.row];rw[if_neg e];exact d⟩⟩
 refine h.step (fun b'=>b'=b) vP le (fun _ _ hs=>hs.elim) (fun _ hm=>hm.elim) (fun r o hr=>?_) (fun b' x hx=>?_) (fun t e x hx=>Nat.lt_of_lt_of_le (h.iP t e x hx) hl) (fun b' _ iW=>?_) (fun r j b' iW=>?_) (fun _ _ _ _=>rfl) (fun b' x hx=>?_)
 ·simp at hr
  simp only[Ctx.row,Ctx.at];rw[if_neg (by omega)];exact h.fresh r o (by omega)
 ·simp only[Ctx.at,Ctx.row]at hx
  split at hx
  ·rename_i e;subst e;exact(List.getElem?_eq_some_iff.1 hb).1
  ·exact Nat.lt_of_lt_of_le (h.rV b' x hx) hl
 ·simp only[Ctx.at,Ctx.row];rw[if_neg iW]
 ·constructor<;>intro e<;>simp only[Ctx.row,Ctx.at]<;>rw[if_neg (bF r j _ e (by simp))]<;>exact e
 ·by_cases e:b'=b
  ·subst e
   right
   rw[hb]at hx;cases hx
   intro r o q hq
   simp only[Ctx.at,if_true,Option.some.injEq,Prod.mk.injEq]at hq
   obtain⟨rfl,rfl,rfl⟩:=hq
   have ug:∀i,i<cs.length→i<c.size:=fun i hi=>by
    obtain⟨_,v,hv,_⟩:=hc i _ (List.getElem?_eq_getElem hi)
    exact(Array.getElem?_eq_some_iff.1 hv).1
   refine⟨?_,fun j _ hj=>⟨by simp[Ctx.row,Ctx.at],by rw[←hz];simp,by rw[←hz,World.cell?_alloc_new,Array.getElem?_eq_getElem hj];rfl⟩,fun i t hi=>?_⟩
   ·cases lh:cs.length with
    | zero=>omega
    | succ n=>have:=ug n (by omega);omega
   ·obtain⟨h1,v,h2,h3⟩:=hc i t hi
    exact⟨h1,v,by rw[←hz,World.cell?_alloc_new,Nat.zero_add];exact h2,h3.mono le⟩
  ·rcases hH b' x e hx with je|rfl
   ·exact .inl ⟨e,je⟩
   ·right;trivial
theorem fh (H:af)(x:B):(H++[x])[H.length]?=some x:=by simp
theorem cT {H:af}{x y:B}{b:Nat}(hb:b≠H.length)(h:(H++[x])[b]?=some y):H[b]?=some y:=by
 rw[List.getElem?_append]at h
 split at h
 ·exact h
 ·rename_i ax
  have:b-H.length≠0:=by omega
  cases hk:b-H.length with
  | zero=>omega
  | succ n=>simp[hk]at h
theorem iA {H:af}{x y:B}{b:Nat}(h:H[b]?=some y):(H++[x])[b]?=some y:=by
 rw[List.getElem?_append_left (List.getElem?_eq_some_iff.1 h).1];exact h
theorem SR.Ie (h:SR w0 g H w){b:Nat}(hb:H.length≤b):g.φ b=none:=by
 cases e:g.φ b with
 | none=>rfl
 | some x=>have:=h.rV b x e;omega
theorem SR.VX (h:SR w0 g H w){t e:Nat}(hb:H.length≤t):g.π t e=none:=by
 cases e':g.π t e with
 | none=>rfl
 | some x=>have:=h.iP t e x e';omega
theorem SR.gF {c:Array Value}{ty:TypeId}{w1:World}{cs:List T}(h:SR w0 g H w)(tr:Tr w w1 gq iz)(hz:w1.heap.size=w.heap.size)
  (hc:∀(i:Nat) (t:T),cs[i]?=some t→t.one=true∧∃v,c[i]?=some v∧VR g w t v) :
  ∃g',Le g w g' (w1.alloc (.cells c ty))∧SR w0 g' (H++[.cells cs]) (w1.alloc (.cells c ty))∧Fr g H g' (H++[.cells cs])∧g'.φ H.length=some (w.heap.size,0,c.size):=by
 obtain⟨le,sr,fr⟩:=h.mut (H':=H++[.cells cs]) (b:=H.length) (ty:=ty) tr hz (fh _ _) (h.Ie (Nat.le_refl _)) (fun b' x e hx=>.inl (cT e hx)) (by simp) (fun b' x hx _ _ _=>iA hx) hc
 exact⟨_,le,sr,⟨by simp,fun b x a a' d=>fr b x a a' d (by have:=(List.getElem?_eq_some_iff.1 a).1;omega)⟩,by simp[Ctx.at]⟩
theorem bD.Mo {cs:List T}{vs:List Value}(h:bD g w cs vs)(ho:cy cs):∀(i:Nat) (t:T),cs[i]?=some t→t.one=true∧∃v,vs.toArray[i]?=some v∧VR g w t v :=
 fun i t hi=>⟨ho t (List.mem_of_getElem? hi),h.fL i t hi⟩
theorem Be {ty:TypeId}{i:TypeInfo}{zv:Value}{z:List T}(hi:P.info? ty=some i)(hz:i.zero=some zv)(hc:eM zv.cells.toList=some z)(h:SR w0 g H w) :
  b6 P w0 g H w (Instr.alloc ty true (.tuple #[])) (.ptr H.length 0) (H++[.cells z]):=by
 obtain⟨hv,ho⟩:=dA (g:=g) (w:=w) _ _ hc
 obtain⟨g',le,sr,fr,hφ⟩:=h.gF (c:=zv.cells) (ty:=ty) (w1:=w) (Tr.refl w) rfl (by simpa using hv.Mo ho)
 refine⟨.pointer (some ⟨w.heap.size,0,none⟩),_,g',?_,le,sr,.ptr hφ,fr⟩
 simp[Instr.alloc,zeroValue,bq hi,hz,newVar,newRow]
theorem Ig {ty:TypeId}{x:T}{cs:List T}{vx:Value}(h:SR w0 g H w)(hx:VR g w x vx)(hc:x.cells?=some cs) :
  b6 P w0 g H w (Instr.box ty vx) (.ptr H.length 0) (H++[.cells cs]):=by
 obtain⟨hv,ho⟩:=jd hx hc
 obtain⟨g',le,sr,fr,hφ⟩:=h.gF (c:=vx.cells) (ty:=ty) (w1:=w) (Tr.refl w) rfl (by simpa using hv.Mo ho)
 refine⟨.pointer (some ⟨w.heap.size,0,none⟩),_,g',?_,le,sr,.ptr hφ,fr⟩
 simp[Instr.box,newVar,newRow]
theorem SR.C3 {b:Nat}{H':af}(h:SR w0 g H w)(hb:H'[b]?=some (.map []))(hn:g.φ b=none)(hH:∀b' x,b'≠b→H'[b']?=some x→H[b']?=some x)(hl:H.length≤H'.length) :
  Le g w ((g.row w.heap.size fun _=>.mut b).at b (w.heap.size,0,0)) (w.alloc (.map #[] 0))∧SR w0 ((g.row w.heap.size fun _=>.mut b).at b (w.heap.size,0,0)) H' (w.alloc (.map #[] 0)):=by
 have vP:=Tr.alloc w (.map #[] 0) (.inl rfl)
 have bF:∀r j ow,g.κ r j=ow→ow≠.free→r≠w.heap.size:=by rintro r j ow e hn rfl;exact hn (e▸h.fresh _ j (Nat.le_refl _))
 have le:Le g w ((g.row w.heap.size fun _=>.mut b).at b (w.heap.size,0,0)) (w.alloc (.map #[] 0)):=Le.gM vP
  (fun b' x hx=>by simp only[Ctx.at,Ctx.row];split;rename_i e;subst e;rw[hn]at hx;simp at hx;exact hx)
  (fun r o hk=>by simp only[Ctx.row,Ctx.at];rw[if_neg (bF r o _ hk (by simp))];exact hk) (fun _ _ _ h=>h) (fun _ _ hs=>hs.elim)
 refine⟨le,?_⟩
 refine h.step (fun b'=>b'=b) vP le (fun _ _ hs=>hs.elim) (fun _ hm=>hm.elim) (fun r o hr=>?_) (fun b' x hx=>?_) (fun t e x hx=>Nat.lt_of_lt_of_le (h.iP t e x hx) hl) (fun b' _ iW=>?_) (fun r j b' iW=>?_) (fun _ _ _ _=>rfl) (fun b' x hx=>?_)
 ·simp at hr
  simp only[Ctx.row,Ctx.at];rw[if_neg (by omega)];exact h.fresh r o (by omega)
 ·simp only[Ctx.at,Ctx.row]at hx
  split at hx
  ·rename_i e;subst e;exact(List.getElem?_eq_some_iff.1 hb).1
  ·exact Nat.lt_of_lt_of_le (h.rV b' x hx) hl
 ·simp only[Ctx.at,Ctx.row];rw[if_neg iW]
 ·constructor<;>intro e<;>simp only[Ctx.row,Ctx.at]<;>rw[if_neg (bF r j _ e (by simp))]<;>exact e
 ·by_cases e:b'=b
  ·subst e
   right
   rw[hb]at hx;cases hx
   intro r o q hq
   simp only[Ctx.at,if_true,Option.some.injEq,Prod.mk.injEq]at hq
   obtain⟨rfl,rfl,rfl⟩:=hq
   exact⟨by simp[Ctx.row,Ctx.at],#[],0,by show(w.heap.push _)[w.heap.size]?=_;simp,⟨rfl,by simp⟩,by simp[ff]⟩
  ·exact .inl ⟨e,hH b' x e hx⟩
theorem Ih {ty:TypeId}(h:SR w0 g H w):b6 P w0 g H w (Instr.makeMap ty none) (.map H.length) (H++[.map []]):=by
 obtain⟨le,sr⟩:=h.C3 (H':=H++[.map []]) (b:=H.length) (fh _ _) (h.Ie (Nat.le_refl _)) (fun b' x e hx=>cT e hx) (by simp)
 refine⟨.map (some w.heap.size),_,_,?_,le,sr,.map (r:=w.heap.size) (o:=0) (q:=0) (by simp[Ctx.at]),by simp,fun b x a _ d=>⟨iA a,?_⟩⟩
 ·simp[Instr.makeMap]
 ·have:=(List.getElem?_eq_some_iff.1 a).1
  simp only[Ctx.at,Ctx.row];rw[if_neg (by omega)];exact d
end
section
variable {P:Program} {w0 w:World} {g:Ctx} {H:af}
theorem ej {H:af}{b b':Nat}{x y:B}(ax:b<H.length)(h:(H.set b x)[b']?=some y):(b'=b∧y=x)∨(b'≠b∧H[b']?=some y):=by
 rw[List.getElem?_set]at h
 split at h
 ·rename_i e;subst e;simp[ax]at h;exact .inl ⟨rfl,h.symm⟩
 ·rename_i e;exact .inr ⟨fun e'=>e e'.symm,h⟩
theorem fj {H:af}{b b':Nat}{x y:B}(h:H[b']?=some y)(bF:b'≠b):(H.set b x)[b']?=some y:=by
 rw[List.getElem?_set,if_neg (fun e=>bF e.symm)];exact h
theorem SR.store {b off r o q:Nat}{cs ts:List T}{vs:List Value}(h:SR w0 g H w)(hb:H[b]?=some (.cells cs))(hφ:g.φ b=some (r,o,q))(hle:off+ts.length≤cs.length)(hv:bD g w ts vs)(ho:cy ts) :
  Le g w g (w.setCells r (o+off) vs)∧SR w0 g (H.set b (.cells (cs.take off++ts++cs.drop (off+ts.length)))) (w.setCells r (o+off) vs):=by
 have jV:b<H.length:=(List.getElem?_eq_some_iff.1 hb).1
 obtain⟨h1,h2,h3⟩:=h.dP b _ hb r o q hφ
 have hl:=hv.1
 have hs:∀j,o+off≤j→j<o+off+vs.length→(w.cell? ⟨r,j,none⟩).isSome=true:=fun j a c=>(h2 j (by omega) (by omega)).2.2
 have tr:=Tr.setCells w r (o+off) vs hs
 have hS:∀r' j,vO r (o+off) vs.length r' j→g.κ r' j=.mut b:=by
  rintro r' j⟨rfl,a,c⟩;exact(h2 j (by omega) (by omega)).1
 have le:Le g w g (w.setCells r (o+off) vs):=Le.gM tr (fun _ _ h=>h) (fun _ _ h=>h) (fun _ _ _ h=>h) (fun r' j fb e=>by rw[hS r' j fb]at e;cases e)
 refine⟨le,h.step (fun b'=>b'=b) tr le (fun r' j fb=>.inr (.inl ⟨b,hS r' j fb,rfl⟩)) (fun _ hm=>hm.elim) (fun r' j hr=>h.fresh r' j (by rwa[dB]at hr)) (fun b' x hx=>by rw[List.length_set];exact h.rV b' x hx)
  (fun t e x hx=>by rw[List.length_set];exact h.iP t e x hx) (fun _ _ _=>rfl) (fun _ _ _ _=>⟨id,id⟩) (fun _ _ _ _=>rfl) (fun b' x hx=>?_)⟩
 rcases ej jV hx with⟨rfl,rfl⟩|⟨bF,je⟩
 ·right
  intro r' o' q' ka
  rw[hφ]at ka;cases ka
  have hlen:(cs.take off++ts++cs.drop (off+ts.length)).length=cs.length:=by simp;omega
  refine⟨by rw[hlen];exact h1,fun j a c=>⟨(h2 j a c).1,by rw[World.frozen?_setCells];exact(h2 j a c).2.1,tr.dE r j ?_ (h2 j a c).2.2⟩,fun i t hi=>?_⟩
  ·obtain⟨x,hx⟩:=Option.isSome_iff_exists.1 (h2 j a c).2.2;exact jw hx
  ·have jU:i<cs.length:=by rw[←hlen];exact(List.getElem?_eq_some_iff.1 hi).1
   by_cases iB:off≤i∧i<off+ts.length
   ·have ht:ts[i-off]?=some t:=by
     rw[List.append_assoc,List.getElem?_append_right (by simp;omega),List.getElem?_append_left (by simp;omega)]at hi
     rw[←hi];congr 1;simp;omega
    have ax:i-off<vs.length:=by omega
    refine⟨ho t (List.mem_of_getElem? ht),vs[i-off],?_,(hv.2 _ t _ ht (List.getElem?_eq_getElem ax)).mono le⟩
    have:=cH r vs (o+off) w hs (i-off) _ (List.getElem?_eq_getElem ax)
    rwa[show o+off+(i-off)=o+i by omega]at this
   ·have ht:cs[i]?=some t:=by
     by_cases ax:i<off
     ·rw[List.append_assoc,List.getElem?_append_left (by simp;omega),List.getElem?_take,if_pos ax]at hi;exact hi
     ·rw[List.getElem?_append_right (by simp;omega),List.getElem?_drop]at hi
      rw[←hi];congr 1;simp;omega
    obtain⟨a,v,Mp,Mq⟩:=h3 i t ht
    refine⟨a,v,?_,Mq.mono le⟩
    rw[cE r vs (o+off) w r (o+i) (by omega)];exact Mp
 ·exact .inl ⟨bF,je⟩
theorem uh {ty:TypeId}{i:TypeInfo}{v:Value}{r o:Nat}(hi:P.info? ty=some i)(a7:v.cells.size=i.size)(hc:∀j,j<v.cells.toList.length→(w.cell? ⟨r,o+j,none⟩).isSome=true)
  (hf:∀j,j<v.cells.toList.length→w.frozen? ⟨r,o+j,none⟩=false) (h1:∀x∈v.cells.toList,x.oneCell'=true) :
  (storeVar ty ⟨r,o,none⟩ v).run P w=.ok () (w.setCells r o v.cells.toList):=by
 have:=run_storeCells_cells (P:=P) r o v.cells.toList 0 w (by simpa using hc) (by simpa using hf) h1
 simp[storeVar,sizeOf,bq hi,a7]
 simpa using this
theorem Mr {ty:TypeId}{i:TypeInfo}{p x:T}{vp vx:Value}{ts:List T}{H':af}(hi:P.info? ty=some i)(h:SR w0 g H w)(hp:VR g w p vp)(hx:VR g w x vx)(hc:x.cells?=some ts)(hn:ts.length=i.size)(he:Qa H ts p=some H') :
  ∃w' g',(Instr.storeAt ty vp vx).run P w=.ok () w'∧Le g w g' w'∧SR w0 g' H' w'∧Fr g H g' H':=by
 obtain⟨hv,ho⟩:=jd hx hc
 cases hp<;>simp only[Qa]at he<;>(try (simp at he;done))
 rename_i b off r o q hφ
 cases hb:H[b]? with
 | none=>simp[hb]at he
 | some y =>
  cases y<;>simp only[hb]at he<;>(try (simp at he;done))
  rename_i cs
  split at he
  ·rename_i hle
   simp only[Option.some.injEq]at he;subst he
   have jV:b<H.length:=(List.getElem?_eq_some_iff.1 hb).1
   obtain⟨h1,h2,h3⟩:=h.dP b _ hb r o q hφ
   obtain⟨le,sr⟩:=h.store hb hφ hle hv ho
   have hl:=hv.1
   refine⟨_,g,?_,le,sr,by simp,fun b' y' a _ d=>⟨fj a ?_,d⟩⟩
   ·have:=uh (P:=P) (w:=w) (ty:=ty) (r:=r) (o:=o+off) hi (v:=vx) (by rw[←hn,hl];simp) (fun j hj=>(h2 _ (by omega) (by omega)).2.2) (fun j hj=>(h2 _ (by omega) (by omega)).2.1) (hv.iu ho)
    simpa[Instr.storeAt,Instr.sureAddr]using this
   ·rintro rfl;rw[hφ]at d;cases d
  ·simp at he
def World.b9 (w:World)(r:Nat)(o:Obj):World:={ w with heap:=w.heap.setIfInBounds r o }
theorem qo (w:World){r r':Nat}(o:Obj)(h:r'≠r):(World.b9 w r o).heap[r']?=w.heap[r']?:=by
 unfold World.b9;simp only[Array.getElem?_setIfInBounds];rw[if_neg (fun e=>h e.symm)]
theorem qp (w:World){r:Nat}(o:Obj)(h:r<w.heap.size):(World.b9 w r o).heap[r]?=some o:=by
 unfold World.b9;simp[h]
theorem vQ (w:World){r:Nat}{x x':Obj}(hs:fg x=true)(fb:fg x'=true)(h:w.heap[r]?=some x)(a:Addr):(World.b9 w r x').cell? a=w.cell? a:=by
 have ax:r<w.heap.size:=(Array.getElem?_eq_some_iff.1 h).1
 unfold World.cell?
 by_cases e:a.block=r
 ·rw[e,qp w _ ax,h]
  cases x<;>simp[fg]at hs<;>cases x'<;>simp[fg]at fb<;>rfl
 ·rw[qo w _ e]
theorem qq (w:World){r:Nat}{x x':Obj}(hs:fg x=true)(fb:fg x'=true)(h:w.heap[r]?=some x)(a:Addr):(World.b9 w r x').frozen? a=w.frozen? a:=by
 have ax:r<w.heap.size:=(Array.getElem?_eq_some_iff.1 h).1
 unfold World.frozen?
 by_cases e:a.block=r
 ·rw[e,qp w _ ax,h]
  cases x<;>simp[fg]at hs<;>cases x'<;>simp[fg]at fb<;>rfl
 ·rw[qo w _ e]
theorem Tr.xU (w:World)(r:Nat){x x':Obj}(hs:fg x=true)(fb:fg x'=true)(h:w.heap[r]?=some x):Tr w (World.b9 w r x') gq (fun r'=>r'=r) where
 size:=by simp[World.b9]
 cell r' j _ _:=vQ w hs fb h _
 pJ r' j _:=qq w hs fb h _
 dE r' j _ hk:=by rw[vQ w hs fb h];exact hk
 maps r' x hm _ hk:=by rw[qo w _ hm];exact hk
 jv r' _ hm _:=qo w _ hm
 xO r' j hr:=by rw[qq w hs fb h];exact dp hr
 env:=⟨rfl,rfl⟩
theorem SR.ui {b r o q:Nat}{es Qj:List (T×T)}{av qt:Array MapEntry}{c c':Nat}(h:SR w0 g H w)(hb:H[b]?=some (.map es))(hφ:g.φ b=some (r,o,q))(hr:w.heap[r]?=some (.map av c))(hE:dS g w Qj qt)(hB:ff qt c') :
  Le g w g (World.b9 w r (.map qt c'))∧SR w0 g (H.set b (.map Qj)) (World.b9 w r (.map qt c'))∧Fr g H g (H.set b (.map Qj)):=by
 have jV:b<H.length:=(List.getElem?_eq_some_iff.1 hb).1
 obtain⟨h1,_⟩:=h.dP b _ hb r o q hφ
 have tr:=Tr.xU w r (x:=.map av c) (x':=.map qt c') rfl rfl hr
 have le:Le g w g (World.b9 w r (.map qt c')):=Le.gM tr (fun _ _ h=>h) (fun _ _ h=>h) (fun _ _ _ h=>h) (fun _ _ hs=>hs.elim)
 refine⟨le,h.step (fun b'=>b'=b) tr le (fun _ _ hs=>hs.elim) (fun r' hm=>⟨b,by rw[hm];exact h1,rfl⟩) (fun r' j n5=>h.fresh r' j (by simpa[World.b9]using n5)) (fun b' x hx=>by rw[List.length_set];exact h.rV b' x hx)
  (fun t e x hx=>by rw[List.length_set];exact h.iP t e x hx) (fun _ _ _=>rfl) (fun _ _ _ _=>⟨id,id⟩) (fun _ _ _ _=>rfl) (fun b' x hx=>?_),by simp,fun b' x a _ d=>⟨fj a (by rintro rfl;rw[hφ]at d;cases d),d⟩⟩
 rcases ej jV hx with⟨rfl,rfl⟩|⟨bF,je⟩
 ·right
  intro r' o' q' ka
  rw[hφ]at ka;cases ka
  refine⟨h1,qt,c',?_,hE.mono le,hB⟩
  have ax:r<w.heap.size:=(Array.getElem?_eq_some_iff.1 hr).1
  simp[World.b9,ax]
 ·exact .inl ⟨bF,je⟩
theorem og {n:Nat}{a b:T}{va vb:Value}(ha:VR g w a va)(hb:VR g w b vb)(he:iM a b=some true):Instr.sameBits n va vb=true:=by
 cases ha<;>cases hb<;>simp[iM]at he
 ·obtain⟨rfl,rfl⟩:=he;cases n<;>simp[Instr.sameBits]
 ·subst he;cases n<;>simp[Instr.sameBits]
 ·rename_i s1 s2
  have e:(s1==s2)=true:=by rw[beq_toListBytes];exact he
  cases n<;>exact e
theorem nf {n:Nat}:∀(as bs:List T) (xs ys:List Value),bD g w as xs→bD g w bs ys→b8 as bs=some true→xs.length=ys.length∧(xs.zip ys).all (fun (x,y)=>Instr.sameBits n x y)=true
 | [],[],xs,ys,hx,hy,_=>by
  have a:=hx.1;have b:=hy.1
  simp at a b
  have e1:xs=[]:=List.eq_nil_of_length_eq_zero (by omega)
  have e2:ys=[]:=List.eq_nil_of_length_eq_zero (by omega)
  subst e1;subst e2;simp
 | a :: as,b :: bs,xs,ys,hx,hy,he=>by
  cases xs with
  | nil=>have:=hx.1;simp at this
  | cons x xs =>
   cases ys with
   | nil=>have:=hy.1;simp at this
   | cons y ys =>
    simp only[b8]at he
    cases e1:iM a b with
    | none=>simp[e1]at he
    | some r1 =>
     cases e2:b8 as bs with
     | none=>simp[e1,e2]at he
     | some r2 =>
      simp[e1,e2]at he
      obtain⟨rfl,rfl⟩:=he
      obtain⟨h1,h2⟩:=nf as bs xs ys hx.tail hy.tail e2
      exact⟨by simp[h1],by simp[og hx.head hy.head e1];simpa using h2⟩
 | [],_ :: _,_,_,_,_,he=>by simp[b8]at he
 | _ :: _,[],_,_,_,_,he=>by simp[b8]at he
theorem qu {a b:T}{va vb:Value}(ha:VR g w a va)(hb:VR g w b vb)(he:gJ a b=some true):Instr.sameBits 10000 va vb=true:=by
 by_cases h:∃as bs,a=.agg as∧b=.agg bs
 ·obtain⟨as,bs,rfl,rfl⟩:=h
  obtain⟨xs,rfl,hx,_⟩:=ha.fK
  obtain⟨ys,rfl,hy,_⟩:=hb.fK
  obtain⟨h1,h2⟩:=nf (n:=9999) as bs xs ys hx hy he
  show Instr.sameBits (9999+1) _ _=true
  rw[Instr.sameBits]
  simp[h1]
  simpa using h2
 ·have:iM a b=some true:=by
   cases a<;>first|exact he|(cases b<;>first|exact he|exact absurd ⟨_,_,rfl,rfl⟩ h)
  exact og ha hb this
theorem qv:∀(k:T) (es:List (T×T)) (i:Nat),cZ k es=some (some i)→∃e,es[i]?=some e∧gJ k e.1=some true
 | k,[],i,h=>by simp[cZ]at h
 | k,e :: es,i,h=>by
  simp only[cZ]at h
  cases hk:gJ k e.1 with
  | none=>simp[hk]at h
  | some b =>
   cases b with
   | true=>simp[hk]at h;subst h;exact⟨e,rfl,hk⟩
   | false =>
    simp only[hk,Option.map_eq_some_iff]at h
    obtain⟨r,h1,h2⟩:=h
    cases r with
    | none=>simp at h2
    | some j =>
     simp at h2;subst h2
     obtain⟨e',h3,h4⟩:=qv k es j h1
     exact⟨e',by simpa using h3,h4⟩
theorem dS.set {es:List (T×T)}{av:Array MapEntry}(h:dS g w es av){k v:T}{vk vv:Value}(hk:VR g w k vk)(hv:VR g w v vv)(i:Nat) :
  dS g w (es.set i (k,v)) (av.modify i fun e=>{ e with key:=vk,val:=vv }):=by
 refine⟨by simp[h.1],fun j e m a b=>?_⟩
 rw[List.getElem?_set]at a
 rw[Array.getElem?_modify]at b
 split at a
 ·rename_i e'
  rw[if_pos e']at b
  subst e'
  split at a
  ·simp at a b
   obtain⟨m',_,rfl⟩:=b
   subst a
   exact⟨hk,hv⟩
  ·cases a
 ·rename_i e'
  rw[if_neg e']at b
  exact h.2 j e m a b
theorem dS.push {es:List (T×T)}{av:Array MapEntry}(h:dS g w es av){k v:T}{vk vv:Value}(hk:VR g w k vk)(hv:VR g w v vv)(c:Nat) :
  dS g w (es++[(k,v)]) (av.push { key:=vk,val:=vv,born:=c }):=by
 refine⟨by simp[h.1],fun j e m a b=>?_⟩
 rw[Array.getElem?_push,h.1]at b
 rw[List.getElem?_append]at a
 split at b
 ·rename_i e'
  subst e'
  simp at a b
  subst a;subst b
  exact⟨hk,hv⟩
 ·rename_i e'
  split at a
  ·exact h.2 j e m a b
  ·have:j<av.size:=(Array.getElem?_eq_some_iff.1 b).1
   rw[h.1]at this;omega
theorem dS.erase {es:List (T×T)}{av:Array MapEntry}(h:dS g w es av)(i:Nat)(hi:i<es.length):dS g w (es.eraseIdx i) (av.eraseIdxIfInBounds i):=by
 have a7:i<av.size:=by rw[h.1];exact hi
 have e1:(av.eraseIdxIfInBounds i).toList=av.toList.eraseIdx i:=by simp[Array.eraseIdxIfInBounds,a7]
 refine⟨by rw[←Array.length_toList,e1,List.length_eraseIdx,List.length_eraseIdx,if_pos hi,Array.length_toList,if_pos a7,h.1],fun j e m a b=>?_⟩
 have b':(av.toList.eraseIdx i)[j]?=some m:=by rw[←e1,Array.getElem?_toList];exact b
 rw[List.getElem?_eraseIdx]at a b'
 split at a
 ·rename_i ax;rw[if_pos ax]at b';exact h.2 j e m a (by simpa using b')
 ·rename_i ax;rw[if_neg ax]at b';exact h.2 _ e m a (by simpa using b')
theorem ff.set {av:Array MapEntry}{c:Nat}(h:ff av c)(k v:Value)(i:Nat):ff (av.modify i fun e=>{ e with key:=k,val:=v }) c:=by
 have e:(av.modify i fun e=>{ e with key:=k,val:=v }).toList.map (·.born)=av.toList.map (·.born):=by
  apply List.ext_getElem?
  intro j
  simp only[List.getElem?_map,Array.getElem?_toList,Array.getElem?_modify]
  split
  ·cases av[j]?<;>rfl
  ·rfl
 refine⟨fun m hm=>?_,by rw[e];exact h.2⟩
 have:=List.mem_map_of_mem (f:=fun m:MapEntry=>m.born) hm
 rw[e]at this
 obtain⟨m',h1,h2⟩:=List.mem_map.1 this
 rw[←h2];exact h.1 m' h1
theorem ff.push {av:Array MapEntry}{c:Nat}(h:ff av c)(k v:Value):ff (av.push { key:=k,val:=v,born:=c }) (c+1):=by
 refine⟨fun m hm=>?_,?_⟩
 ·rw[Array.toList_push,List.mem_append]at hm
  rcases hm with hm|hm
  ·exact Nat.lt_succ_of_lt (h.1 m hm)
  ·simp at hm;subst hm;exact Nat.lt_succ_self _
 ·rw[Array.toList_push,List.map_append,List.nodup_append]
  refine⟨h.2,by simp,fun a ha b hb=>?_⟩
  simp at hb
  subst hb
  obtain⟨m,hm,rfl⟩:=List.mem_map.1 ha
  exact Nat.ne_of_lt (h.1 m hm)
theorem ff.erase {av:Array MapEntry}{c:Nat}(h:ff av c)(i:Nat):ff (av.eraseIdxIfInBounds i) c:=by
 by_cases a7:i<av.size
 ·have e1:(av.eraseIdxIfInBounds i).toList=av.toList.eraseIdx i:=by simp[Array.eraseIdxIfInBounds,a7]
  exact⟨fun m hm=>h.1 m (by rw[e1]at hm;exact(List.eraseIdx_sublist _ _).subset hm),by rw[e1];exact h.2.sublist ((List.eraseIdx_sublist _ _).map _)⟩
 ·have e1:av.eraseIdxIfInBounds i=av:=by simp[Array.eraseIdxIfInBounds,a7]
  rw[e1];exact h
theorem Ii {ty key elem:TypeId}{kt:KT}{b:Nat}{k v:T}{vm vk vv:Value}{es:List (T×T)}{r:Option Nat}(hu:P.underlying ty=some (.map key elem))(jy:mm P key kt=true)
  (h:SR w0 g H w) (hm:VR g w (.map b) vm) (hk:VR g w k vk) (hv:VR g w v vv) (xS:k.iL kt=true) (hb:H[b]?=some (.map es)) (hr:cZ k es=some r) :
  ∃w' g',(Instr.mapUpdate ty vm vk vv).run P w=.ok () w'∧Le g w g' w'∧SR w0 g' (H.set b (.map (match r with|some i=>es.set i (k,v)|none=>es++[(k,v)]))) w'∧Fr g H g' (H.set b (.map (match r with|some i=>es.set i (k,v)|none=>es++[(k,v)]))):=by
 cases hm with
 | @map _ rr o q hφ =>
  obtain⟨h1,av,c,h2,hE,hB⟩:=h.dP b _ hb rr o q hφ
  have hf:=uf jy hk xS es av.toList (by simpa using hE.1) (fun i e m a b=>hE.2 i e m a (by simpa using b)) hr
  have hc:=ki (P:=P) (w:=w) (e:=false) jy hk xS
  cases r with
  | none =>
   obtain⟨le,sr,fr⟩:=h.ui (c':=c+1) hb hφ h2 (hE.push hk hv c) (hB.push _ _)
   refine⟨_,g,?_,le,sr,fr⟩
   simp at hf
   simp[Instr.mapUpdate,run_underlying hu,getObj,setObj,Sem.run,h2,hc,hf,World.b9]
  | some i =>
   obtain⟨e,he,KR⟩:=qv k es i hr
   have ax:i<av.size:=by rw[hE.1];exact(List.getElem?_eq_some_iff.1 he).1
   have qn:av[i]?=some av[i]:=Array.getElem?_eq_getElem ax
   have bO:=(hE.2 i e _ he qn).1
   have US:=qu hk bO KR
   have VY:Instr.sameBits 10000 av[i].key vk=true:=by
    have:gJ e.1 k=some true∨True:=.inr trivial
    by_cases h':∃as bs,k=.agg as∧e.1=.agg bs
    ·obtain⟨as,bs,rfl,e2⟩:=h'
     have eqc:∀(as bs:List T),b8 as bs=some true→b8 bs as=some true:=by
      intro as
      induction as with
      | nil=>intro bs Hb;cases bs<;>simp[b8]at Hb ⊢
      | cons a as ih =>
       intro bs Hb
       cases bs with
       | nil=>simp[b8]at Hb
       | cons b bs =>
        simp only[b8]at Hb ⊢
        cases e1:iM a b with
        | none=>simp[e1]at Hb
        | some r1 =>
         cases e2:b8 as bs with
         | none=>simp[e1,e2]at Hb
         | some r2 =>
          simp[e1,e2]at Hb
          obtain⟨rfl,rfl⟩:=Hb
          have:iM b a=some true:=by
           cases a<;>cases b<;>simp[iM,iZ]at e1 ⊢
           ·exact⟨e1.1.symm,e1.2.symm⟩
           ·exact e1.symm
           ·exact e1.symm
          simp[this,ih bs e2]
     rw[e2]at bO KR
     exact qu bO hk (eqc _ _ KR)
    ·have e1:iM k e.1=some true:=by
      generalize e.1=d at *
      cases k<;>first|exact KR|(cases d<;>first|exact KR|exact absurd ⟨_,_,rfl,rfl⟩ h')
     have e2:iM e.1 k=some true:=by
      generalize e.1=d at *
      cases k<;>cases d<;>simp[iM,iZ]at e1 ⊢
      ·exact⟨e1.1.symm,e1.2.symm⟩
      ·exact e1.symm
      ·exact e1.symm
     exact og bO hk e2
   obtain⟨le,sr,fr⟩:=h.ui (c':=c) hb hφ h2 (hE.set hk hv i) (hB.set _ _ i)
   refine⟨_,g,?_,le,sr,fr⟩
   have hx:((some i:Option Nat).bind fun i=>(av.toList[i]?).map fun m=>(i,m.val))=some (i,av[i].val):=by simp[ax]
   rw[hx]at hf
   have PA:(Instr.keyThatStays av[i].key vk).run P w=.ok vk w:=by simp[Instr.keyThatStays,VY]
   simp[Instr.mapUpdate,run_underlying hu,getObj,setObj,Sem.run,h2,hc,hf,ax,PA,World.b9]
theorem Ij {ty key elem xt rt:TypeId}{kt:KT}{b:Nat}{k:T}{vm vk:Value}{es:List (T×T)}{r:Option Nat}(hu:P.underlying ty=some (.map key elem))(jy:mm P key kt=true)
  (h:SR w0 g H w) (hm:VR g w (.map b) vm) (hk:VR g w k vk) (xS:k.iL kt=true) (hb:H[b]?=some (.map es)) (hr:cZ k es=some r) :
  b6 P w0 g H w (Builtin.delete_ #[ty,xt] rt #[vm,vk]) (.bN []) (match r with|some i=>H.set b (.map (es.eraseIdx i))|none=>H):=by
 cases hm with
 | @map _ rr o q hφ =>
  obtain⟨h1,av,c,h2,hE,hB⟩:=h.dP b _ hb rr o q hφ
  have hf:=uf jy hk xS es av.toList (by simpa using hE.1) (fun i e m a b=>hE.2 i e m a (by simpa using b)) hr
  have hc:=ki (P:=P) (w:=w) (e:=av.isEmpty) jy hk xS
  cases r with
  | none =>
   obtain⟨le,sr,fr⟩:=h.ui (c':=c) hb hφ h2 hE hB
   have hH:H.set b (.map es)=H:=by
    apply List.ext_getElem?
    intro j
    rw[List.getElem?_set]
    split
    ·rename_i e;subst e;rw[if_pos (List.getElem?_eq_some_iff.1 hb).1,hb]
    ·rfl
   rw[hH]at sr fr
   refine⟨.tuple #[],_,g,?_,le,sr,.bN rfl (by simp),fr⟩
   simp at hf
   simp[Builtin.delete_,run_underlying hu,getObj,setObj,Sem.run,h2,hc,hf,World.b9]
  | some i =>
   obtain⟨e,he,KR⟩:=qv k es i hr
   have UT:i<es.length:=(List.getElem?_eq_some_iff.1 he).1
   have ax:i<av.size:=by rw[hE.1];exact UT
   obtain⟨le,sr,fr⟩:=h.ui (c':=c) hb hφ h2 (hE.erase i UT) (hB.erase i)
   refine⟨.tuple #[],_,g,?_,le,sr,.bN rfl (by simp),fr⟩
   have hx:((some i:Option Nat).bind fun i=>(av.toList[i]?).map fun m=>(i,m.val))=some (i,av[i].val):=by simp[ax]
   rw[hx]at hf
   simp[Builtin.delete_,run_underlying hu,getObj,setObj,Sem.run,h2,hc,hf,World.b9]
end
section
variable {P:Program} {w0 w:World} {g:Ctx} {H:af}
theorem kj {n:Nat}:∀(es:List (List T)),(∀c∈es,c.length=n)→∀(i j:Nat) (c:List T) (t:T),es[i]?=some c→c[j]?=some t→es.flatten[i*n+j]?=some t
 | [],_,i,j,c,t,h,_=>by simp at h
 | d :: es,hn,i,j,c,t,h,hj=>by
  have hd:=hn d (by simp)
  cases i with
  | zero =>
   simp at h;subst h
   have ax:j<d.length:=(List.getElem?_eq_some_iff.1 hj).1
   simp only[List.flatten_cons,Nat.zero_mul,Nat.zero_add]
   rw[List.getElem?_append_left ax];exact hj
  | succ i =>
   have ih:=kj es (fun c hc=>hn c (by simp[hc])) i j c t (by simpa using h) hj
   simp only[List.flatten_cons]
   rw[List.getElem?_append_right (by rw[hd,Nat.succ_mul];omega)]
   rw[show(i+1)*n+j-d.length=i*n+j by rw[hd,Nat.succ_mul];omega];exact ih
theorem fQ {n:Nat}(es:List (List T))(hn:∀c∈es,c.length=n):es.flatten.length=es.length*n:=by
 induction es with
 | nil=>simp
 | cons d es ih=>simp only[List.flatten_cons,List.length_append,List.length_cons,Nat.succ_mul,hn d (by simp),ih (fun c hc=>hn c (by simp[hc]))];omega
theorem VR.uj {k:SK}{es:List (List T)}{r o cap n:Nat}{vs:List Value}(hn:∀c∈es,c.length=n)(hv:bD g w es.flatten vs)(ho:cy es.flatten)(hc:es.length≤cap)(hk:gx g k r o es.length cap n)
  (hi:∀(j:Nat) (v:Value),vs[j]?=some v→A2 g w r (o+j) v):VR g w (.sl k es) (.slice (some ⟨r,o,none⟩) es.length cap):=by
 have key:∀(i j:Nat) (c:List T) (t:T),es[i]?=some c→c[j]?=some t→es.flatten[i*n+j]?=some t∧vs[i*n+j]?=some (vs.getD (i*n+j) undef):=by
  intro i j c t a b
  have h1:=kj es hn i j c t a b
  have ax:i*n+j<vs.length:=by rw[←hv.1];exact(List.getElem?_eq_some_iff.1 h1).1
  exact⟨h1,by rw[List.getElem?_eq_getElem ax,List.getD_eq_getElem?_getD,List.getElem?_eq_getElem ax,Option.getD_some]⟩
 refine .sl (n:=n) (fun i j=>vs.getD (i*n+j) undef) hk hc hn (fun i j c t a b=>?_) (fun i j c t a b=>?_)
 ·obtain⟨h1,h2⟩:=key i j c t a b
  exact⟨ho t (List.mem_of_getElem? h1),by rw[Nat.add_assoc];exact hi _ _ h2⟩
 ·obtain⟨h1,h2⟩:=key i j c t a b
  exact hv.2 _ t _ h1 h2
theorem ng (es:List (List T)):(es.map (·.map T.erase)).flatten=es.flatten.map T.erase:=by
 induction es with
 | nil=>rfl
 | cons c es ih=>simp only[List.map_cons,List.flatten_cons,List.map_append,ih]
theorem bD.erase {ts:List T}{vs:List Value}(h:bD g w ts vs):bD g w (ts.map T.erase) vs :=
 ⟨by simp[h.1],fun i t v a b=>by
  rw[List.getElem?_map]at a
  obtain⟨t',h1,rfl⟩:=Option.map_eq_some_iff.1 a
  exact(h.2 i t' v h1 b).erase⟩
theorem qw {ts:List T}(h:cy ts):cy (ts.map T.erase):=by
 intro t ht
 obtain⟨t',h1,rfl⟩:=List.mem_map.1 ht
 rw[A3];exact h t' h1
theorem Ms {n:Nat}{y:T}{vy:Value}{new:List (List T)}(h:SR w0 g H w)(hy:VR g w y vy)(he:bK H n y=some new) :
  ∃vs:List Value,(Builtin.lenOf vy).run P w=.ok new.length w∧(Builtin.firstCells n new.length vy).run P w=.ok vs.toArray w∧bD g w new.flatten vs∧cy new.flatten∧(∀c∈new,c.length=n)∧vs.length=new.length*n:=by
 by_cases hs:∃s,y=.str s
 ·obtain⟨s,rfl⟩:=hs
  cases hy
  simp only[bK]at he
  split at he
  ·rename_i hn
   subst hn
   simp at he
   have hlen:new.length=s.size:=by rw[←he,List.length_map];exact Array.length_toList
   have pO:new.flatten=s.data.toList.map fun c=>T.int .u8 c.toNat:=by
    rw[←he]
    generalize s.data.toList=l
    induction l with
    | nil=>rfl
    | cons c l ih=>simp only[List.map_cons,List.flatten_cons,ih];rfl
   have hex:s.extract 0 s.size=s:=by simp
   refine⟨s.data.toList.map fun c=>.int .u8 c.toNat,by simp[Builtin.lenOf,hlen],?_,?_,?_,?_,?_⟩
   ·rw[hlen]
    simp only[Builtin.firstCells,hex,Sem.run_pure]
    congr 1
    apply Array.ext';simp
   ·rw[pO]
    refine⟨by simp,fun i t v a b=>?_⟩
    rw[List.getElem?_map]at a b
    obtain⟨c,h1,rfl⟩:=Option.map_eq_some_iff.1 a
    rw[h1]at b;simp at b;subst b
    exact .int _ _
   ·rw[pO];intro t ht
    obtain⟨c,_,rfl⟩:=List.mem_map.1 ht;rfl
   ·rw[←he];intro c hc
    obtain⟨_,_,rfl⟩:=List.mem_map.1 hc;rfl
   ·rw[hlen,List.length_map,Nat.mul_one];exact Array.length_toList
  ·simp at he
 ·obtain⟨a,cap,vs,rfl,_,h1,h2,h3,h4,h5,h6⟩:=m3 h hy he (fun s e=>hs ⟨s,e⟩)
  refine⟨vs,by simp[Builtin.lenOf],?_,h3,h5,h6,h4⟩
  cases a with
  | none =>
   have:=(h1 rfl).1
   subst this
   simp at h4
   simp[Builtin.firstCells,h4]
  | some a =>
   obtain⟨_,h7⟩:=h2 a rfl
   have:=run_loadCells_list (P:=P) w a vs h7
   rw[h4]at this
   simpa[Builtin.firstCells]using this
theorem zo (jt:Nat):∀(k c:Nat),c≤jt+(jt+768)/4→Builtin.growBy jt k c≤jt+(jt+768)/4
 | 0,c,h=>h
 | k+1,c,h=>by
  rw[Builtin.growBy]
  split
  ·exact h
  ·exact zo jt k _ (by omega)
theorem Ik {jt cap:Nat}(h:cap<jt):Builtin.nextslicecap jt cap≤jt+jt/4+512:=by
 unfold Builtin.nextslicecap
 split
 ·omega
 ·split
  ·omega
  ·have:=zo jt 4 cap (by omega)
   omega
theorem zp {jt cap bytes:Nat}(h:cap<jt)(hr:da jt bytes=true):¬Builtin.nextslicecap jt cap*bytes>2^48:=by
 have h1:=Nat.mul_le_mul_right bytes (Ik h)
 simp only[da,decide_eq_true_eq]at hr
 omega
structure oh (P:Program)(sT xT elem:TypeId)(ei:TypeInfo)(zv:Value)(n bytes:Nat):Prop where
 hu:P.underlying sT=some (.slice elem)
 hi:P.info? elem=some ei
 hx:∃d,P.underlying xT=some d∧∀k,d≠.int k
 hn:ei.size=n
 hz:ei.zero=some zv
 Il:zv.cells.size=n
 hb:ei.bytes=bytes
 Hc:bytes≠0
theorem lZ {sT xT elem rt:TypeId}{ei:TypeInfo}{zv x:Value}{n bytes r o len cap m:Nat}{vs:List Value}(E:oh P sT xT elem ei zv n bytes)(hl:(Builtin.lenOf x).run P w=.ok m w)(hf:(Builtin.firstCells n m x).run P w=.ok vs.toArray w)
  (ko:len+m≤cap) (hs:(storeCells ⟨r,o+len*n,none⟩ vs).run P w=.ok () (w.setCells r (o+len*n) vs)) :
  (Builtin.append_ #[sT,xT] rt #[.slice (some ⟨r,o,none⟩) len cap,x]).run P w=.ok (.slice (some ⟨r,o,none⟩) (len+m) cap) (w.setCells r (o+len*n) vs):=by
 obtain⟨d,h1,h2⟩:=E.hx
 have hz:(match d with | .int _=>true|_=>false)=false:=by cases d<;>first|rfl|exact absurd rfl (h2 _)
 simp[Builtin.append_,run_underlying E.hu,run_underlying h1,hz,sizeOf,bq E.hi,E.hn,hl,hf,ko,db,hs]
theorem kr {sT xT elem rt:TypeId}{ei:TypeInfo}{zv x:Value}{n bytes:Nat}{base:Option Addr}{len cap:Nat}(E:oh P sT xT elem ei zv n bytes)(hl:(Builtin.lenOf x).run P w=.ok 0 w)(hf:(Builtin.firstCells n 0 x).run P w=.ok #[] w)(ko:len≤cap) :
  (Builtin.append_ #[sT,xT] rt #[.slice base len cap,x]).run P w=.ok (.slice base len cap) w:=by
 obtain⟨d,h1,h2⟩:=E.hx
 have hz:(match d with | .int _=>true|_=>false)=false:=by cases d<;>first|rfl|exact absurd rfl (h2 _)
 cases base<;>simp[Builtin.append_,run_underlying E.hu,run_underlying h1,hz,sizeOf,bq E.hi,E.hn,hl,hf,ko,storeCells]
theorem ku (zc:Array Value)(n:Nat):(Builtin.zeroCells zc n).size=n*zc.size:=by simp[Builtin.zeroCells]
theorem gN {sT xT elem rt:TypeId}{ei:TypeInfo}{zv x:Value}{n bytes:Nat}{base:Option Addr}{len cap m:Nat}{jv vs:List Value}(E:oh P sT xT elem ei zv n bytes)(hl:(Builtin.lenOf x).run P w=.ok m w)(hf:∀w':World,w'.heap=w.heap→(Builtin.firstCells n m x).run P w'=.ok vs.toArray w')
  (ho:∀w':World,w'.heap=w.heap→(Builtin.firstCells n len (.slice base len cap)).run P w'=.ok jv.toArray w') (xV:cap<len+m) (hr:da (len+m) bytes=true) :
  ∃(ew:Nat) (rest:List Value),len+m≤ew∧rest.length=(ew-(len+m))*n ∧
   (Builtin.append_ #[sT,xT] rt #[.slice base len cap,x]).run P w=.ok (.slice (some ⟨w.heap.size,0,none⟩) (len+m) ew) (w.drew.alloc (.cells (jv++vs++rest).toArray elem)):=by
 obtain⟨d,h1,h2⟩:=E.hx
 have hz:(match d with | .int _=>true|_=>false)=false:=by cases d<;>first|rfl|exact absurd rfl (h2 _)
 have gO:=zp xV hr
 have ko:¬len+m≤cap:=by omega
 let ew:=Question.cut (.appendCap (len+m) cap elem) (w.tape w.drawn (.appendCap (len+m) cap elem))
 have m4:len+m≤ew:=by simp only[ew,Question.cut];omega
 refine⟨ew,(Builtin.zeroCells zv.cells (ew-(len+m))).toList,m4,?_,?_⟩
 ·rw[Array.length_toList,ku,E.Il]
 ·have pP:=hf w.drew rfl
  have mo:=ho w.drew rfl
  have Hc:ei.bytes≠0:=by rw[E.hb];exact E.Hc
  simp only[gt_iff_lt,Nat.not_lt]at gO
  have C4:Builtin.nextslicecap (len+m) cap*ei.bytes≤2^48:=by rw[E.hb];exact gO
  simp only[Builtin.append_,List.getElem?_toArray,List.getElem?_cons_zero,List.getElem?_cons_succ,Sem.run_bind,run_underlying E.hu,run_underlying h1,Result.andThen_ok,sizeOf,bq E.hi,E.hn,hl,Sem.run_pure,ko,if_false]
  cases d<;>first
   | exact absurd rfl (h2 _)
   | (simp[hl,ko,bq E.hi,Hc,C4,Nat.not_lt.2 C4,run_choose,Question.forced,mo,pP,zeroValue,E.hz,newRow,ew];congr 2;apply Array.ext';simp)
theorem SR.Qk {t e r p q m:Nat}{vs:List Value}(h:SR w0 g H w)(ht:H[t]?=some (.tok e))(hp:g.π t e=some (r,p,q))(hm:0<m)(ko:p+vs.length≤q) :
  let g':=((g.row r fun j=>if p≤j∧j<p+vs.length then .lQ else g.κ r j).tok t (e+m) (r,p+vs.length,q))
  Le g w g' (w.setCells r p vs)∧SR w0 g' (H.set t (.tok (e+m))) (w.setCells r p vs)∧Fr g H g' (H.set t (.tok (e+m)))∧∀(i:Nat) (v:Value),vs[i]?=some v→A2 g' (w.setCells r p vs) r (p+i) v:=by
 intro g'
 have Ql:t<H.length:=(List.getElem?_eq_some_iff.1 ht).1
 obtain⟨r1,p1,q1,e1,h2,h3,h4⟩:=h.dP t _ ht
 rw[hp]at e1;cases e1
 have hs:∀j,p≤j→j<p+vs.length→(w.cell? ⟨r,j,none⟩).isSome=true:=fun j a c=>(h3 j a (by omega)).2.2
 have tr:=Tr.setCells w r p vs hs
 have hS:∀r' j,vO r p vs.length r' j→g.κ r' j=.spare t:=by
  rintro r' j⟨rfl,a,c⟩;exact(h3 j a (by omega)).1
 have hκ:∀r' j,g'.κ r' j=if r'=r∧p≤j∧j<p+vs.length then .lQ else g.κ r' j:=by
  intro r' j
  simp only[g',Ctx.tok,Ctx.row]
  by_cases e:r'=r
  ·subst e;simp
  ·simp[e]
 have hπ:∀t' e',g'.π t' e'=if t'=t∧e'=e+m then some (r,p+vs.length,q)else g.π t' e':=fun t' e'=>rfl
 have le:Le g w g' (w.setCells r p vs):=Le.gM tr (fun _ _ h=>h) (fun r' o hk=>by rw[hκ];split;rfl;exact hk)
  (fun t' e' x hx=>by rw[hπ];split;rename_i c;obtain⟨rfl,rfl⟩:=c;rw[h4 _ (by omega)]at hx;cases hx;exact hx)
  (fun r' j fb e=>by rw[hS r' j fb]at e;cases e)
 have lQ:∀(i:Nat) (v:Value),vs[i]?=some v→A2 g' (w.setCells r p vs) r (p+i) v:=fun i v hi=>by
  have ax:i<vs.length:=(List.getElem?_eq_some_iff.1 hi).1
  exact⟨by rw[hκ];simp;omega,cH r vs p w hs i v hi⟩
 refine⟨le,h.step (fun b'=>b'=t) tr le (fun r' j fb=>.inr (.inr ⟨t,hS r' j fb,rfl⟩)) (fun _ hm=>hm.elim) (fun r' j hr=>?_) (fun b' x hx=>by rw[List.length_set];exact h.rV b' x hx)
  (fun t' e' x hx=>?_) (fun _ _ _=>rfl) (fun r' j b' iW=>?_) (fun t' e' _ iW=>?_) (fun b' x hx=>?_),⟨by simp,fun b' x a c d=>⟨fj a (by rintro rfl;rw[ht]at a;cases a;exact absurd rfl (c e)),d⟩⟩,lQ⟩
 ·rw[dB]at hr
  rw[hκ];split
  ·rename_i c;obtain⟨rfl,a,c⟩:=c
   have:=h.fresh r' j hr
   rw[(h3 j a (by omega)).1]at this;cases this
  ·exact h.fresh r' j hr
 ·rw[List.length_set]
  rw[hπ]at hx
  split at hx
  ·rename_i c;rw[c.1];exact Ql
  ·exact h.iP t' e' x hx
 ·constructor<;>intro e'<;>rw[hκ]<;>split
  ·rename_i c;obtain⟨rfl,a,c⟩:=c;rw[(h3 j a (by omega)).1]at e';cases e'
  ·exact e'
  ·rename_i c;obtain⟨rfl,a,c⟩:=c;rw[(h3 j a (by omega)).1]at e';cases e';exact absurd rfl iW
  ·exact e'
 ·rw[hπ,if_neg (fun c=>iW c.1)]
 ·rcases ej Ql hx with⟨rfl,rfl⟩|⟨bF,je⟩
  ·right
   refine⟨r,p+vs.length,q,by rw[hπ];simp,ko,fun j a c=>⟨?_,?_,?_⟩,fun e' he=>by rw[hπ,if_neg (by omega)];exact h4 e' (by omega)⟩
   ·rw[hκ,if_neg (by omega)];exact(h3 j (by omega) c).1
   ·rw[World.frozen?_setCells];exact(h3 j (by omega) c).2.1
   ·rw[cE r vs p w r j (by omega)];exact(h3 j (by omega) c).2.2
  ·exact .inl ⟨bF,je⟩
theorem SR.C5 {c:Array Value}{ty:TypeId}{w1:World}{H':af}{t e k:Nat}(h:SR w0 g H w)(tr:Tr w w1 gq iz)(hz:w1.heap.size=w.heap.size)(ht:H'[t]?=some (.tok e))(hk:k≤c.size)
  (hZ:∀e',e≤e'→g.π t e'=none) (hH:∀b' x,b'≠t→H'[b']?=some x→H[b']?=some x) (hl:H.length≤H'.length) (al:∀(b':Nat) (x:B),H[b']?=some x→(∀e:Nat,x≠.tok e)→H'[b']?=some x) :
  let g':=((g.row w.heap.size fun j=>if j<k then .lQ else .spare t).tok t e (w.heap.size,k,c.size))
  Le g w g' (w1.alloc (.cells c ty))∧SR w0 g' H' (w1.alloc (.cells c ty))∧Fr g H g' H'∧(∀(j:Nat) (v:Value),j<k→c[j]?=some v→A2 g' (w1.alloc (.cells c ty)) w.heap.size j v)∧g'.π t e=some (w.heap.size,k,c.size):=by
 intro g'
 have vP:=tr.trans (Tr.alloc w1 (.cells c ty) (.inr ⟨_,_,rfl⟩))
 have bF:∀r j ow,g.κ r j=ow→ow≠.free→r≠w.heap.size:=by rintro r j ow e hn rfl;exact hn (e▸h.fresh _ j (Nat.le_refl _))
 have hπ:∀t' e',g'.π t' e'=if t'=t∧e'=e then some (w.heap.size,k,c.size)else g.π t' e':=fun t' e'=>rfl
 have hκ:∀r j,g'.κ r j=if r=w.heap.size then(if j<k then .lQ else .spare t)else g.κ r j:=fun r j=>rfl
 have le:Le g w g' (w1.alloc (.cells c ty)):=Le.gM vP (fun _ _ h=>h) (fun r o hk=>by rw[hκ,if_neg (bF r o _ hk (by simp))];exact hk)
  (fun t' e' x hx=>by rw[hπ];split;rename_i c;obtain⟨rfl,rfl⟩:=c;rw[hZ _ (Nat.le_refl _)]at hx;cases hx;exact hx) (fun _ _ hs=>hs.elim)
 refine⟨le,?_,⟨hl,fun b' x a c d=>⟨al b' x a c,d⟩⟩,fun j v hj hv=>⟨by rw[hκ];simp[hj],by rw[←hz,World.cell?_alloc_new];exact hv⟩,by rw[hπ];simp⟩
 refine h.step (fun b'=>b'=t) vP le (fun _ _ hs=>hs.elim) (fun _ hm=>hm.elim) (fun r o hr=>?_) (fun b' x hx=>Nat.lt_of_lt_of_le (h.rV b' x hx) hl) (fun t' e' x hx=>?_) (fun _ _ _=>rfl) (fun r j b' iW=>?_) (fun t' e' _ iW=>?_) (fun b' x hx=>?_)
 ·simp at hr
  rw[hκ,if_neg (by omega)];exact h.fresh r o (by omega)
 ·rw[hπ]at hx
  split at hx
  ·rename_i c;rw[c.1];exact(List.getElem?_eq_some_iff.1 ht).1
  ·exact Nat.lt_of_lt_of_le (h.iP t' e' x hx) hl
 ·constructor<;>intro e'<;>rw[hκ,if_neg (bF r j _ e' (by simp))]<;>exact e'
 ·rw[hπ,if_neg (fun c=>iW c.1)]
 ·by_cases e':b'=t
  ·subst e'
   right
   rw[ht]at hx;cases hx
   refine⟨w.heap.size,k,c.size,by rw[hπ];simp,hk,fun j a b=>⟨by rw[hκ];simp;omega,by rw[←hz];simp,by rw[←hz,World.cell?_alloc_new,Array.getElem?_eq_getElem b];rfl⟩,fun Im he=>by rw[hπ,if_neg (by omega)];exact hZ Im (by omega)⟩
  ·exact .inl ⟨e',hH b' x e' hx⟩
theorem pS (w:World):Tr w w.drew gq iz:=Tr.drew w
theorem oj {w w':World}(h:w'.heap=w.heap)(a:Addr):w'.cell? a=w.cell? a:=by unfold World.cell?;rw[h]
theorem zq {n:Nat}{y:T}{vy:Value}{new:List (List T)}(h:SR w0 g H w)(hy:VR g w y vy)(he:bK H n y=some new) :
  ∃vs:List Value,(Builtin.lenOf vy).run P w=.ok new.length w∧(∀w':World,w'.heap=w.heap→(Builtin.firstCells n new.length vy).run P w'=.ok vs.toArray w')∧bD g w new.flatten vs∧cy new.flatten∧(∀c∈new,c.length=n)∧vs.length=new.length*n:=by
 obtain⟨vs,h1,h2,h3,h4,h5,h6⟩:=Ms (P:=P) h hy he
 refine⟨vs,h1,fun w' Bf=>?_,h3,h4,h5,h6⟩
 by_cases hs:∃s,y=.str s
 ·obtain⟨s,rfl⟩:=hs
  cases hy
  simp only[Builtin.firstCells,Sem.run_pure,Result.ok.injEq,and_true]at h2 ⊢
  exact h2
 ·obtain⟨a,cap,Pw,rfl,_,k1,k2,k3,k4,k5,k6⟩:=m3 h hy he (fun s e=>hs ⟨s,e⟩)
  cases a with
  | none =>
   simp only[Builtin.firstCells,Sem.run_pure,Result.ok.injEq,and_true]at h2 ⊢
   exact h2
  | some a =>
   obtain⟨_,h7⟩:=k2 a rfl
   have a1:=run_loadCells_list (P:=P) w a Pw h7
   have a2:=run_loadCells_list (P:=P) w' a Pw (fun j v hj=>by rw[oj Bf];exact h7 j v hj)
   rw[k4]at a1 a2
   simp only[Builtin.firstCells]at h2 ⊢
   rw[a1]at h2
   rw[a2]
   simp at h2
   rw[h2]
theorem Ip {sT xT elem rt:TypeId}{ei:TypeInfo}{zv:Value}{n bytes:Nat}{k:SK}{es new:List (List T)}{y t:T}{vx vy:Value}{H':af}(E:oh P sT xT elem ei zv n bytes)
  (h:SR w0 g H w) (hx:VR g w (.sl k es) vx) (hy:VR g w y vy) (cn:es.all (·.length==n)=true) (rW:bK H n y=some new) (he:gK H bytes k es new=some (t,H')) :
  b6 P w0 g H w (Builtin.append_ #[sT,xT] rt #[vx,vy]) t H':=by
 obtain⟨vs,s1,s2,s3,s4,s5,s6⟩:=zq (P:=P) h hy rW
 obtain⟨a,cap,jv,rfl,m4,x1,x2,x3,x4,x5,x6⟩:=m3 (n:=n) (es:=es) h hx (by simp only[bK,cn,if_true]) (fun s e=>by cases e)
 have m4:es.length≤cap:=m4
 cases hZ:new with
 | nil =>
  subst hZ
  simp only[gK,Option.some.injEq,Prod.mk.injEq]at he
  obtain⟨rfl,rfl⟩:=he
  have hY:vs=[]:=by simpa using s6
  subst hY
  exact b6.same h (kr E s1 (s2 w rfl) m4) hx
 | cons c0 VZ =>
  have hlen:0<new.length:=by rw[hZ];simp
  rw[hZ]at he
  simp only[gK]at he
  rw[←hZ]at he
  split at he
  ·rename_i gO
   have CW:∀c∈es++new.map (·.map T.erase),c.length=n:=by
    intro c hc
    rcases List.mem_append.1 hc with hc|hc
    ·exact x6 c hc
    ·obtain⟨c',h1,rfl⟩:=List.mem_map.1 hc
     rw[List.length_map];exact s5 c' h1
   have pO:(es++new.map (·.map T.erase)).flatten=es.flatten++new.flatten.map T.erase:=by rw[List.flatten_append,ng]
   have rX:(es++new.map (·.map T.erase)).length=es.length+new.length:=by simp
   have ho:cy (es++new.map (·.map T.erase)).flatten:=by
    rw[pO];intro t ht
    rcases List.mem_append.1 ht with ht|ht
    ·exact x5 t ht
    ·exact qw s4 t ht
   have mR:(jv++vs).length=(es.length+new.length)*n:=by rw[List.length_append,x4,s6,Nat.add_mul]
   have grow:∀(t' e':Nat) (Hn:af),cap<es.length+new.length→Hn[t']?=some (.tok e')→(∀Im,e'≤Im→g.π t' Im=none)→(∀b' x,b'≠t'→Hn[b']?=some x→H[b']?=some x)→H.length≤Hn.length →
     (∀(b':Nat) (x:B),H[b']?=some x→(∀e:Nat,x≠.tok e)→Hn[b']?=some x)→b6 P w0 g H w (Builtin.append_ #[sT,xT] rt #[.slice a es.length cap,vy]) (.sl (.own t' e') (es++new.map (·.map T.erase))) Hn:=by
    intro t' e' Hn xV k1 k2 k3 k4 k5
    have Px:∀w':World,w'.heap=w.heap→(Builtin.firstCells n es.length (.slice a es.length cap)).run P w'=.ok jv.toArray w':=by
     intro w' Bf
     cases a with
     | none =>
      have:=(x1 rfl).1
      subst this
      have:jv=[]:=by simpa using x4
      subst this
      simp[Builtin.firstCells]
     | some a =>
      obtain⟨_,h7⟩:=x2 a rfl
      have:=run_loadCells_list (P:=P) w' a jv (fun j v hj=>by rw[oj Bf];exact h7 j v hj)
      rw[x4]at this
      simpa[Builtin.firstCells]using this
    obtain⟨ew,rest,js,pw,ct⟩:=gN (rt:=rt) (w:=w) E s1 s2 Px xV gO
    have a7:(jv++vs++rest).toArray.size=ew*n:=by
     simp only[List.size_toArray]
     rw[List.length_append,mR,pw,←Nat.add_mul];congr 1;omega
    obtain⟨le,sr,fr,lQ,hp⟩:=h.C5 (c:=(jv++vs++rest).toArray) (ty:=elem) (k:=(es.length+new.length)*n) (pS w) rfl k1 (by rw[a7];exact Nat.mul_le_mul_right _ js) k2 k3 k4 k5
    refine⟨_,_,_,ct,le,sr,?_,fr⟩
    have hv:bD g w (es++new.map (·.map T.erase)).flatten (jv++vs):=by rw[pO];exact bD.append x3 s3.erase
    have:=VR.uj (k:=.own t' e') (r:=w.heap.size) (o:=0) (cap:=ew) CW (hv.mono le) ho (by rw[rX];exact js) ⟨by rw[hp,rX,a7];simp,by rw[rX];omega⟩ (fun j v hj=>?_)
    ·rw[rX]at this;exact this
    ·have ax:j<(jv++vs).length:=(List.getElem?_eq_some_iff.1 hj).1
     rw[Nat.zero_add]
     refine lQ j v (by omega) ?_
     rw[List.getElem?_toArray,List.getElem?_append_left ax];exact hj
   cases k with
   | nil =>
    simp only[Option.some.injEq,Prod.mk.injEq]at he
    obtain⟨rfl,rfl⟩:=he
    have mh:cap<es.length+new.length:=by
     cases hx with
     | slnil=>simpa using hlen
     | sl cQ hk=>exact hk.elim
    exact grow H.length _ _ mh (fh _ _) (fun Im _=>h.VX (Nat.le_refl _)) (fun b' x e hx=>cT e hx) (by simp) (fun b' x hx _=>iA hx)
   | full =>
    simp only[Option.some.injEq,Prod.mk.injEq]at he
    obtain⟨rfl,rfl⟩:=he
    have mh:cap<es.length+new.length:=by
     cases hx with
     | sl cQ hk=>simp only[gx]at hk;omega
    exact grow H.length _ _ mh (fh _ _) (fun Im _=>h.VX (Nat.le_refl _)) (fun b' x e hx=>cT e hx) (by simp) (fun b' x hx _=>iA hx)
   | arg=>cases he
   | own t0 e0 =>
    cases ht:H[t0]? with
    | none=>simp[ht]at he
    | some bt =>
     cases bt with
     | tok e1 =>
      simp only[ht]at he
      split at he
      ·rename_i hee
       subst hee
       simp only[Option.some.injEq,Prod.mk.injEq]at he
       obtain⟨rfl,rfl⟩:=he
       have Ql:t0<H.length:=(List.getElem?_eq_some_iff.1 ht).1
       obtain⟨r1,p1,q1,lk,Qm,zm,gr⟩:=h.dP t0 _ ht
       by_cases ko:es.length+new.length≤cap
       ·-- in place
        cases hx with
        | @sl _ _ r o _ n' cQ hk hc hn h3 h4 =>
         simp only[gx]at hk
         obtain⟨om,xW⟩:=hk
         have ud:n'=n:=by
          cases es with
          | nil=>simp at xW
          | cons c es=>rw[←hn c (by simp),x6 c (by simp)]
         subst ud
         rw[lk]at om
         simp only[Option.some.injEq,Prod.mk.injEq]at om
         obtain⟨rfl,rfl,rfl⟩:=om
         have Mt:o+es.length*n'+vs.length≤o+cap*n':=by
          rw[s6,Nat.add_assoc,←Nat.add_mul]
          exact Nat.add_le_add_left (Nat.mul_le_mul_right _ ko) _
         obtain⟨le,sr,fr,lQ⟩:=h.Qk (m:=new.length) (vs:=vs) ht lk hlen Mt
         have dF:=run_storeCells_cells (P:=P) r1 (o+es.length*n') vs 0 w (fun j hj=>by simpa using (zm (o+es.length*n'+j) (by omega) (by omega)).2.2) (fun j hj=>by simpa using (zm (o+es.length*n'+j) (by omega) (by omega)).2.1) (s3.iu s4)
         rw[Nat.add_zero]at dF
         have ct:=lZ (rt:=rt) (cap:=cap) E s1 (s2 w rfl) ko dF
         refine⟨_,_,_,ct,le,sr,?_,fr⟩
         have hv:bD g w (es++new.map (·.map T.erase)).flatten (jv++vs):=by rw[pO];exact bD.append x3 s3.erase
         have Qn:∀(j:Nat) (v:Value),jv[j]?=some v→A2 g w r1 (o+j) v:=by
          intro j v hj
          have ax:j<es.length*n':=by rw[←x4];exact(List.getElem?_eq_some_iff.1 hj).1
          obtain⟨_,h7⟩:=x2 _ rfl
          have kv:=h7 j v hj
          rw[db]at kv
          have Qo:0<n':=by
           rcases Nat.eq_zero_or_pos n' with e|e
           ·subst e;simp at ax
           ·exact e
          have hi:j/n'<es.length:=Nat.div_lt_of_lt_mul (by rw[Nat.mul_comm];exact ax)
          have e1:es[j/n']?=some es[j/n']:=List.getElem?_eq_getElem hi
          have hm:j%n'<(es[j/n']).length:=by rw[x6 _ (List.getElem_mem hi)];exact Nat.mod_lt _ Qo
          have:=(h3 (j/n') (j%n') _ _ e1 (List.getElem?_eq_getElem hm)).2
          have ee:o+j/n'*n'+j%n'=o+j:=by rw[Nat.add_assoc,Nat.mul_comm,Nat.div_add_mod]
          rw[ee]at this
          exact⟨this.1,kv⟩
         have:=VR.uj (k:=.own t0 (e0+new.length)) (r:=r1) (o:=o) (cap:=cap) CW (hv.mono le) ho (by rw[rX];exact ko) ⟨by rw[rX];simp[Ctx.tok,s6,Nat.add_mul,Nat.add_assoc],by rw[rX];omega⟩ (fun j v hj=>?_)
         ·rw[rX]at this;exact this
         ·rw[List.getElem?_append]at hj
          split at hj
          ·exact(Qn j v hj).mono le
          ·rename_i dV
           have:=lQ _ v hj
           rw[x4]at this dV
           rwa[show o+es.length*n'+(j-es.length*n')=o+j by omega]at this
       ·exact grow t0 (e0+new.length) _ (by omega) (by simp[Ql]) (fun Im he=>gr Im (by omega)) (fun b' x bF hx=>by
          rcases ej Ql hx with⟨e,_⟩|⟨_,je⟩
          ·exact absurd e bF
          ·exact je) (by simp) (fun b' x V0 bF=>fj V0 (by rintro rfl;rw[ht]at V0;cases V0;exact absurd rfl (bF e0)))
      ·cases he
     | cells _=>simp[ht]at he
     | map _=>simp[ht]at he
     | _=>simp[ht]at he
  ·cases he
end
section
variable {P:Program} {w0 w:World} {g:Ctx} {H:af}
theorem SR.Qp {b r o q:Nat}{cs ts:List T}{vs:List Value}(h:SR w0 g H w)(hb:H[b]?=some (.cells cs))(hφ:g.φ b=some (r,o,q))(hv:bD g w ts vs)(ho:cy ts)(ko:o+cs.length+ts.length≤q) :
  let g':=((g.row r fun j=>if o≤j∧j<q then .mut H.length else g.κ r j).at H.length (r,o,q))
  Le g w g' (w.setCells r (o+cs.length) vs)∧SR w0 g' (H.set b .dead++[.cells (cs++ts)]) (w.setCells r (o+cs.length) vs)∧Fr g H g' (H.set b .dead++[.cells (cs++ts)]):=by
 intro g'
 have jV:b<H.length:=(List.getElem?_eq_some_iff.1 hb).1
 obtain⟨h1,h2,h3⟩:=h.dP b _ hb r o q hφ
 have hl:=hv.1
 have hs:∀j,o+cs.length≤j→j<o+cs.length+vs.length→(w.cell? ⟨r,j,none⟩).isSome=true:=fun j a c=>(h2 j (by omega) (by omega)).2.2
 have tr:=Tr.setCells w r (o+cs.length) vs hs
 have hS:∀r' j,vO r (o+cs.length) vs.length r' j→g.κ r' j=.mut b:=by
  rintro r' j⟨rfl,a,c⟩;exact(h2 j (by omega) (by omega)).1
 have hκ:∀r' j,g'.κ r' j=if r'=r∧o≤j∧j<q then .mut H.length else g.κ r' j:=by
  intro r' j
  simp only[g',Ctx.at,Ctx.row]
  by_cases e:r'=r
  ·subst e;simp
  ·simp[e]
 have ka:∀b',g'.φ b'=if b'=H.length then some (r,o,q)else g.φ b':=fun b'=>rfl
 have le:Le g w g' (w.setCells r (o+cs.length) vs):=Le.gM tr
  (fun b' x hx=>by rw[ka];split;rename_i e;rw[e,h.Ie (Nat.le_refl _)]at hx;cases hx;exact hx)
  (fun r' j hk=>by rw[hκ];split;rename_i c;obtain⟨rfl,a,c⟩:=c;rw[(h2 j a c).1]at hk;cases hk;exact hk) (fun _ _ _ h=>h) (fun r' j fb e=>by rw[hS r' j fb]at e;cases e)
 refine⟨le,h.step (fun b'=>b'=b∨b'=H.length) tr le (fun r' j fb=>.inr (.inl ⟨b,hS r' j fb,.inl rfl⟩)) (fun _ hm=>hm.elim) (fun r' j hr=>?_) (fun b' x hx=>?_) (fun t e x hx=>?_) (fun b' iW hn=>?_) (fun r' j b' hn=>?_) (fun _ _ _ _=>rfl) (fun b' x hx=>?_),?_,fun b' x a c d=>?_⟩
 ·rw[dB]at hr
  rw[hκ];split
  ·rename_i c;obtain⟨rfl,a,c⟩:=c
   have:=h.fresh r' j hr
   rw[(h2 j a c).1]at this;cases this
  ·exact h.fresh r' j hr
 ·rw[ka]at hx
  simp only[List.length_append,List.length_set,List.length_singleton]
  split at hx
  ·omega
  ·have:=h.rV b' x hx;omega
 ·simp only[List.length_append,List.length_set,List.length_singleton]
  have:=h.iP t e x hx;omega
 ·rw[ka,if_neg (by omega)]
 ·constructor<;>intro e<;>rw[hκ]<;>split
  ·rename_i c;obtain⟨rfl,a,c⟩:=c;rw[(h2 j a c).1]at e;cases e;exact absurd (.inl rfl) hn
  ·exact e
  ·rename_i c;obtain⟨rfl,a,c⟩:=c;rw[(h2 j a c).1]at e;cases e
  ·exact e
 ·by_cases e:b'=H.length
  ·right
   subst e
   have je:x=.cells (cs++ts):=by
    have:(H.set b B.dead++[.cells (cs++ts)])[H.length]?=some (.cells (cs++ts)):=by
     rw[List.getElem?_append_right (by simp)];simp
    rw[this]at hx;cases hx;rfl
   subst je
   intro r' o' q' hq
   rw[ka,if_pos rfl]at hq
   simp only[Option.some.injEq,Prod.mk.injEq]at hq
   obtain⟨rfl,rfl,rfl⟩:=hq
   refine⟨by rw[List.length_append];omega,fun j a c=>⟨by rw[hκ];simp[a,c],by rw[World.frozen?_setCells];exact(h2 j a c).2.1,tr.dE r j ?_ (h2 j a c).2.2⟩,fun i t hi=>?_⟩
   ·obtain⟨x,hx⟩:=Option.isSome_iff_exists.1 (h2 j a c).2.2;exact jw hx
   ·rw[List.getElem?_append]at hi
    split at hi
    ·rename_i ax
     obtain⟨a,v,Mp,Mq⟩:=h3 i t hi
     exact⟨a,v,by rw[cE r vs _ w r (o+i) (by omega)];exact Mp,Mq.mono le⟩
    ·rename_i dV
     have ax:i-cs.length<vs.length:=by rw[←hl];exact(List.getElem?_eq_some_iff.1 hi).1
     refine⟨ho t (List.mem_of_getElem? hi),_,?_,(hv.2 _ t _ hi (List.getElem?_eq_getElem ax)).mono le⟩
     have:=cH r vs (o+cs.length) w hs (i-cs.length) _ (List.getElem?_eq_getElem ax)
     rwa[show o+cs.length+(i-cs.length)=o+i by omega]at this
  ·have ib:(H.set b B.dead)[b']?=some x:=cT (by simpa using e) hx
   rcases ej jV ib with⟨rfl,rfl⟩|⟨bF,je⟩
   ·right;trivial
   ·exact .inl ⟨by rintro (h|h);exact bF h;exact e h,je⟩
 ·simp
 ·have ax:b'<H.length:=(List.getElem?_eq_some_iff.1 a).1
  have bF:b'≠b:=by rintro rfl;rw[hφ]at d;cases d
  exact⟨iA (fj a bF),by rw[ka,if_neg (by omega)];exact d⟩
theorem C6 {x:T}{vx:Value}(hx:VR g w x vx)(hk:CI x=true):∃(a:Option Addr) (l c:Nat),vx=.slice a l c∧l≤c:=by
 cases hx with
 | slnil=>exact⟨_,_,_,rfl,Nat.le_refl _⟩
 | ir=>exact⟨_,_,_,rfl,Nat.le_refl _⟩
 | sl cQ kg hc hn h1 h2=>exact⟨_,_,_,rfl,hc⟩
 | ay h hc hq=>exact⟨_,_,_,rfl,hc⟩
 | _=>simp[CI]at hk
theorem C7 {sT xT elem rt:TypeId}{ei:TypeInfo}{zv:Value}{n bytes:Nat}{x y t:T}{new:List (List T)}{vx vy:Value}{H':af}(E:oh P sT xT elem ei zv n bytes)
  (h:SR w0 g H w) (hx:VR g w x vx) (hy:VR g w y vy) (rW:bK H n y=some new) (he:mX H n bytes x new=some (t,H')) :
  b6 P w0 g H w (Builtin.append_ #[sT,xT] rt #[vx,vy]) t H':=by
 obtain⟨vs,s1,s2,s3,s4,s5,s6⟩:=zq (P:=P) h hy rW
 have mR:=fQ new s5
 cases hZ:new with
 | nil =>
  subst hZ
  simp only[mX]at he
  split at he
  case isFalse=>cases he
  rename_i hk
  simp only[Option.some.injEq,Prod.mk.injEq]at he
  obtain⟨rfl,rfl⟩:=he
  have hY:vs=[]:=by simpa using s6
  subst hY
  have:∃a l c,vx=.slice a l c∧l≤c:=C6 hx hk
  obtain⟨a,l,c,rfl,Mu⟩:=this
  exact b6.same h (kr E s1 (s2 w rfl) Mu) hx
 | cons c0 VZ =>
  have hlen:0<new.length:=by rw[hZ];simp
  rw[hZ]at he
  simp only[mX]at he
  rw[←hZ]at he
  have empty:∀(a:Option Addr),vx=.slice a 0 0→da (0+new.length) bytes=true→t=.ay H.length 0 new.length n→H'=H++[.cells new.flatten]→b6 P w0 g H w (Builtin.append_ #[sT,xT] rt #[vx,vy]) t H':=by
   rintro a rfl gO rfl rfl
   have Qq:∀w':World,w'.heap=w.heap→(Builtin.firstCells n 0 (.slice a 0 0)).run P w'=.ok ([]:List Value).toArray w':=by
    intro w' _
    cases a with
    | none=>simp[Builtin.firstCells]
    | some a=>simpa[Builtin.firstCells]using run_loadCells_list (P:=P) w' a [] (by simp)
   obtain⟨ew,rest,js,pw,ct⟩:=gN (rt:=rt) (w:=w) E s1 s2 Qq (by omega) gO
   have a7:(([]:List Value)++vs++rest).toArray.size=ew*n:=by
    simp only[List.size_toArray,List.nil_append]
    rw[List.length_append,s6,pw,←Nat.add_mul];congr 1;omega
   have kv:∀(i:Nat) (t:T),new.flatten[i]?=some t→t.one=true∧∃v,(([]:List Value)++vs++rest).toArray[i]?=some v∧VR g w t v:=by
    intro i t hi
    obtain⟨v,h1,h2⟩:=s3.fL i t hi
    refine⟨s4 t (List.mem_of_getElem? hi),v,?_,h2⟩
    simp only[List.nil_append,List.getElem?_toArray]at h1 ⊢
    rw[List.getElem?_append_left (List.getElem?_eq_some_iff.1 h1).1];exact h1
   obtain⟨g',le,sr,fr,hφ⟩:=h.gF (c:=([]++vs++rest).toArray) (ty:=elem) (cs:=new.flatten) (pS w) rfl kv
   refine⟨_,_,g',ct,le,sr,?_,fr⟩
   rw[Nat.zero_add]at js ⊢
   exact .ay (r:=w.heap.size) (o:=0) (off:=0) hφ js (by rw[a7];simp)
  cases x with
  | sl k es =>
   cases k with
   | nil =>
    simp only at he
    split at he
    ·rename_i hc
     obtain⟨gO,rfl⟩:=hc
     simp only[Option.some.injEq,Prod.mk.injEq]at he
     cases hx with
     | slnil=>exact empty none rfl (by simpa using gO) he.1.symm he.2.symm
     | sl cQ hk=>exact hk.elim
    ·cases he
   | full =>
    simp only at he
    split at he
    ·rename_i hc
     obtain⟨gO,rfl⟩:=hc
     simp only[Option.some.injEq,Prod.mk.injEq]at he
     cases hx with
     | sl cQ hk =>
      simp only[gx,List.length_nil]at hk
      subst hk
      exact empty _ rfl (by simpa using gO) he.1.symm he.2.symm
    ·cases he
   | arg=>cases he
   | own _ _=>cases he
  | ay b off len n' =>
   simp only at he
   cases hb:H[b]? with
   | none=>simp[hb]at he
   | some z =>
    cases z with
    | cells cs =>
     simp only[hb]at he
     split at he
     ·rename_i hc
      obtain⟨rfl,rfl,ug,gO⟩:=hc
      simp only[Option.some.injEq,Prod.mk.injEq]at he
      obtain⟨rfl,rfl⟩:=he
      cases hx with
      | @ay _ _ _ _ r o q cap hφ m4 hq =>
       obtain⟨h1,h2,h3⟩:=h.dP b _ hb r o q hφ
       have jV:b<H.length:=(List.getElem?_eq_some_iff.1 hb).1
       by_cases ko:len+new.length≤cap
       ·have Qr:o+cs.length+new.flatten.length≤q:=by
         rw[mR,←ug,←hq,Nat.add_assoc,←Nat.add_mul]
         have:=Nat.mul_le_mul_right n' ko
         omega
        obtain⟨le,sr,fr⟩:=h.Qp hb hφ s3 s4 Qr
        have hY:vs.length=new.flatten.length:=by rw[s6,mR]
        have dF:=run_storeCells_cells (P:=P) r (o+0+len*n') vs 0 w (fun j hj=>by simpa using (h2 (o+len*n'+j) (by omega) (by omega)).2.2) (fun j hj=>by simpa using (h2 (o+len*n'+j) (by omega) (by omega)).2.1) (s3.iu s4)
        rw[Nat.add_zero]at dF
        have ct:=lZ (rt:=rt) (cap:=cap) E s1 (s2 w rfl) ko dF
        rw[ug]at ct
        refine⟨_,_,_,ct,le,sr,?_,fr⟩
        exact .ay (off:=0) (r:=r) (o:=o) (q:=q) (by simp[Ctx.at]) ko (by rw[←hq])
       ·have hp:pr H (len*n') (.ptr b 0)=some cs:=by simp[pr,hb,ug]
        obtain⟨r',o',jv,e1,e2,e3,e4,e5⟩:=oc h (.ptr hφ) hp
        cases e1
        have Px:∀w':World,w'.heap=w.heap→(Builtin.firstCells n' len (.slice (some ⟨r,o+0,none⟩) len cap)).run P w'=.ok jv.toArray w':=by
         intro w' Bf
         have:=run_loadCells_list (P:=P) w' ⟨r,o+0,none⟩ jv (fun j v hj=>by rw[oj Bf,db];exact e3 j v hj)
         rw[e2]at this
         simpa[Builtin.firstCells]using this
        obtain⟨ew,rest,js,pw,ct⟩:=gN (rt:=rt) (w:=w) E s1 s2 Px (by omega) gO
        have a7:(jv++vs++rest).toArray.size=ew*n':=by
         simp only[List.size_toArray]
         rw[List.length_append,List.length_append,e2,s6,pw,←Nat.add_mul,←Nat.add_mul];congr 1;omega
        have C8:bD g w (cs++new.flatten) (jv++vs):=bD.append e4 s3
        obtain⟨le,sr,fr⟩:=h.mut (c:=(jv++vs++rest).toArray) (ty:=elem) (H':=H.set b .dead++[.cells (cs++new.flatten)]) (b:=H.length) (cs:=cs++new.flatten) (pS w) rfl
         (by rw[List.getElem?_append_right (by simp)];simp) (h.Ie (Nat.le_refl _))
         (fun b' x bF hx=>by
          have ib:(H.set b B.dead)[b']?=some x:=cT (by simpa using bF) hx
          rcases ej jV ib with⟨_,rfl⟩|⟨_,je⟩
          ·exact .inr rfl
          ·exact .inl je) (by simp)
         (fun b' x a _ d _=>iA (fj a (by rintro rfl;rw[hφ]at d;cases d)))
         (fun i t hi=>by
          obtain⟨v,k1,k2⟩:=C8.fL i t hi
          refine⟨?_,v,?_,k2⟩
          ·rcases List.mem_append.1 (List.mem_of_getElem? hi)with hm|hm
           ·exact e5 t hm
           ·exact s4 t hm
          ·simp only[List.getElem?_toArray]at k1 ⊢
           rw[List.getElem?_append_left (List.getElem?_eq_some_iff.1 k1).1];exact k1)
        refine⟨_,_,_,ct,le,sr,.ay (r:=w.heap.size) (o:=0) (off:=0) (q:=(jv++vs++rest).toArray.size) (by simp[Ctx.at]) js (by rw[a7];simp),by simp,fun b' x a c d=>fr b' x a c d (by have:=(List.getElem?_eq_some_iff.1 a).1;omega)⟩
     ·cases he
    | map _=>simp[hb]at he
    | tok _=>simp[hb]at he
    | _=>simp[hb]at he
  | _=>simp at he
theorem sK:∀(vs:List Value) (k off:Nat) (cells:Array Value),off+k+vs.length≤cells.size →
  ((vs.zipIdx k).foldl (fun (cs:Array Value) (x:Value×Nat)=>cs.setIfInBounds (off+x.2) x.1) cells).toList=cells.toList.take (off+k)++vs++cells.toList.drop (off+k+vs.length)
 | [],k,off,cells,_=>by simp
 | v :: vs,k,off,cells,h=>by
  simp only[List.length_cons]at h
  rw[List.zipIdx_cons,List.foldl_cons,sK vs (k+1) off _ (by simp;omega)]
  simp only[Array.toList_setIfInBounds,List.length_cons]
  have ax:off+k<cells.toList.length:=by simp;omega
  rw[show off+(k+1)=off+k+1 by omega,List.take_add_one]
  rw[show off+k+1+vs.length=off+k+(vs.length+1) by omega]
  rw[List.take_set_of_le (Nat.le_refl _),List.getElem?_set_self ax,List.drop_set_of_lt (by omega)]
  simp
theorem oq {off size:Nat}{v:Value}{cells:Array Value}(hs:v.cells.size=size)(hle:off+size≤cells.size) :
  (v.cells.zipIdx.foldl (fun (cs:Array Value) (x:Value×Nat)=>cs.setIfInBounds (off+x.2) x.1) cells).toList=cells.toList.take off++v.cells.toList++cells.toList.drop (off+size):=by
 have:=sK v.cells.toList 0 off cells (by simp[hs];omega)
 rw[←Array.foldl_toList,Array.toList_zipIdx]
 simpa[hs]using this
def placesOf (P:Program):List Field→List (Nat×Nat)
 | []=>[]
 | f :: fs=>(f.offset,P.cellsOf f.type) :: placesOf P fs
theorem run_places {fs:List Field}(hi:∀f∈fs,∃i,P.info? f.type=some i):(fs.mapM fun f=>do pure (f.offset,←sizeOf f.type):Sem (List (Nat×Nat))).run P w=.ok (placesOf P fs) w:=by
 induction fs with
 | nil=>simp[placesOf]
 | cons f fs ih =>
  obtain⟨i,hf⟩:=hi f (by simp)
  have ih:=ih (fun f' h'=>hi f' (by simp[h']))
  have h0:(sizeOf f.type).run P w=.ok i.size w:=by simp[sizeOf,bq hf]
  rw[List.mapM_cons]
  simp only[Sem.run_bind,h0,Result.andThen_ok,Sem.run_pure,ih]
  simp[placesOf,Program.cellsOf,hf]
inductive PV (g:Ctx)(w:World)(R:ar):List (Nat×X)→List (Nat×Value)→Prop
 | nil:PV g w R [] []
 | cons {i:Nat} {x:X} {v:Value} {ps:List (Nat×X)} {pv:List (Nat×Value)} (h:VR g w (x.ev R) v) (hs:PV g w R ps pv):PV g w R ((i,x) :: ps) ((i,v) :: pv)
theorem Iq {R:ar}{place:Nat→Option (Nat×Nat)}{ps:List (Nat×X)}{pv:List (Nat×Value)}(hv:PV g w R ps pv):∀(l:List (Nat×List T)) (z cs:List T) (cells:Array Value),(∀p∈ps,(place p.1).isSome=true) →
  fe R (ps.map fun p=>(((place p.1).getD (0,0)).1,((place p.1).getD (0,0)).2,p.2))=some l→lV z l=some cs→bD g w z cells.toList→cy z →
  ∃cR,Instr.fill place cells pv=some cR∧bD g w cs cR.toList∧cy cs∧cR.size=cells.size:=by
 induction hv with
 | nil =>
  intro l z cs cells hp hl hf hz ho
  simp[fe]at hl;subst hl
  simp[lV]at hf;subst hf
  exact⟨cells,rfl,hz,ho,rfl⟩
 | @cons i x v ps pv Qs _ ih =>
  intro l z cs cells hp hl hf hz ho
  have Mv:=hp (i,x) (by simp)
  cases vR:place i with
  | none=>simp[vR]at Mv
  | some os =>
   obtain⟨off,size⟩:=os
   simp only[List.map_cons,vR,Option.getD_some]at hl
   simp only[fe]at hl
   cases hc:(x.ev R).cells? with
   | none=>simp[hc]at hl
   | some c =>
    cases hr:fe R (ps.map fun p=>(((place p.1).getD (0,0)).1,((place p.1).getD (0,0)).2,p.2))with
    | none=>simp[hc,hr]at hl
    | some l' =>
     simp only[hc,hr]at hl
     split at hl
     ·rename_i lh
      simp at hl;subst hl
      simp only[lV]at hf
      split at hf
      ·rename_i hle
       obtain⟨He,Qt⟩:=jd Qs hc
       have a7:v.cells.size=size:=by have:=He.1;simp at this;omega
       have vS:z.length=cells.size:=by have:=hz.1;simpa using this
       have V1:off+size≤cells.size:=by omega
       have bR:=oq a7 V1
       have pQ:bD g w (z.take off++c++z.drop (off+c.length)) (v.cells.zipIdx.foldl (fun (cs:Array Value) (x:Value×Nat)=>cs.setIfInBounds (off+x.2) x.1) cells).toList:=by
        rw[bR,lh]
        exact bD.append (bD.append (hz.take off) He) (hz.drop (off+size))
       have mo:cy (z.take off++c++z.drop (off+c.length)):=by
        intro t ht
        rcases List.mem_append.1 ht with ht|ht
        ·rcases List.mem_append.1 ht with ht|ht
         ·exact ho t (List.mem_of_mem_take ht)
         ·exact Qt t ht
        ·exact ho t (List.mem_of_mem_drop ht)
       obtain⟨cR,k1,k2,k3,k4⟩:=ih l' _ cs _ (fun x hx=>hp x (by simp[hx])) hr hf pQ mo
       refine⟨cR,?_,k2,k3,?_⟩
       ·simp only[Instr.fill,vR]
        rw[if_neg]
        ·exact k1
        ·simp[a7];omega
       ·rw[k4]
        have:=congrArg List.length bR
        simp only[Array.length_toList,List.length_append,List.length_take,List.length_drop]at this
        omega
      ·cases hf
     ·cases hl
theorem Bg {ty:TypeId}{fs:Array Field}{i:TypeInfo}{zv:Value}{R:ar}{ps:List (Nat×X)}{pv:List (Nat×Value)}{z cs:List T}{l:List (Nat×List T)}(hu:P.underlying ty=some (.struct fs))(hi:P.info? ty=some i)(hz:i.zero=some zv)(C9:eM zv.cells.toList=some z)
  (hfs:∀f∈fs.toList,∃i,P.info? f.type=some i) (hp:∀p∈ps,p.1<fs.size) (h:SR w0 g H w) (hv:PV g w R ps pv)
  (hl:fe R (ps.map fun p=>((((placesOf P fs.toList)[p.1]?).getD (0,0)).1,(((placesOf P fs.toList)[p.1]?).getD (0,0)).2,p.2))=some l) (hf:lV z l=some cs) :
  b6 P w0 g H w (Instr.build ty pv.toArray) (.agg cs) H:=by
 obtain⟨Bh,Cs⟩:=dA (g:=g) (w:=w) _ _ C9
 have hlen:∀l:List Field,(placesOf P l).length=l.length:=by
  intro l;induction l with
  | nil=>rfl
  | cons f l ih=>simp[placesOf,ih]
 have vq:∀p∈ps,((placesOf P fs.toList)[p.1]?).isSome=true:=fun p rY=>by
  have:=hp p rY
  rw[List.getElem?_eq_getElem (by rw[hlen];simpa using this)];rfl
 obtain⟨cR,k1,k2,k3,_⟩:=Iq (place:=fun (i:Nat)=>(placesOf P fs.toList)[i]?) hv l z cs zv.cells vq hl hf Bh Cs
 refine b6.same h (v:=.agg cR) ?_ (by have:=k2.agg k3;simpa using this)
 have vR:(fs.mapM fun f=>do pure (f.offset,←sizeOf f.type):Sem (Array (Nat×Nat))).run P w=.ok (placesOf P fs.toList).toArray w:=by
  rw[Array.mapM_eq_mapM_toList]
  simp only[Sem.run_map,run_places hfs,Result.andThen_ok]
 simp only[Instr.build,zeroValue,Sem.run_bind,bq hi,hz,Result.andThen_ok,Sem.run_pure,run_underlying hu,vR]
 have e:(fun (x:Nat)=>(placesOf P fs.toList).toArray[x]?)=fun (i:Nat)=>(placesOf P fs.toList)[i]?:=by funext x;simp
 simp[e,k1]
end
section
variable {P:Program} {w0 w:World} {g:Ctx} {H:af}
theorem kx {n:Nat}:∀(es:List (List T)) (i:Nat) (c:List T),(∀c∈es,c.length=n)→i<es.length→(es.set i c).flatten=es.flatten.take (i*n)++c++es.flatten.drop (i*n+n)
 | [],i,c,_,h=>by simp at h
 | d :: es,0,c,hn,_=>by
  have hd:=hn d (by simp)
  simp[←hd]
 | d :: es,i+1,c,hn,h=>by
  have hd:=hn d (by simp)
  have ih:=kx es i c (fun c hc=>hn c (by simp[hc])) (by simpa using h)
  simp only[List.set_cons_succ,List.flatten_cons,ih]
  have e1:(d++es.flatten).take ((i+1)*n)=d++es.flatten.take (i*n):=by
   rw[List.take_append,hd,Nat.succ_mul]
   rw[List.take_of_length_le (by omega)]
   congr 2;omega
  have e2:(d++es.flatten).drop ((i+1)*n+n)=es.flatten.drop (i*n+n):=by
   rw[List.drop_append,hd,Nat.succ_mul]
   rw[List.drop_of_length_le (by omega)]
   simp only[List.nil_append]
   congr 1;omega
  rw[e1,e2];simp
theorem Da {R:ar}{n:Nat}{ps:List (Nat×X)}{pv:List (Nat×Value)}(hv:PV g w R ps pv):∀(es fs:List (List T)) (cells:Array Value),ja n es R ps=some fs→(∀c∈es,c.length=n)→bD g w es.flatten cells.toList→cy es.flatten →
  ∃cR,Instr.fill (fun i=>some (i*n,n)) cells pv=some cR∧bD g w fs.flatten cR.toList∧cy fs.flatten∧(∀c∈fs,c.length=n)∧fs.length=es.length:=by
 induction hv with
 | nil =>
  intro es fs cells he hn hz ho
  simp[ja]at he;subst he
  exact⟨cells,rfl,hz,ho,hn,rfl⟩
 | @cons i x v ps pv Qs _ ih =>
  intro es fs cells he hn hz ho
  simp only[ja]at he
  cases hc:(x.ev R).cells? with
  | none=>simp[hc]at he
  | some c =>
   simp only[hc]at he
   split at he
   ·rename_i cD
    obtain⟨lh,hi⟩:=cD
    obtain⟨He,Qt⟩:=jd Qs hc
    have a7:v.cells.size=n:=by have:=He.1;simp at this;omega
    have pO:=fQ es hn
    have vS:es.flatten.length=cells.size:=by have:=hz.1;simpa using this
    have hle:i*n+n≤cells.size:=by
     rw[←vS,pO,←Nat.succ_mul];exact Nat.mul_le_mul_right _ hi
    have bR:=oq a7 hle
    have ky:=kx es i (c.map T.erase) hn hi
    have pQ:bD g w (es.set i (c.map T.erase)).flatten (v.cells.zipIdx.foldl (fun (cs:Array Value) (x:Value×Nat)=>cs.setIfInBounds (i*n+x.2) x.1) cells).toList:=by
     rw[bR,ky]
     exact bD.append (bD.append (hz.take _) He.erase) (hz.drop _)
    have mo:cy (es.set i (c.map T.erase)).flatten:=by
     rw[ky]
     intro t ht
     rcases List.mem_append.1 ht with ht|ht
     ·rcases List.mem_append.1 ht with ht|ht
      ·exact ho t (List.mem_of_mem_take ht)
      ·exact qw Qt t ht
     ·exact ho t (List.mem_of_mem_drop ht)
    obtain⟨cR,k1,k2,k3,k4,k5⟩:=ih _ fs _ he (fun c' iv=>by
     rcases List.mem_or_eq_of_mem_set iv with h|h
     ·exact hn c' h
     ·rw[h,List.length_map];exact lh) pQ mo
    refine⟨cR,?_,k2,k3,k4,by simpa using k5⟩
    simp only[Instr.fill]
    rw[if_neg]
    ·exact k1
    ·simp[a7];omega
   ·cases he
theorem kz {n:Nat}{z:List T}{zc:Array Value}(hz:bD g w z zc.toList)(hn:z.length=n)(m:Nat):bD g w (List.replicate m z).flatten ((Array.range (m*n)).map (fun i=>zc[i%zc.size]!)).toList:=by
 have Il:zc.size=n:=by have:=hz.1;simp at this;omega
 refine⟨by simp[hn],fun i t v a b=>?_⟩
 have hi:i<m*n:=by
  have:=(List.getElem?_eq_some_iff.1 b).1
  simpa using this
 have jf:0<n:=by
  rcases Nat.eq_zero_or_pos n with e|e
  ·subst e;simp at hi
  ·exact e
 have hdm:i/n<m:=Nat.div_lt_of_lt_mul (by rw[Nat.mul_comm];exact hi)
 have Qu:i%n<z.length:=by rw[hn];exact Nat.mod_lt _ jf
 have e1:(List.replicate m z)[i/n]?=some z:=by simp[hdm]
 have:=kj (n:=n) (List.replicate m z) (fun c hc=>by rw[List.eq_of_mem_replicate hc];exact hn) (i/n) (i%n) z _ e1 (List.getElem?_eq_getElem Qu)
 rw[show i/n*n+i%n=i by rw[Nat.mul_comm,Nat.div_add_mod]]at this
 rw[this]at a
 simp at a;subst a
 have ax:i%zc.size<zc.toList.length:=by rw[Il];simp[Il];exact Nat.mod_lt _ jf
 have e2:zc.toList[i%zc.size]?=some v:=by
  simp[hi]at b
  rw[←b,List.getElem?_eq_getElem ax]
  have:i%zc.size<zc.size:=by simpa using ax
  simp[this]
 rw[Il]at e2
 exact hz.2 (i%n) _ v (List.getElem?_eq_getElem Qu) e2
theorem jg {z:List T}(ho:cy z)(m:Nat):cy (List.replicate m z).flatten:=by
 intro t ht
 obtain⟨c,h1,h2⟩:=List.mem_flatten.1 ht
 rw[List.eq_of_mem_replicate h1]at h2
 exact ho t h2
theorem Db (w:World):Tr w w gq iz:=Tr.refl w
theorem Is {ty elem:TypeId}{ei:TypeInfo}{zv:Value}{R:ar}{ps:List (Nat×X)}{pv:List (Nat×Value)}{z:List T}{len:Nat}{fs:List (List T)}(hu:P.underlying ty=some (.slice elem))(hi:P.info? elem=some ei)(hz:ei.zero=some zv)(C9:eM zv.cells.toList=some z)
  (xX:z.length=ei.size) (a7:len*ei.size≤2^24) (h:SR w0 g H w) (hv:PV g w R ps pv) (he:ja z.length (List.replicate len z) R ps=some fs) :
  b6 P w0 g H w (Instr.buildSlice ty len pv.toArray) (.sl .full fs) H:=by
 obtain⟨Bh,Cs⟩:=dA (g:=g) (w:=w) _ _ C9
 have V2:=kz Bh xX len
 have Qq:=jg Cs len
 rw[xX]at he
 obtain⟨cR,k1,k2,k3,k4,k5⟩:=Da hv _ fs ((Array.range (len*ei.size)).map (fun i=>zv.cells[i%zv.cells.size]!)) he (fun c hc=>by rw[List.eq_of_mem_replicate hc];exact xX) V2 Qq
 have hlen:fs.length=len:=by rw[k5];simp
 obtain⟨le,sr,fr,lQ⟩:=h.lQ (c:=cR) (ty:=elem) (Db w) rfl
 refine⟨.slice (some ⟨w.heap.size,0,none⟩) len len,_,_,?_,le,sr,?_,fr⟩
 ·have vT:¬len*ei.size>2^24:=by omega
  by_cases h0:len*ei.size=0
  ·have e0:((Array.range (len*ei.size)).map (fun i=>zv.cells[i%zv.cells.size]!))=((Array.range (len*ei.size)).map (fun i=>(#[]:Array Value)[i%(#[]:Array Value).size]!)):=by
    rw[h0];simp
   rw[e0]at k1
   simp only[Instr.buildSlice,Sem.run_bind,run_underlying hu,Result.andThen_ok,sizeOf,bq hi,Sem.run_pure,vT,if_false,h0,if_true]
   rw[h0]at k1
   simp at k1
   simp[k1,newRow]
  ·simp only[Instr.buildSlice,Sem.run_bind,run_underlying hu,Result.andThen_ok,sizeOf,bq hi,Sem.run_pure,vT,if_false,h0,zeroValue,hz]
   simp[k1,newRow]
 ·have:=VR.uj (k:=.full) (r:=w.heap.size) (o:=0) (cap:=fs.length) k4 (k2.mono le) k3 (Nat.le_refl _) rfl (fun j v hj=>by rw[Nat.zero_add];exact lQ j v (by simpa using hj))
  rw[hlen]at this;exact this
theorem wrap_i64 {n:Int}(h0:0≤n)(h1:n≤9223372036854775807):IntKind.i64.wrap n=n:=IntWalk.i64_in n (by omega)
theorem run_makeSlice {ty elem:TypeId}{ei:TypeInfo}{zv:Value}{k1 k2:IntKind}{l c:Int}(hu:P.underlying ty=some (.slice elem))(hi:P.info? elem=some ei)(hz:ei.zero=some zv)(h0:0≤l)(Mu:l≤c)(hc:c*ei.bytes≤281474976710656)(iv:c≤9223372036854775807) :
  (Instr.makeSlice ty (.int k1 l) (.int k2 c)).run P w=.ok (.slice (some ⟨w.heap.size,0,none⟩) l.toNat c.toNat)
   (w.alloc (.cells ((Array.range (c.toNat*ei.size)).map (fun i=>(if c.toNat*ei.size=0 then(#[]:Array Value)else zv.cells)[i%(if c.toNat*ei.size=0 then(#[]:Array Value)else zv.cells).size]!)) elem)):=by
 have e1:=wrap_i64 h0 (by omega:l≤9223372036854775807)
 have e2:=wrap_i64 (by omega:0≤c) iv
 have t1:((decide (c<0)||decide ((ei.bytes:Int)*c>2^48))||decide (l<0)||decide (l>c))=false:=by
  have:(ei.bytes:Int)*c=c*ei.bytes:=Int.mul_comm _ _
  simp[this];omega
 simp only[Instr.makeSlice,Sem.run_bind,run_underlying hu,Result.andThen_ok,asInt,asIntOf,Sem.run_pure,bq hi,e1,e2,t1]
 by_cases hn:c.toNat*ei.size=0
 ·simp[sizeOf,bq hi,hn,newRow]
 ·simp[sizeOf,bq hi,hn,zeroValue,hz,newRow]
theorem Iu {ty elem:TypeId}{ei:TypeInfo}{zv:Value}{mu:Bool}{z:List T}{x y t:T}{l c:Nat}{vx vy:Value}{H':af}(hu:P.underlying ty=some (.slice elem))(hi:P.info? elem=some ei)(hz:ei.zero=some zv)(C9:eM zv.cells.toList=some z)(xX:z.length=ei.size)(jf:ei.size≠0)
  (h:SR w0 g H w) (hx:VR g w x vx) (hy:VR g w y vy) (hl:cj x=some l) (hc:cj y=some c) (Mu:l≤c) (hb:c*ei.bytes≤281474976710656) (PB:c≤9223372036854775807)
  (he:(if mu then(T.ay H.length 0 l z.length,H++[.cells (List.replicate l z).flatten])else if l=0 then(.sl .arg [],H)else(.sl (.own H.length l) (List.replicate l z),H++[.tok l]))=(t,H')) :
  b6 P w0 g H w (Instr.makeSlice ty vx vy) t H':=by
 obtain⟨Bh,Cs⟩:=dA (g:=g) (w:=w) _ _ C9
 obtain⟨k1,n1,rfl,a1,b1⟩:=dX hx hl
 obtain⟨k2,n2,rfl,a2,b2⟩:=dX hy hc
 have ct:=run_makeSlice (P:=P) (w:=w) (k1:=k1) (k2:=k2) hu hi hz a1 (by omega:n1≤n2) (by
  have:(n2.toNat:Int)=n2:=Int.toNat_of_nonneg a2
  rw[←this,b2];omega) (by omega)
 rw[b1,b2]at ct
 have rZ:=kz Bh xX c
 have fu:=jg Cs c
 have xY:(List.replicate c z).flatten=(List.replicate l z).flatten++(List.replicate (c-l) z).flatten:=by
  rw[←List.flatten_append,List.replicate_append_replicate];congr 2;omega
 have aaC:(List.replicate l z).flatten.length=l*ei.size:=by rw[fQ (n:=ei.size) _ (fun c hc=>by rw[List.eq_of_mem_replicate hc];exact xX),List.length_replicate]
 have ni:(Array.range (c*ei.size)).map (fun i=>(if c*ei.size=0 then(#[]:Array Value)else zv.cells)[i%(if c*ei.size=0 then(#[]:Array Value)else zv.cells).size]!)=(Array.range (c*ei.size)).map (fun i=>zv.cells[i%zv.cells.size]!):=by
  by_cases h0:c*ei.size=0
  ·rw[h0];simp
  ·simp only[h0,if_false]
 rw[ni]at ct
 generalize hA:(Array.range (c*ei.size)).map (fun i=>zv.cells[i%zv.cells.size]!)=A at ct rZ
 have a7:A.size=c*ei.size:=by rw[←hA];simp
 have kv:∀(i:Nat) (t:T),(List.replicate l z).flatten[i]?=some t→t.one=true∧∃v,A[i]?=some v∧VR g w t v:=by
  intro i t jU
  have e:(List.replicate c z).flatten[i]?=some t:=by
   rw[xY,List.getElem?_append_left (List.getElem?_eq_some_iff.1 jU).1];exact jU
  obtain⟨v,h1,h2⟩:=rZ.fL i t e
  exact⟨fu t (List.mem_of_getElem? e),v,by simpa using h1,h2⟩
 cases mu with
 | true =>
  simp only[if_true,Prod.mk.injEq]at he
  obtain⟨rfl,rfl⟩:=he
  obtain⟨g',le,sr,fr,hφ⟩:=h.gF (c:=A) (ty:=elem) (Db w) rfl kv
  exact⟨_,_,g',ct,le,sr,.ay (r:=w.heap.size) (o:=0) (off:=0) hφ Mu (by rw[a7,xX];simp),fr⟩
 | false =>
  simp only[Bool.false_eq_true,if_false]at he
  split at he
  ·rename_i xF
   subst xF
   simp only[Prod.mk.injEq]at he
   obtain⟨rfl,rfl⟩:=he
   obtain⟨le,sr,fr,lQ⟩:=h.lQ (c:=A) (ty:=elem) (Db w) rfl
   exact⟨_,_,_,ct,le,sr,.sl (n:=0) (fun _ _=>.nilIface) trivial (by simp) (by simp) (by simp) (by simp),fr⟩
  ·rename_i xF
   simp only[Prod.mk.injEq]at he
   obtain⟨rfl,rfl⟩:=he
   obtain⟨le,sr,fr,lQ,hp⟩:=h.C5 (c:=A) (ty:=elem) (t:=H.length) (e:=l) (k:=l*ei.size) (H':=H++[.tok l]) (Db w) rfl (fh _ _) (by rw[a7];exact Nat.mul_le_mul_right _ Mu) (fun Im _=>h.VX (Nat.le_refl _))
    (fun b' x e hx=>cT e hx) (by simp) (fun b' x hx _=>iA hx)
   refine⟨_,_,_,ct,le,sr,?_,fr⟩
   have hv:bD g w (List.replicate l z).flatten (A.toList.take (l*ei.size)):=by
    have:=rZ.take (l*ei.size)
    rwa[xY,List.take_append_of_le_length (by omega),List.take_of_length_le (by omega)]at this
   have:=VR.uj (k:=.own H.length l) (r:=w.heap.size) (o:=0) (cap:=c) (n:=ei.size) (es:=List.replicate l z) (fun c hc=>by rw[List.eq_of_mem_replicate hc];exact xX) (hv.mono le) (jg Cs l) (by simpa using Mu)
    ⟨by rw[hp,a7];simp,by simp;omega⟩ (fun j v hj=>by
     rw[Nat.zero_add]
     rw[List.getElem?_take]at hj
     split at hj
     ·rename_i ax;exact lQ j v ax (by simpa using hj)
     ·cases hj)
   simpa using this
theorem Iv {f:Nat}{ke:List T}{vs:List Value}(h:SR w0 g H w)(hv:bD g w ke vs):b6 P w0 g H w (Instr.makeFunc (.func f) #[] vs.toArray) (.fn f ke) H :=
 b6.same h rfl (.fn (by simp[hv.1]) (fun i t v a b=>hv.2 i t v a (by simpa using b)))
end
section
variable {P:Program} {w0 w:World} {g:Ctx} {H:af}
theorem VR.zg {t:T}{v:Value}(h:VR g w t v):VR g w (zg t) v:=by
 cases h with
 | dQ h hc hq=>exact .ay h hc hq
 | ay h hc hq=>exact .ay h hc hq
 | int k n=>exact .int k n
 | bool b=>exact .bool b
 | str s=>exact .str s
 | bV=>exact .bV
 | ptr h=>exact .ptr h
 | dL cQ h1 h2=>exact .dL cQ h1 h2
 | gh=>exact .gh
 | map h=>exact .map h
 | slnil=>exact .slnil
 | ir a=>exact .ir a
 | sl cQ hk hc hn h1 h2=>exact .sl cQ hk hc hn h1 h2
 | mg=>exact .mg
 | fn hl h=>exact .fn hl h
 | mO h=>exact .mO h
 | gk=>exact .gk
 | agg hl h1 h2=>exact .agg hl h1 h2
 | bN hl h2=>exact .bN hl h2
theorem Iw {ty rt:TypeId}{e:TypeId}{b off len n c:Nat}{vx:Value}(hu:P.underlying ty=some (.slice e))(h:SR w0 g H w)(hx:VR g w (.dQ b off len n c) vx) :
  b6 P w0 g H w (Builtin.cap_ #[ty] rt #[vx]) (.int .i64 (c:Nat)) H:=by
 cases hx with
 | dQ hφ hc hq=>exact b6.same h (v:=.int .i64 c) (by simp[Builtin.cap_,run_underlying hu,goInt]) (.int _ _)
theorem qx (cs:List T)(off n:Nat):∀k,off+k*n≤cs.length→((List.range k).map fun i=>(cs.drop (off+i*n)).take n).flatten=(cs.drop off).take (k*n)
 | 0,_=>by simp
 | k+1,h=>by
  have h':off+k*n≤cs.length:=by rw[Nat.succ_mul]at h;omega
  rw[List.range_succ,List.map_append,List.flatten_append,qx cs off n k h',Nat.succ_mul,List.take_add]
  simp[List.drop_drop]
theorem sL {n k:Nat}{y:T}{vy:Value}{new:List (List T)}(h:SR w0 g H w)(hy:VR g w y vy)(he:gL H n k y=some new) :
  ∃r o ly cap vs,vy=.slice (some ⟨r,o,none⟩) ly cap∧CJ y=some ly∧(∀(j:Nat) (v:Value),vs[j]?=some v→w.cell? ⟨r,o+j,none⟩=some v)∧bD g w new.flatten vs∧vs.length=k*n∧cy new.flatten∧new.flatten.length=k*n:=by
 have key:∀(b off:Nat) (r o q:Nat),g.φ b=some (r,o,q)→(match H[b]? with|some (.cells cs)=>if off+k*n≤cs.length then some ((List.range k).map fun i=>(cs.drop (off+i*n)).take n)else none|_=>none)=some new →
   ∃vs,(∀(j:Nat) (v:Value),vs[j]?=some v→w.cell? ⟨r,o+off+j,none⟩=some v)∧bD g w new.flatten vs∧vs.length=k*n∧cy new.flatten∧new.flatten.length=k*n:=by
  intro b off r o q hφ he
  cases hb:H[b]? with
  | none=>simp[hb]at he
  | some z =>
   cases z<;>simp only[hb]at he<;>(try (cases he;done))
   rename_i cs
   split at he
   ·rename_i hle
    simp only[Option.some.injEq]at he
    have pO:=qx cs off n k hle
    rw[he]at pO
    have hp:pr H (k*n) (.ptr b off)=some new.flatten:=by simp[pr,hb,hle,pO]
    obtain⟨r',o',vs,e1,e2,e3,e4,e5⟩:=oc h (.ptr hφ) hp
    cases e1
    exact⟨vs,e3,e4,e2,e5,by rw[pO,List.length_take,List.length_drop];omega⟩
   ·cases he
 cases hy<;>simp only[gL]at he<;>(try (cases he;done))
 ·rename_i b off len n' r o q cap hφ hc hq
  obtain⟨vs,a1,a2,a3,a4,a5⟩:=key b off r o q hφ (by
   cases hb:H[b]? with
   | none=>simp[hb]at he
   | some z =>
    cases z<;>simp only[hb]at he ⊢<;>(try (cases he;done))
    split at he
    ·rename_i uk;rw[if_pos uk.2];exact he
    ·cases he)
  exact⟨r,o+off,len,cap,vs,rfl,rfl,a1,a2,a3,a4,a5⟩
 ·rename_i b off len n' r o q cap hφ hc hq
  obtain⟨vs,a1,a2,a3,a4,a5⟩:=key b off r o q hφ (by
   cases hb:H[b]? with
   | none=>simp[hb]at he
   | some z =>
    cases z<;>simp only[hb]at he ⊢<;>(try (cases he;done))
    split at he
    ·rename_i uk;rw[if_pos uk.2];exact he
    ·cases he)
  exact⟨r,o+off,len,cap,vs,rfl,rfl,a1,a2,a3,a4,a5⟩
theorem SR.Mw {b off r o q:Nat}{cs ts:List T}{vs:List Value}(h:SR w0 g H w)(hb:H[b]?=some (.cells cs))(hφ:g.φ b=some (r,o,q))(A7:off≤cs.length)(hle:o+off+ts.length≤q)(hv:bD g w ts vs)(ho:cy ts) :
  Le g w g (w.setCells r (o+off) vs)∧SR w0 g (H.set b (.cells (cs.take off++ts++cs.drop (off+ts.length)))) (w.setCells r (o+off) vs):=by
 have jV:b<H.length:=(List.getElem?_eq_some_iff.1 hb).1
 obtain⟨h1,h2,h3⟩:=h.dP b _ hb r o q hφ
 have hl:=hv.1
 have hs:∀j,o+off≤j→j<o+off+vs.length→(w.cell? ⟨r,j,none⟩).isSome=true:=fun j a c=>(h2 j (by omega) (by omega)).2.2
 have tr:=Tr.setCells w r (o+off) vs hs
 have hS:∀r' j,vO r (o+off) vs.length r' j→g.κ r' j=.mut b:=by
  rintro r' j⟨rfl,a,c⟩;exact(h2 j (by omega) (by omega)).1
 have le:Le g w g (w.setCells r (o+off) vs):=Le.gM tr (fun _ _ h=>h) (fun _ _ h=>h) (fun _ _ _ h=>h) (fun r' j fb e=>by rw[hS r' j fb]at e;cases e)
 refine⟨le,h.step (fun b'=>b'=b) tr le (fun r' j fb=>.inr (.inl ⟨b,hS r' j fb,rfl⟩)) (fun _ hm=>hm.elim) (fun r' j hr=>h.fresh r' j (by rwa[dB]at hr)) (fun b' x hx=>by rw[List.length_set];exact h.rV b' x hx)
  (fun t e x hx=>by rw[List.length_set];exact h.iP t e x hx) (fun _ _ _=>rfl) (fun _ _ _ _=>⟨id,id⟩) (fun _ _ _ _=>rfl) (fun b' x hx=>?_)⟩
 rcases ej jV hx with⟨rfl,rfl⟩|⟨bF,je⟩
 ·right
  intro r' o' q' ka
  rw[hφ]at ka;cases ka
  have hlen:(cs.take off++ts++cs.drop (off+ts.length)).length=max cs.length (off+ts.length):=by simp;omega
  refine⟨by rw[hlen];omega,fun j a c=>⟨(h2 j a c).1,by rw[World.frozen?_setCells];exact(h2 j a c).2.1,tr.dE r j ?_ (h2 j a c).2.2⟩,fun i t hi=>?_⟩
  ·obtain⟨x,hx⟩:=Option.isSome_iff_exists.1 (h2 j a c).2.2;exact jw hx
  ·have jU:i<max cs.length (off+ts.length):=by rw[←hlen];exact(List.getElem?_eq_some_iff.1 hi).1
   by_cases iB:off≤i∧i<off+ts.length
   ·have ht:ts[i-off]?=some t:=by
     rw[List.append_assoc,List.getElem?_append_right (by simp;omega),List.getElem?_append_left (by simp;omega)]at hi
     rw[←hi];congr 1;simp;omega
    have ax:i-off<vs.length:=by omega
    refine⟨ho t (List.mem_of_getElem? ht),vs[i-off],?_,(hv.2 _ t _ ht (List.getElem?_eq_getElem ax)).mono le⟩
    have:=cH r vs (o+off) w hs (i-off) _ (List.getElem?_eq_getElem ax)
    rwa[show o+off+(i-off)=o+i by omega]at this
   ·have ht:cs[i]?=some t:=by
     by_cases ax:i<off
     ·rw[List.append_assoc,List.getElem?_append_left (by simp;omega),List.getElem?_take,if_pos ax]at hi;exact hi
     ·rw[List.getElem?_append_right (by simp;omega),List.getElem?_drop]at hi
      rw[←hi];congr 1;simp;omega
    obtain⟨a,v,Mp,Mq⟩:=h3 i t ht
    refine⟨a,v,?_,Mq.mono le⟩
    rw[cE r vs (o+off) w r (o+i) (by omega)];exact Mp
 ·exact .inl ⟨bF,je⟩
theorem Bi (w:World)(dT sT ty elem:TypeId){ei:TypeInfo}(b o Mx V3:Nat)(a:Addr)(My V4:Nat)(cs:List Value)
  (hu:P.underlying dT=some (.slice elem)) (hi:P.info? elem=some ei) (hn:cs.length=Nat.min My Mx*ei.size)
  (rW:∀(j:Nat) v,cs[j]?=some v→w.cell? (a.add j)=some v) (hc:∀j,j<cs.length→(w.cell? ⟨b,o+j,none⟩).isSome=true) (hf:∀j,j<cs.length→w.frozen? ⟨b,o+j,none⟩=false) (h1:∀v∈cs,v.oneCell'=true) :
  (Builtin.copy_ #[dT,sT] ty #[.slice (some ⟨b,o,none⟩) Mx V3,.slice (some a) My V4]).run P w=.ok (goInt (Nat.min My Mx:Nat)) (w.setCells b o cs):=by
 have hl:=run_loadCells_list (P:=P) w a cs rW
 have dF:=run_storeCells_cells (P:=P) b o cs 0 w (by simpa using hc) (by simpa using hf) h1
 rw[hn]at hl
 have hq:(typeInfo elem).run P w=.ok ei w:=bq hi
 simp[Builtin.copy_,run_underlying hu,Builtin.lenOf,Builtin.firstCells,sizeOf,hq,hl,dF]
theorem Ix {dT sT rt elem:TypeId}{ei:TypeInfo}{x y t:T}{vx vy:Value}{H':af}(hu:P.underlying dT=some (.slice elem))(hi:P.info? elem=some ei)
  (h:SR w0 g H w) (hx:VR g w x vx) (hy:VR g w y vy) (he:AU H ei.size x y=some (t,H')):b6 P w0 g H w (Builtin.copy_ #[dT,sT] rt #[vx,vy]) t H':=by
 have key:∀b off len n' r o q cap,g.φ b=some (r,o,q)→len≤cap→o+off+cap*n'=q→vx=.slice (some ⟨r,o+off,none⟩) len cap →
   (∀ly,CJ y=some ly→∀cs new,H[b]?=some (.cells cs)→gL H ei.size (min ly len) y=some new→n'=ei.size∧ei.size≠0∧off≤cs.length →
    t=.int .i64 (min ly len:Nat)→H'=H.set b (.cells (cs.take off++new.flatten++cs.drop (off+(min ly len)*ei.size)))→b6 P w0 g H w (Builtin.copy_ #[dT,sT] rt #[vx,vy]) t H'):=by
  rintro b off len n' r o q cap hφ hc hq rfl ly Iy cs new hb hK⟨rfl,jf,A7⟩ rfl rfl
  obtain⟨r2,o2,ly',ue,vs,rfl,Qv,a1,a2,a3,a4,a5⟩:=sL h hy hK
  rw[Iy]at Qv;cases Qv
  have jV:b<H.length:=(List.getElem?_eq_some_iff.1 hb).1
  obtain⟨h1,h2,h3⟩:=h.dP b _ hb r o q hφ
  have hmul:min ly len*ei.size≤cap*ei.size:=Nat.mul_le_mul_right _ (by omega)
  have ct:=Bi (P:=P) w dT sT rt elem r (o+off) len cap ⟨r2,o2,none⟩ ly ue vs hu hi (by rw[a3]) (fun j v hj=>by rw[db];exact a1 j v hj) (fun j hj=>(h2 _ (by omega) (by omega)).2.2) (fun j hj=>(h2 _ (by omega) (by omega)).2.1) (a2.iu a4)
  obtain⟨le,sr⟩:=h.Mw hb hφ A7 (by rw[a5];omega) a2 a4
  rw[a5]at sr
  refine⟨_,_,g,ct,le,sr,by simpa[goInt]using .int _ _,by simp,fun b' y' a _ d=>⟨fj a ?_,d⟩⟩
  rintro rfl;rw[hφ]at d;cases d
 unfold AU at he
 cases hx<;>simp only[]at he<;>(try (cases he;done))
 all_goals
  rename_i b off len n' r o q cap hφ hc hq
  cases Iy:CJ y with
  | none=>simp[Iy]at he
  | some ly =>
   simp only[Iy]at he
   cases hb:H[b]? with
   | none=>simp[hb]at he
   | some z =>
    cases hK:gL H ei.size (min ly len) y with
    | none=>cases z<;>simp[hb,hK]at he
    | some new =>
     cases z<;>simp only[hb,hK]at he<;>(try (cases he;done))
     split at he
     ·rename_i uk
      simp only[Option.some.injEq,Prod.mk.injEq]at he
      exact key b off len n' r o q cap hφ hc hq rfl ly Iy _ new hb hK uk he.1.symm he.2.symm
     ·cases he
theorem Dc {R:ar}{n:Nat}{ps:List (Nat×X)}{pv:List (Nat×Value)}(hv:PV g w R ps pv):∀(es fs:List (List T)) (cells:Array Value),jb n es R ps=some fs→(∀c∈es,c.length=n)→bD g w es.flatten cells.toList→cy es.flatten →
  ∃cR,Instr.fill (fun i=>some (i*n,n)) cells pv=some cR∧bD g w fs.flatten cR.toList∧cy fs.flatten∧(∀c∈fs,c.length=n)∧fs.length=es.length:=by
 induction hv with
 | nil =>
  intro es fs cells he hn hz ho
  simp[jb]at he;subst he
  exact⟨cells,rfl,hz,ho,hn,rfl⟩
 | @cons i x v ps pv Qs _ ih =>
  intro es fs cells he hn hz ho
  simp only[jb]at he
  cases hc:(x.ev R).cells? with
  | none=>simp[hc]at he
  | some c =>
   simp only[hc]at he
   split at he
   ·rename_i cD
    obtain⟨lh,hi⟩:=cD
    obtain⟨He,Qt⟩:=jd Qs hc
    have a7:v.cells.size=n:=by have:=He.1;simp at this;omega
    have pO:=fQ es hn
    have vS:es.flatten.length=cells.size:=by have:=hz.1;simpa using this
    have hle:i*n+n≤cells.size:=by
     rw[←vS,pO,←Nat.succ_mul];exact Nat.mul_le_mul_right _ hi
    have bR:=oq a7 hle
    have ky:=kx es i c hn hi
    have pQ:bD g w (es.set i c).flatten (v.cells.zipIdx.foldl (fun (cs:Array Value) (x:Value×Nat)=>cs.setIfInBounds (i*n+x.2) x.1) cells).toList:=by
     rw[bR,ky]
     exact bD.append (bD.append (hz.take _) He) (hz.drop _)
    have mo:cy (es.set i c).flatten:=by
     rw[ky]
     intro t ht
     rcases List.mem_append.1 ht with ht|ht
     ·rcases List.mem_append.1 ht with ht|ht
      ·exact ho t (List.mem_of_mem_take ht)
      ·exact Qt t ht
     ·exact ho t (List.mem_of_mem_drop ht)
    obtain⟨cR,k1,k2,k3,k4,k5⟩:=ih _ fs _ he (fun c' iv=>by
     rcases List.mem_or_eq_of_mem_set iv with h|h
     ·exact hn c' h
     ·rw[h];exact lh) pQ mo
    refine⟨cR,?_,k2,k3,k4,by simpa using k5⟩
    simp only[Instr.fill]
    rw[if_neg]
    ·exact k1
    ·simp[a7];omega
   ·cases he
theorem Iz {ty elem:TypeId}{ei:TypeInfo}{zv:Value}{R:ar}{ps:List (Nat×X)}{pv:List (Nat×Value)}{z:List T}{len:Nat}{fs:List (List T)}(hu:P.underlying ty=some (.slice elem))(hi:P.info? elem=some ei)(hz:ei.zero=some zv)(C9:eM zv.cells.toList=some z)
  (xX:z.length=ei.size) (a7:len*ei.size≤2^24) (h:SR w0 g H w) (hv:PV g w R ps pv) (he:jb z.length (List.replicate len z) R ps=some fs) :
  b6 P w0 g H w (Instr.buildSlice ty len pv.toArray) (.ay H.length 0 len z.length) (H++[.cells fs.flatten]):=by
 obtain⟨Bh,Cs⟩:=dA (g:=g) (w:=w) _ _ C9
 have V2:=kz Bh xX len
 have Qq:=jg Cs len
 rw[xX]at he
 obtain⟨cR,k1,k2,k3,k4,k5⟩:=Dc hv _ fs ((Array.range (len*ei.size)).map (fun i=>zv.cells[i%zv.cells.size]!)) he (fun c hc=>by rw[List.eq_of_mem_replicate hc];exact xX) V2 Qq
 have hlen:fs.length=len:=by rw[k5];simp
 have pO:fs.flatten.length=len*ei.size:=by rw[fQ fs k4,hlen]
 have ug:cR.size=len*ei.size:=by have:=k2.1;simp only[Array.length_toList]at this;omega
 obtain⟨g',le,sr,fr,hφ⟩:=h.gF (c:=cR) (ty:=elem) (cs:=fs.flatten) (Db w) rfl (fun i t hi=>by
  obtain⟨v,a1,a2⟩:=k2.fL i t hi
  exact⟨k3 t (List.mem_of_getElem? hi),v,by simpa using a1,a2⟩)
 refine⟨.slice (some ⟨w.heap.size,0,none⟩) len len,_,g',?_,le,sr,?_,fr⟩
 ·have vT:¬len*ei.size>2^24:=by omega
  by_cases h0:len*ei.size=0
  ·have e0:((Array.range (len*ei.size)).map (fun i=>zv.cells[i%zv.cells.size]!))=((Array.range (len*ei.size)).map (fun i=>(#[]:Array Value)[i%(#[]:Array Value).size]!)):=by
    rw[h0];simp
   rw[e0]at k1
   simp only[Instr.buildSlice,Sem.run_bind,run_underlying hu,Result.andThen_ok,sizeOf,bq hi,Sem.run_pure,vT,if_false,h0,if_true]
   rw[h0]at k1
   simp at k1
   simp[k1,newRow]
  ·simp only[Instr.buildSlice,Sem.run_bind,run_underlying hu,Result.andThen_ok,sizeOf,bq hi,Sem.run_pure,vT,if_false,h0,zeroValue,hz]
   simp[k1,newRow]
 ·rw[xX]
  exact .ay (r:=w.heap.size) (o:=0) (off:=0) hφ (Nat.le_refl _) (by rw[ug];simp)
theorem IA {sT xT elem rt:TypeId}{ei:TypeInfo}{zv:Value}{z:List T}{kq kn:IntKind}{x t:T}{vx:Value}{k:Nat}{H':af}(hu:P.underlying sT=some (.slice elem))(IB:P.underlying xT=some (.int kn))(hi:P.info? elem=some ei)(hz:ei.zero=some zv)(C9:eM zv.cells.toList=some z)
  (hb:ei.bytes≠0) (h:SR w0 g H w) (hx:VR g w x vx) (he:CK H ei.size ei.bytes z x k=some (t,H')):b6 P w0 g H w (Builtin.append_ #[sT,xT] rt #[vx,.int kq k]) t H':=by
 unfold CK at he
 cases x<;>simp only[]at he<;>(try (cases he;done))
 rename_i b off len n' c
 cases hK:gL H ei.size len (.dQ b off len n' c)with
 | none=>simp[hK]at he
 | some es =>
  simp only[hK]at he
  split at he
  ·rename_i uk
   obtain⟨rfl,jf,Qw,lh,xX,gO⟩:=uk
   simp only[Option.some.injEq,Prod.mk.injEq]at he
   obtain⟨rfl,rfl⟩:=he
   obtain⟨r,o,ly,cap,vs,rfl,Iy,a1,a2,a3,a4,a5⟩:=sL h hx hK
   cases Iy
   have m4:cap=c:=by cases hx;rfl
   subst m4
   obtain⟨Bh,Cs⟩:=dA (g:=g) (w:=w) _ _ C9
   have hold:(Builtin.firstCells ei.size len (.slice (some ⟨r,o,none⟩) len cap)).run P w.drew=.ok vs.toArray w.drew:=by
    have:=run_loadCells_list (P:=P) w.drew ⟨r,o,none⟩ vs (fun j v hj=>by rw[db];exact a1 j v hj)
    rw[a3]at this
    simpa[Builtin.firstCells]using this
   have UU:¬Builtin.nextslicecap (len+k) cap*ei.bytes>2^48:=zp lh gO
   have hr:=gO
   simp only[da,decide_eq_true_eq]at hr
   have KS:(len+k)*ei.bytes≤281474976710656:=Nat.le_trans (Nat.mul_le_mul_right _ (by omega)) hr
   have V5:len+k≤281474976710656:=Nat.le_trans (Nat.le_mul_of_pos_right _ (by omega)) KS
   have Bj:k*ei.bytes≤281474976710656:=Nat.le_trans (Nat.mul_le_mul_right _ (by omega)) KS
   have ct:=Go.Lib.run_append_grow_zeros (P:=P) w sT xT rt elem ei zv kq kn hu IB hi hz (some ⟨r,o,none⟩) len cap vs hold k Qw (by omega) lh (by omega) Bj (by omega)
   have Il:zv.cells.toList.length=ei.size:=by have:=Bh.1;omega
   have Qy:zv.cells.size=ei.size:=by simpa using Il
   have C8:bD g w (es.flatten++(List.replicate k z).flatten) (vs++(Builtin.zeroCells zv.cells k).toList):=by
    refine bD.append a2 ?_
    have:=kz Bh xX k
    simpa[Builtin.zeroCells,Qy]using this
   have dV:=grownCap_ge w (len+k) cap elem
   generalize grownCap w (len+k) cap elem=nc at ct dV
   have Qz:cy (es.flatten++(List.replicate k z).flatten):=fun t ht=>by
    rcases List.mem_append.1 ht with ht|ht
    ·exact a4 t ht
    ·exact jg Cs k t ht
   have a7:(vs.toArray++Builtin.zeroCells zv.cells k++Builtin.zeroCells zv.cells (nc-(len+k))).size=nc*ei.size:=by
    simp only[Array.size_append,ku,List.size_toArray,a3,Qy]
    rw[←Nat.add_mul,←Nat.add_mul];congr 1;omega
   obtain⟨g',le,sr,fr,hφ⟩:=h.gF (c:=vs.toArray++Builtin.zeroCells zv.cells k++Builtin.zeroCells zv.cells (nc-(len+k))) (ty:=elem) (cs:=es.flatten++(List.replicate k z).flatten) (pS w) rfl (fun i t hi=>by
    obtain⟨v,b1,b2⟩:=C8.fL i t hi
    refine⟨Qz t (List.mem_of_getElem? hi),v,?_,b2⟩
    rw[List.getElem?_toArray]at b1
    have ax:=(List.getElem?_eq_some_iff.1 b1).1
    have e:(vs.toArray++Builtin.zeroCells zv.cells k++Builtin.zeroCells zv.cells (nc-(len+k))).toList=(vs++(Builtin.zeroCells zv.cells k).toList)++(Builtin.zeroCells zv.cells (nc-(len+k))).toList:=by simp
    rw[←Array.getElem?_toList,e,List.getElem?_append_left ax];exact b1)
   refine⟨_,_,g',ct,le,sr,?_,fr⟩
   exact .ay (r:=w.heap.size) (o:=0) (off:=0) hφ dV (by rw[a7];simp)
  ·cases he
end
section
variable {P:Program} {w0 w:World} {g:Ctx} {H:af}
theorem sb {params results:Array TypeId}(tS e:TypeId)(hp:params[0]?=some tS)(ht:P.underlying tS=some (.slice e))(size:Nat)(hz:(Go.sizeOf e).run P w=.ok size w)
  (a b:Addr) (la ca lb cb:Nat) (bF:a.block≠b.block) (tA tB:TypeId) (kA kB:Nat)
  (V6:w.shape? a.block=some (tA,kA)) (US:w.shape? b.block=some (tB,kB)) (V7:kB≠0)
  (hfa:w.frozen? a=false) (hfe:w.frozen? { block:=a.block,off:=kA }=false) :
  (Extern.SlicesOverlaps.overlaps params results #[.slice (some a) la ca,.slice (some b) lb cb]).run P w=.ok (.bool false) w:=by
 have UU:(a.block != b.block)=true:=by simpa using bF
 have Mz:(a.block==b.block)=false:=by simpa using bF
 conv=>lhs;arg 2;whnf
 simp only[hp]
 by_cases h0:la=0∨lb=0∨size=0
 ·simp[run_underlying ht,hz,h0]
 ·cases kB with
  | zero=>exact absurd rfl V7
  | succ kB =>
   simp[run_underlying ht,hz,h0,UU,Mz,frozen,noView,viewAt,mayBeOne,stringish,shape,Sem.run,V6,US,hfa,hfe]
theorem um {params results:Array TypeId}(tS e:TypeId)(hp:params[0]?=some tS)(ht:P.underlying tS=some (.slice e))(size:Nat)(hz:(Go.sizeOf e).run P w=.ok size w)
  (a b:Addr) (la ca lb cb:Nat) (bF:a.block=b.block) (hd:la≠0→lb≠0→size≠0→¬(a.off<b.off+lb*size∧b.off<a.off+la*size)) :
  (Extern.SlicesOverlaps.overlaps params results #[.slice (some a) la ca,.slice (some b) lb cb]).run P w=.ok (.bool false) w:=by
 have UU:(a.block != b.block)=false:=by simpa using bF
 have Mz:(a.block==b.block)=true:=by simpa using bF
 conv=>lhs;arg 2;whnf
 simp only[hp]
 by_cases h0:la=0∨lb=0∨size=0
 ·simp[run_underlying ht,hz,h0]
 ·have h1:=hd (fun h=>h0 (.inl h)) (fun h=>h0 (.inr (.inl h))) (fun h=>h0 (.inr (.inr h)))
  simp[run_underlying ht,hz,h0,UU,Mz]
  intro ax
  have:¬b.off<a.off+la*size:=fun h=>h1 ⟨ax,h⟩
  omega
theorem nj {params results:Array TypeId}(tS e:TypeId)(hp:params[0]?=some tS)(ht:P.underlying tS=some (.slice e))(size:Nat)(hz:(Go.sizeOf e).run P w=.ok size w)
  (a b:Addr) (la ca lb cb:Nat) (h0:la=0∨size=0) :
  (Extern.SlicesOverlaps.overlaps params results #[.slice (some a) la ca,.slice (some b) lb cb]).run P w=.ok (.bool false) w:=by
 have h0:la=0∨lb=0∨size=0:=by rcases h0 with h|h;exact .inl h;exact .inr (.inr h)
 conv=>lhs;arg 2;whnf
 simp only[hp]
 simp[run_underlying ht,hz,h0]
theorem vU {r j:Nat}(h:(w.cell? ⟨r,j,none⟩).isSome=true):∃t k,w.shape? r=some (t,k)∧k≠0:=by
 unfold World.cell? at h
 unfold World.shape?
 cases hr:w.heap[r]? with
 | none=>simp[hr]at h
 | some x =>
  cases x<;>simp[hr]at h ⊢
  rename_i c t f
  exact⟨_,_,⟨rfl,rfl⟩,by omega⟩
theorem IC {params results:Array TypeId}{tS e:TypeId}{ei:TypeInfo}{x y t:T}{vx vy:Value}{H':af}(hp:params[0]?=some tS)(ht:P.underlying tS=some (.slice e))(hi:P.info? e=some ei)
  (h:SR w0 g H w) (hx:VR g w x vx) (hy:VR g w y vy) (he:AV H ei.size x y=some (t,H')):b6 P w0 g H w (Extern.SlicesOverlaps.overlaps params results #[vx,vy]) t H':=by
 have hz:(Go.sizeOf e).run P w=.ok ei.size w:=by simp[sizeOf,bq hi]
 unfold AV at he
 cases hx<;>(try (simp only[reduceCtorEq]at he;done))<;>(try (cases he;done))
 rename_i bv ID lv n1 r' o' q' ue ka iv Qr
 cases hy<;>(try (simp only[reduceCtorEq]at he;done))<;>(try (cases he;done))
 rename_i b off len n2 r o q c hφ hc hq
 cases UW:H[bv]? with
 | none=>simp[UW]at he
 | some zv =>
  cases hb:H[b]? with
  | none=>cases zv<;>simp[UW,hb]at he
  | some z =>
   cases zv<;>cases z<;>simp only[UW,hb]at he<;>(try (cases he;done))
   rename_i csv cs
   split at he
   ·rename_i uk
    obtain⟨bF,rfl,IE,MA⟩:=uk
    simp only[Option.some.injEq,Prod.mk.injEq]at he
    obtain⟨rfl,rfl⟩:=he
    subst IE
    obtain⟨a1,a2,a3⟩:=h.dP _ _ UW r' o' q' ka
    obtain⟨b1,b2,b3⟩:=h.dP _ _ hb r o q hφ
    by_cases hr:r'=r
    ·subst hr
     refine b6.same h (um tS e hp ht _ hz _ _ _ _ _ _ rfl fun hl hl2 hs hh=>?_) (.bool _)
     obtain⟨h1,h2⟩:=hh
     simp only at h1 h2
     have m1:lv*ei.size≤ue*ei.size:=Nat.mul_le_mul_right _ iv
     have m2:len*ei.size≤c*ei.size:=Nat.mul_le_mul_right _ hc
     have p1:0<lv*ei.size:=Nat.mul_pos (by omega) (by omega)
     have p2:0<len*ei.size:=Nat.mul_pos (by omega) (by omega)
     have k1:=(a2 (max (o'+ID) (o+off)) (by omega) (by omega)).1
     have k2:=(b2 (max (o'+ID) (o+off)) (by omega) (by omega)).1
     rw[k1]at k2;cases k2;exact bF rfl
    ·by_cases QA:lv=0
     ·subst QA
      refine b6.same h ?_ (.bool _)
      exact nj tS e hp ht _ hz _ _ _ _ _ _ (.inl rfl)
     ·by_cases hs:ei.size=0
      ·refine b6.same h ?_ (.bool _)
       exact nj tS e hp ht _ hz _ _ _ _ _ _ (.inr hs)
      ·have m1:lv*ei.size≤ue*ei.size:=Nat.mul_le_mul_right _ iv
       have p1:0<lv*ei.size:=Nat.mul_pos (by omega) (by omega)
       have rZ:=a2 (o'+ID) (by omega) (by omega)
       have hcb:=b2 o (Nat.le_refl _) (by omega)
       have hZ:w0.heap.size≤r':=by
        rcases Nat.lt_or_ge r' w0.heap.size with ax|dV
        ·have:=h.A4 r' (o'+ID) ax;rw[rZ.1]at this;cases this
        ·exact dV
       obtain⟨tA,kA,V6,_⟩:=vU rZ.2.2
       obtain⟨tB,kB,US,V7⟩:=vU hcb.2.2
       exact b6.same h (sb tS e hp ht _ hz _ _ _ _ _ _ hr tA tB kA kB V6 US V7 (h.pJ r' _ hZ) (h.pJ r' _ hZ)) (.bool _)
   ·cases he
end
end Go.Rmp
end

section
namespace Go.Rmp
open Go.ChangeMaps (setBlock)
section
variable {P:Program} {w0 w:World} {g:Ctx} {H:af}
theorem SR.QB {w':World}(h:SR w0 g H w)(tr:Tr w w' gq iz)(hz:w'.heap.size=w.heap.size):SR w0 g H w'∧Le g w g w':=by
 have le:Le g w g w':=Le.gM tr (fun _ _ h=>h) (fun _ _ h=>h) (fun _ _ _ h=>h) (fun _ _ hs=>hs.elim)
 refine⟨?_,le⟩
 exact h.step (fun _=>False) tr le (fun _ _ hs=>hs.elim) (fun _ hm=>hm.elim) (fun r o hr=>h.fresh r o (by omega)) h.rV h.iP (fun _ _ _=>rfl) (fun _ _ _ _=>⟨id,id⟩) (fun _ _ _ _=>rfl) (fun b x hx=>.inl ⟨id,hx⟩)
theorem MB {b:Nat}{vm:Value}{es:List (T×T)}(h:SR w0 g H w)(hm:VR g w (.map b) vm)(hJ:gn H (.map b)=some es) :
  ∃r o q,vm=.map (some r)∧g.φ b=some (r,o,q)∧g.κ r 0=.mut b∧b<H.length∧∃av clock,w.heap[r]?=some (.map av clock)∧dS g w es av∧ff av clock:=by
 cases hm with
 | @map _ r o q hφ =>
  simp only[gn]at hJ
  cases hb:H[b]? with
  | none=>simp[hb]at hJ
  | some y =>
   have jV:=(List.getElem?_eq_some_iff.1 hb).1
   cases y<;>simp[hb]at hJ
   ·subst hJ
    obtain⟨h1,av,c,h2,h3,h4⟩:=h.dP b _ hb r o q hφ
    exact⟨r,o,q,rfl,hφ,h1,jV,av,c,h2,h3,h4⟩
   ·subst hJ
    obtain⟨r2,o',q',ka,h1,av,c,h2,h3,h4,_⟩:=h.dP b _ hb
    rw[hφ]at ka;cases ka
    exact⟨r,o,q,rfl,hφ,h1,jV,av,c,h2,h3,h4⟩
theorem IG {ty key elem:TypeId}{b:Nat}{vm:Value}{es:List (T×T)}(hu:P.underlying ty=some (.map key elem))(h:SR w0 g H w)(hm:VR g w (.map b) vm)(hJ:gn H (.map b)=some es) :
  b6 P w0 g H w (Instr.range ty vm) (.ptr H.length 0) (H.set b (.cP es (List.range es.length) H.length none)++[.ua b]):=by
 obtain⟨r,o,q,rfl,hφ,hk,jV,av,c,h2,h3,h4⟩:=MB h hm hJ
 have V8:fg (.mapIter (some r) c #[] c)=true:=rfl
 have vP:=Tr.alloc w (.mapIter (some r) c #[] c) (.inl V8)
 have bF:∀r j ow,g.κ r j=ow→ow≠.free→r≠w.heap.size:=by rintro r j ow e hn rfl;exact hn (e▸h.fresh _ j (Nat.le_refl _))
 have V9:=h.Ie (b:=H.length) (Nat.le_refl _)
 have Wa:=bF r 0 _ hk (by simp)
 have le:Le g w ((g.row w.heap.size fun _=>.mut b).at H.length (w.heap.size,0,0)) (w.alloc (.mapIter (some r) c #[] c)):=Le.gM vP
  (fun b' x hx=>by simp only[Ctx.at,Ctx.row];split;rename_i e;subst e;rw[V9]at hx;simp at hx;exact hx)
  (fun r o hk=>by simp only[Ctx.row,Ctx.at];rw[if_neg (bF r o _ hk (by simp))];exact hk) (fun _ _ _ h=>h) (fun _ _ hs=>hs.elim)
 have ax:r<w.heap.size:=(Array.getElem?_eq_some_iff.1 h2).1
 refine⟨_,_,_,by simp[Instr.range,run_underlying hu,getObj,Sem.run,h2,newObj],le,?_,.ptr (r:=w.heap.size) (o:=0) (q:=0) (by simp[Ctx.at]),by simp,fun b' x a _ d=>?_⟩
 ·refine h.step (fun b'=>b'=b∨b'=H.length) vP le (fun _ _ hs=>hs.elim) (fun _ hm=>hm.elim) (fun r o hr=>?_) (fun b' x hx=>?_) (fun t e x hx=>by have:=h.iP t e x hx;simp;omega) (fun b' _ iW=>?_) (fun r j b' iW=>?_) (fun _ _ _ _=>rfl) (fun b' x hx=>?_)
  ·simp at hr
   simp only[Ctx.row,Ctx.at];rw[if_neg (by omega)];exact h.fresh r o (by omega)
  ·simp only[Ctx.at,Ctx.row]at hx
   split at hx
   ·rename_i e;subst e;simp
   ·have:=h.rV b' x hx;simp;omega
  ·simp only[Ctx.at,Ctx.row];rw[if_neg (fun e=>iW (.inr e))]
  ·constructor<;>intro e<;>simp only[Ctx.row,Ctx.at]<;>rw[if_neg (bF r j _ e (by simp))]<;>exact e
  ·by_cases e:b'=H.length
   ·subst e
    rw[List.getElem?_append_right (by simp)]at hx
    simp at hx;subst hx
    exact .inr trivial
   ·have iW:b'<H.length:=by
     have:=(List.getElem?_eq_some_iff.1 hx).1
     simp at this;omega
    rw[List.getElem?_append_left (by simpa using iW)]at hx
    rcases ej jV hx with⟨rfl,rfl⟩|⟨hn,je⟩
    ·refine .inr ⟨r,o,q,le.φ _ _ hφ,by simp only[Ctx.row,Ctx.at];rw[if_neg Wa];exact hk,av,c,?_,h3.mono le,h4,w.heap.size,0,#[],by simp[Ctx.at],by simp[Ctx.row,Ctx.at],World.alloc_heap_new w _,List.nodup_range,fun i=>?_,fun c hc=>by cases hc⟩
     ·show(w.heap.push _)[r]?=_
      rw[Array.getElem?_push,if_neg (by omega)];exact h2
     ·rw[List.mem_range,←h3.1]
      exact⟨fun hi=>⟨av[i],Array.getElem?_eq_getElem hi,by simp⟩,fun ⟨m,hm,_⟩=>(Array.getElem?_eq_some_iff.1 hm).1⟩
    ·exact .inl ⟨fun hh=>hh.elim hn e,je⟩
 ·have hl:=(List.getElem?_eq_some_iff.1 a).1
  refine⟨?_,by simp only[Ctx.at,Ctx.row];rw[if_neg (by omega)];exact d⟩
  rw[List.getElem?_append_left (by simpa using hl)]
  exact fj a (by rintro rfl;rw[hφ]at d;cases d)
theorem IH {ty:TypeId}{b bi:Nat}{v:Value}{es:List (T×T)}{ix:List Nat}{cur:Option Nat}(h:SR w0 g H w)(hx:VR g w (.ptr bi 0) v)(hb:H[b]?=some (.cP es ix bi cur)) :
  ∃t H',mZ H b bi es ix t H'∧b6 P w0 g H w (Instr.next v false ty) t H':=by
 have jV:b<H.length:=(List.getElem?_eq_some_iff.1 hb).1
 obtain⟨r,o,q,hφ,h1,av,c,h2,h3,h4,ri,q',seen,h5,h6,h7,h8,h9,aC⟩:=h.dP b _ hb
 cases hx with
 | @ptr _ _ r2 o2 q2 zr =>
  rw[h5]at zr;cases zr
  have al:∀y,Fr g H g (H.set b y):=fun y=>⟨by simp,fun b' x a _ d=>⟨fj a (by rintro rfl;rw[hφ]at d;cases d),d⟩⟩
  rcases run_next_at (P:=P) w ty ri r c c seen av c h7 h2 h4.1 (Nat.le_refl _)with⟨hz,ct⟩|⟨e,he,w1,PC,ct⟩
  ·have vM:ix=[]:=by
    refine List.eq_nil_iff_forall_not_mem.2 fun i hi=>?_
    obtain⟨m,hm,hn⟩:=(h9 i).1 hi
    have:m∈leftOf av seen:=by
     simp only[leftOf,Array.mem_filter]
     exact⟨Array.mem_of_getElem? hm,by simpa using hn⟩
    rw[Array.eq_empty_of_size_eq_zero hz]at this
    simp at this
   refine⟨_,_,.inl ⟨vM,rfl,rfl⟩,.tuple #[.bool false],w,g,by simpa using ct,.refl _ _,?_,.bN rfl (fun i t v a b=>?_),al _⟩
   ·refine h.step (fun b'=>b'=b) (Tr.refl w) (.refl _ _) (fun _ _ hs=>hs.elim) (fun _ hm=>hm.elim) h.fresh (fun b' x hx=>by rw[List.length_set];exact h.rV b' x hx) (fun t e x hx=>by rw[List.length_set];exact h.iP t e x hx) (fun _ _ _=>rfl) (fun _ _ _ _=>⟨id,id⟩) (fun _ _ _ _=>rfl) (fun b' x hx=>?_)
    rcases ej jV hx with⟨rfl,rfl⟩|⟨hn,je⟩
    ·refine .inr fun r' o' q' ka=>?_
     rw[hφ]at ka;cases ka
     exact⟨h1,av,c,h2,h3,h4⟩
    ·exact .inl ⟨hn,je⟩
   ·cases i with
    | zero=>simp at a b;subst a;subst b;exact .bool _
    | succ i=>simp at a
  ·have Dd:e∈av∧e.born∉seen:=by
    have:e∈leftOf av seen:=by simpa using he
    simp only[leftOf,Array.mem_filter]at this
    exact⟨this.1,by simpa using this.2⟩
   obtain⟨i,hi,sd⟩:=Array.getElem_of_mem Dd.1
   have nk:av[i]?=some e:=by rw[Array.getElem?_eq_getElem hi,sd]
   have kC:i<es.length:=by rw[←h3.1];exact hi
   have vM:i∈ix:=(h9 i).2 ⟨e,nk,Dd.2⟩
   have fD:=h3.2 i es[i] e (List.getElem?_eq_getElem kC) nk
   have trd:Tr w w1 gq iz:=by rcases PC with rfl|rfl;exact Tr.refl _;exact Tr.drew _
   obtain⟨MC,fR⟩:=h.QB trd (by rcases PC with rfl|rfl<;>rfl)
   have UX:w1.heap[ri]?=some (.mapIter (some r) c seen c):=by rcases PC with rfl|rfl<;>exact h7
   have II:w1.heap[r]?=some (.map av c):=by rcases PC with rfl|rfl<;>exact h2
   have tr:Tr w1 (World.b9 w1 ri (.mapIter (some r) c (seen.push e.born) c)) gq (fun r'=>r'=ri):=Tr.xU w1 ri rfl rfl UX
   have le:Le g w1 g (World.b9 w1 ri (.mapIter (some r) c (seen.push e.born) c)):=Le.gM tr (fun _ _ h=>h) (fun _ _ h=>h) (fun _ _ _ h=>h) (fun _ _ hs=>hs.elim)
   have hrr:r≠ri:=by rintro rfl;rw[II]at UX;cases UX
   refine⟨_,_,.inr ⟨i,es[i],vM,List.getElem?_eq_getElem kC,rfl,rfl⟩,.tuple #[.bool true,e.key,e.val],_,g,by simpa[setBlock,World.b9]using ct,fR.trans le,?_,.bN rfl (fun i t v a b=>?_),al _⟩
   ·show SR w0 g _ (World.b9 w1 ri (.mapIter (some r) c (seen.push e.born) c))
    refine MC.step (fun b'=>b'=b) tr le (fun _ _ hs=>hs.elim) (fun r' hm=>⟨b,by rw[hm];exact h6,rfl⟩) (fun r' j n5=>MC.fresh r' j (by simpa[World.b9]using n5)) (fun b' x hx=>by rw[List.length_set];exact h.rV b' x hx) (fun t e x hx=>by rw[List.length_set];exact h.iP t e x hx) (fun _ _ _=>rfl) (fun _ _ _ _=>⟨id,id⟩) (fun _ _ _ _=>rfl) (fun b' x hx=>?_)
    rcases ej jV hx with⟨rfl,rfl⟩|⟨hn,je⟩
    ·refine .inr ⟨r,o,q,hφ,h1,av,c,?_,h3.mono (fR.trans le),h4,ri,q',seen.push e.born,h5,h6,qp _ _ (Array.getElem?_eq_some_iff.1 UX).1,h8.erase _,fun j=>?_,fun c' iv=>?_⟩
     ·rw[qo _ _ hrr];exact II
     ·rw[h8.mem_erase_iff,h9 j]
      constructor
      ·rintro⟨MD,m,hm,hn⟩
       refine⟨m,hm,fun iB=>?_⟩
       rcases Array.mem_push.1 iB with iB|iB
       ·exact hn iB
       ·apply MD
        have hj:=(Array.getElem?_eq_some_iff.1 hm).1
        have fv:=h4.2
        have e1:(av.toList.map (·.born))[j]?=some m.born:=by simp[hm]
        have e2:(av.toList.map (·.born))[i]?=some m.born:=by simp[nk,iB]
        have PD:j<(av.toList.map (·.born)).length:=by simpa using hj
        exact(List.getElem?_inj PD fv).1 (e1.trans e2.symm)
      ·rintro⟨m,hm,hn⟩
       refine⟨fun MD=>?_,m,hm,fun iB=>hn (Array.mem_push.2 (.inl iB))⟩
       subst MD
       rw[nk]at hm;cases hm
       exact hn (Array.mem_push.2 (.inr rfl))
     ·cases iv
      exact⟨e,nk,by simp⟩
    ·exact .inl ⟨hn,je⟩
   ·have Mp:=fD.1.mono (fR.trans le)
    have Mq:=fD.2.mono (fR.trans le)
    match i,a,b with
    | 0,a,b=>simp at a b;subst a;subst b;exact .bool _
    | 1,a,b=>simp at a b;subst a;subst b;exact Mp
    | 2,a,b=>simp at a b;subst a;subst b;exact Mq
    | i+3,a,b=>simp at a
theorem IJ {b bi c:Nat}{v:Value}{es:List (T×T)}{ix:List Nat}{e:T×T}(h:SR w0 g H w)(hx:VR g w (.ptr bi 0) v)(hb:H[b]?=some (.cP es ix bi (some c)))(he:es[c]?=some e) :
  b6 P w0 g H w (Instr.entry v) (.bN [e.1,e.2]) H:=by
 obtain⟨r,o,q,hφ,h1,av,cl,h2,h3,h4,ri,q',seen,h5,h6,h7,h8,h9,aC⟩:=h.dP b _ hb
 cases hx with
 | @ptr _ _ r2 o2 q2 zr =>
  rw[h5]at zr;cases zr
  obtain⟨m,hm,hs⟩:=aC c rfl
  have fD:=h3.2 c e m he hm
  have Wc:m∈av.toList:=by have:=Array.mem_of_getElem? hm;simpa using this
  have hf:av.find? (·.born==m.born)=some m:=by rw[←Array.find?_toList];exact find_born m av.toList h4.2 Wc
  refine b6.same h (v:=.tuple #[m.key,m.val]) ?_ (.bN rfl fun i t v a b=>?_)
  ·simp[Instr.entry,getObj,Sem.run,h7,h2,hs,hf]
  ·match i,a,b with
   | 0,a,b=>simp at a b;subst a;subst b;exact fD.1
   | 1,a,b=>simp at a b;subst a;subst b;exact fD.2
   | i+2,a,b=>simp at a
theorem IK {ty rt elem:TypeId}{ei:TypeInfo}{zv:Value}{z:List T}{v:Value}{b off len:Nat}{cs:List T}(hu:P.underlying ty=some (.slice elem))(hi:P.info? elem=some ei)(hz:ei.zero=some zv)(C9:eM zv.cells.toList=some z)
  (h:SR w0 g H w) (hx:VR g w (.ay b off len ei.size) v) (hb:H[b]?=some (.cells cs)) (vS:z.length=ei.size) (hle:off+len*ei.size≤cs.length) :
  b6 P w0 g H w (Builtin.clear_ #[ty] rt #[v]) (.bN []) (H.set b (.cells (cs.take off++(List.replicate len z).flatten++cs.drop (off+len*ei.size)))):=by
 cases hx with
 | @ay _ _ _ _ r o q cap hφ hc hq =>
  obtain⟨h1,h2,h3⟩:=h.dP b _ hb r o q hφ
  obtain⟨Bh,Cs⟩:=dA (g:=g) (w:=w) _ _ C9
  have fD:=kz Bh vS len
  have PE:=jg Cs len
  have hlen:(List.replicate len z).flatten.length=len*ei.size:=by simp[List.length_flatten,vS]
  have Il:zv.cells.size=ei.size:=by have:=Bh.1;simp at this;omega
  have ME:bD g w (List.replicate len z).flatten (Builtin.zeroCells zv.cells len).toList:=by
   simpa[Builtin.zeroCells,Il]using fD
  obtain⟨le,sr⟩:=h.store hb hφ (by rw[hlen];exact hle) ME PE
  rw[hlen]at sr
  refine⟨.tuple #[],_,g,?_,le,sr,.bN rfl (by simp),by simp,fun b' y' a _ d=>⟨fj a (by rintro rfl;rw[hφ]at d;cases d),d⟩⟩
  have hl:=ME.1
  rw[hlen]at hl
  cases len with
  | zero =>
   have e:(Builtin.zeroCells zv.cells 0).toList=[]:=List.eq_nil_of_length_eq_zero (by rw[←hl];simp)
   rw[e]
   simp[Builtin.clear_,run_underlying hu,World.setCells]
  | succ len =>
   have ct:=run_storeCells_cells (P:=P) r (o+off) (Builtin.zeroCells zv.cells (len+1)).toList 0 w (fun j hj=>(h2 _ (by omega) (by omega)).2.2) (fun j hj=>(h2 _ (by omega) (by omega)).2.1) (ME.iu PE)
   have hzr:(zeroValue elem).run P w=.ok zv w:=by simp[zeroValue,bq hi,hz]
   simp only[Nat.add_zero]at ct
   simp[Builtin.clear_,run_underlying hu,hzr,ct]
theorem SR.shrink {b:Nat}{cs:List T}(k:Nat)(h:SR w0 g H w)(hb:H[b]?=some (.cells cs))(hφ:∃x,g.φ b=some x):SR w0 g (H.set b (.cells (cs.take k))) w∧Fr g H g (H.set b (.cells (cs.take k))):=by
 have jV:b<H.length:=(List.getElem?_eq_some_iff.1 hb).1
 obtain⟨y,hy⟩:=hφ
 refine⟨?_,by simp,fun b' x a _ d=>⟨fj a (by rintro rfl;rw[hy]at d;cases d),d⟩⟩
 refine h.step (fun b'=>b'=b) (Tr.refl w) (.refl _ _) (fun _ _ hs=>hs.elim) (fun _ hm=>hm.elim) h.fresh (fun b' x hx=>by rw[List.length_set];exact h.rV b' x hx) (fun t e x hx=>by rw[List.length_set];exact h.iP t e x hx) (fun _ _ _=>rfl) (fun _ _ _ _=>⟨id,id⟩) (fun _ _ _ _=>rfl) (fun b' x hx=>?_)
 rcases ej jV hx with⟨rfl,rfl⟩|⟨hn,je⟩
 ·refine .inr fun r o q hφ=>?_
  obtain⟨h1,h2,h3⟩:=h.dP b' _ hb r o q hφ
  refine⟨by simp;omega,h2,fun i t hi=>h3 i t ?_⟩
  rw[List.getElem?_take]at hi
  split at hi
  ·exact hi
  ·cases hi
 ·exact .inl ⟨hn,je⟩
end
end Go.Rmp
end

section
namespace Go.Rmp
def aK:Operand→Option X
 | .tmp t=>some (.r t)
 | .const v=>(mj v).map .c
 | .func f=>some (.c (.fn f []))
 | .global _=>none
def fE:List Operand→Option (List X)
 | []=>some []
 | x :: xs=>match aK x,fE xs with
  | some y,some ys=>some (y :: ys)
  | _,_=>none
def jz:Option Operand→Option (Option X)
 | none=>some none
 | some x=>(aK x).map some
def mq:List (Nat×Operand)→Option (List (Nat×X))
 | []=>some []
 | (i,x) :: xs=>match aK x,mq xs with
  | some y,some ys=>some ((i,y) :: ys)
  | _,_=>none
def ty1:TypeDesc→Option vo
 | .int _=>some .int
 | .string=>some .str
 | .bool=>some .bool
 | _=>none
def kinds (P:Program):List Field→Option (List vo)
 | []=>some []
 | f :: fs=>match (P.underlying f.type).bind ty1,kinds P fs with
  | some k,some ks=>some (k :: ks)
  | _,_=>none
def uo (P:Program)(ty:TypeId):Option KT :=
 match P.underlying ty with
 | some (.struct fs)=>(kinds P fs.toList).map .st
 | some d=>(ty1 d).map .sc
 | none=>none
def zeroOf (P:Program)(ty:TypeId):Option (List T) :=
 match P.info? ty with
 | some i=>match i.zero with
  | some zv=>eM zv.cells.toList
  | none=>none
 | none=>none
def isEq:BinOp→Option Bool
 | .eql=>some false
 | .neq=>some true
 | _=>none
def cls:TypeDesc→Option HI
 | .pointer _=>some .ptr
 | .slice _=>some .slice
 | .map _ _=>some .map
 | .func _ _ _=>some .func
 | _=>none
def De (P:Program)(op:BinOp)(ty:TypeId)(x y:X):Option Bo :=
 match P.underlying ty with
 | some (.int _)|some .string=>some (.bin op x y)
 | some .bool=>(isEq op).map fun n=>.beq n x y
 | some (.struct fs)=>match isEq op,kinds P fs.toList with
  | some n,some ks=>if flat P fs.toList 0 ks&&!P.stoodInHeld ty&&!P.eqGuardType P.depth ty then some (.eqs n ks x y)else none
  | _,_=>none
 | some d=>match isEq op,cls d with
  | some n,some c=>some (.mP n c x y)
  | _,_=>none
 | none=>none
def sM (P:Program)(ty:TypeId)(x:X):Option Bo :=
 match P.underlying ty,P.info? ty with
 | some d,some i=>some (.ld (if dU d then i.size else 1) (dU d) x)
 | _,_=>none
def mr (P:Program)(ty:TypeId)(x:X)(f:Nat)(ad:Bool):Option Bo :=
 match P.underlying ty with
 | some (.struct fs)=>match fs[f]? with
  | some f=>match P.underlying f.type,P.info? f.type with
   | some d,some i=>if ad then(if i.size=0 then none else some (.oa f.offset x))else some (.P6 f.offset i.size (dU d) x)
   | _,_=>none
  | none=>none
 | _=>none
def xZ (P:Program)(ty:TypeId)(x i:X)(ad:Bool):Option Bo :=
 match P.underlying ty,ad with
 | some (.slice e),true=>(P.info? e).map fun ei=>.fc ei.size x i
 | some (.array n e),true=>(P.info? e).map fun ei=>.L8 n ei.size x i
 | some .string,false=>some (.P7 x i)
 | some (.array n e),false=>match P.info? e,P.underlying e with
  | some ei,some d=>some (.UR n ei.size (dU d) x i)
  | _,_=>none
 | _,_=>none
def ou (P:Program)(ty:TypeId)(x:X)(lo hi mx:Option X):Option Bo :=
 match P.underlying ty with
 | some .string=>if mx.isSome then none else some (.P8 x lo hi)
 | some (.slice e)=>match P.info? e with
  | some ei=>if mx.isSome&&hi.isNone then none else some (.gm ei.size x lo hi mx)
  | none=>none
 | _=>none
def sN (P:Program)(src dst:TypeId)(x:X):Option Bo :=
 match P.underlying src,P.underlying dst with
 | some (.int _),some (.int k)=>some (.hU k x)
 | some .string,some .string=>none
 | some (.slice e),some .string=>match P.underlying e with
  | some (.int .u8)=>some (.CH x)
  | _=>none
 | _,_=>none
def Df:TypeDesc→Bool
 | .int _=>false
 | _=>true
def lq (P:Program)(mu:Bool)(iw:List TypeId)(as:List X):Option Bo :=
 match iw,as with
 | [sT,xT],[x,y]=>match P.underlying sT,P.underlying xT with
  | some (.slice e),some d=>match P.info? e with
   | some ei=>match ei.zero with
    | some zv=>if Df d&&zv.cells.size==ei.size&&ei.bytes != 0 then some (.app ei.size ei.bytes mu x y)else none
    | none=>none
   | none=>none
  | _,_=>none
 | _,_=>none
def vV (P:Program)(iw:List TypeId)(as:List X):Option Bo :=
 match iw,as with
 | [sT,xT],[x,k]=>match P.underlying sT,P.underlying xT with
  | some (.slice e),some (.int _)=>match P.info? e,zeroOf P e with
   | some ei,some z=>if ei.bytes != 0 then some (.P9 ei.size ei.bytes z x k)else none
   | _,_=>none
  | _,_=>none
 | _,_=>none
def jh (P:Program)(mu:Bool)(b:Builtin)(iw:List TypeId)(as:List X):Option Bo :=
 match b,iw,as with
 | .append,iw,as=>match vV P iw as with
  | some b=>some b
  | none=>lq P mu iw as
 | .cap,[t],[x]=>match P.underlying t with
  | some (.slice _)=>some (.cap x)
  | _=>none
 | .copy,[dT,_],[x,y]=>match P.underlying dT with
  | some (.slice e)=>(P.info? e).map fun ei=>.AR ei.size x y
  | _=>none
 | .len,[t],[x]=>match P.underlying t with
  | some .string=>some (.len .str x)
  | some (.slice _)=>some (.len .sl x)
  | some (.map _ _)=>some (.len .map x)
  | _=>none
 | .clear,[t],[x]=>match P.underlying t with
  | some (.slice e)=>match P.info? e,zeroOf P e with
   | some ei,some z=>some (.Ps ei.size z x)
   | _,_=>none
  | _=>none
 | .min,_,[x,y]=>some (.mn x y)
 | .max,_,[x,y]=>some (.mx x y)
 | .delete,[t,_],[m,k]=>match P.underlying t with
  | some (.map key _)=>match uo P key with
   | some kt=>if mm P key kt then some (.del kt m k)else none
   | none=>none
  | _=>none
 | _,_,_=>none
def x0 (P:Program)(ty:TypeId)(m k:X):Option (Nat×KT×T) :=
 match P.underlying ty with
 | some (.map key e)=>match uo P key,P.info? e with
  | some kt,some ei=>match ei.zero with
   | some zv=>match mj zv with
    | some z=>if mm P key kt then some (e,kt,z)else none
    | none=>none
   | none=>none
  | _,_=>none
 | _=>none
def vW (P:Program)(fs:List Field):Bool:=fs.all fun f=>(P.info? f.type).isSome
def ov (P:Program)(ty:TypeId)(ps:List (Nat×X)):Option Bo :=
 match P.underlying ty,zeroOf P ty with
 | some (.struct fs),some z=>if vW P fs.toList&&ps.all (fun p=>p.1<fs.size)then
   some (.build z (ps.map fun p=>((((placesOf P fs.toList)[p.1]?).getD (0,0)).1,(((placesOf P fs.toList)[p.1]?).getD (0,0)).2,p.2)))else none
 | _,_=>none
def Bl (P:Program)(mu:Bool)(ty:TypeId)(n:Nat)(ps:List (Nat×X)):Option Bo :=
 match P.underlying ty with
 | some (.slice e)=>match P.info? e,zeroOf P e with
  | some ei,some z=>if z.length==ei.size&&decide (n*ei.size≤16777216)then some (if mu then .Pt n z ps else .o8 n z ps)else none
  | _,_=>none
 | _=>none
def Bm (P:Program)(mu:Bool)(ty:TypeId)(l c:X):Option Bo :=
 match P.underlying ty with
 | some (.slice e)=>match P.info? e,zeroOf P e with
  | some ei,some z=>if z.length==ei.size&&ei.size != 0 then some (.VQ mu ei.bytes z l c)else none
  | _,_=>none
 | _=>none
def KU (n:String):Bool:=(Extern.allGenericRows.lookup n).isNone&&(Extern.allTypedRows.lookup n).isNone&&(Extern.allRows.lookup n).isNone
def zs (P:Program)(f:FuncId):Option Nat :=
 match P.funcs[f]? with
 | some fn=>match fn.params[0]? with
  | some t=>match P.underlying t with
   | some (.slice e)=>match P.info? e with
    | some ei=>if fn.name != "runtime.NumGoroutine"&&fn.body.isNone&&(Extern.findNext fn).isNone&&fn.origin=="slices.overlaps"&&KU fn.name then some ei.size else none
    | none=>none
   | _=>none
  | none=>none
 | none=>none
def bE (P:Program)(mu:Bool):Op→Option Bo
 | .move x | .assign x=>(aK x).map .aw
 | .pick c a b=>match aK c,aK a,aK b with
  | some c,some a,some b=>some (.pick c a b)
  | _,_,_=>none
 | .binOp op ty x y _=>match aK x,aK y with
  | some x,some y=>De P op ty x y
  | _,_=>none
 | .unOp op _ x=>(aK x).map (.un op)
 | .convert s d x=>(aK x).bind (sN P s d)
 | .alloc ty=>(zeroOf P ty).map .alloc
 | .box _ x=>(aK x).map .box
 | .build ty ps=>(mq ps.toList).bind (ov P ty)
 | .buildSlice ty n ps=>(mq ps.toList).bind (Bl P mu ty n)
 | .load ty x=>(aK x).bind (sM P ty)
 | .store ty a v=>match P.info? ty,aK a,aK v with
  | some i,some a,some v=>some (.st i.size a v)
  | _,_,_=>none
 | .fieldAddr ty x f=>(aK x).bind fun x=>mr P ty x f true
 | .field ty x f=>(aK x).bind fun x=>mr P ty x f false
 | .indexAddr ty x i=>match aK x,aK i with
  | some x,some i=>xZ P ty x i true
  | _,_=>none
 | .index ty x i=>match aK x,aK i with
  | some x,some i=>xZ P ty x i false
  | _,_=>none
 | .slice ty x lo hi mx=>match aK x,jz lo,jz hi,jz mx with
  | some x,some lo,some hi,some mx=>ou P ty x lo hi mx
  | _,_,_,_=>none
 | .makeMap _ none=>some .zd
 | .lookup ty m k ok=>match aK m,aK k with
  | some m,some k=>(x0 P ty m k).map fun (_,kt,z)=>.mW kt z ok m k
  | _,_=>none
 | .mapUpdate ty m k v | .insert ty m k v=>match aK m,aK k,aK v with
  | some m,some k,some v=>(x0 P ty m k).map fun (_,kt,_)=>.ze kt m k v
  | _,_,_=>none
 | .makeSlice ty l c=>match aK l,aK c with
  | some l,some c=>Bm P mu ty l c
  | _,_=>none
 | .makeFunc (.func f) first ke=>if first.size=0 then(fE ke.toList).map (.HJ f)else none
 | .extract x i=>(aK x).map (.ext i)
 | .nilCheck x=>(aK x).map .tV
 | .range ty m=>match P.underlying ty with
  | some (.map _ _)=>(aK m).map .L9
  | _=>none
 | .next it false=>(aK it).map .pI
 | .entry it=>(aK it).map .Ma
 | .call { callee:=.value (.func f),args,.. }=>match zs P f,fE args.toList with
  | some n,some [x,y]=>some (.Pr n x y)
  | _,_=>none
 | .call { callee:=.builtin b,args,argTypes }=>(fE args.toList).bind (jh P mu b argTypes.toList)
 | _=>none
def IL (P:Program)(w0:World)(g:Ctx)(H:af)(w:World)(s:Sem Next)(t:T)(H':af):Prop :=
 ∃nx v w' g',s.run P w=.ok nx w'∧(nx=.value v∨(nx=.skip∧v=undef))∧Le g w g' w'∧SR w0 g' H' w'∧VR g' w' t v∧Fr g H g' H'
theorem b6.mS {P:Program}{w0 w:World}{g:Ctx}{H H':af}{s:Sem Value}{t:T}(h:b6 P w0 g H w s t H'):IL P w0 g H w (do pure (.value (←s))) t H':=by
 obtain⟨v,w',g',h1,h2⟩:=h
 exact⟨.value v,v,w',g',by simp[h1],.inl rfl,h2⟩
theorem gP {g:Ctx}{w:World}:VR g w bX undef:=.bN rfl (by simp)
section
variable {P:Program} {w0 w:World} {g:Ctx} {H:af} {R:ar} {ρ:Operand→Value}
def RV (g:Ctx)(w:World)(R:ar)(ρ:Operand→Value)(xs:List Operand):Prop:=∀x∈xs,∀y,aK x=some y→VR g w (y.ev R) (ρ x)
theorem fF:∀(xs:List Operand) (ys:List X),fE xs=some ys→RV g w R ρ xs→bD g w (ys.map (X.ev R)) (xs.map ρ)
 | [],ys,h,_=>by simp[fE]at h;subst h;exact bD.nil
 | x :: xs,ys,h,hv=>by
  simp only[fE]at h
  cases h1:aK x with
  | none=>simp[h1]at h
  | some y =>
   cases h2:fE xs with
   | none=>simp[h1,h2]at h
   | some ys' =>
    simp[h1,h2]at h;subst h
    exact bD.cons (hv x (by simp) y h1) (fF xs ys' h2 (fun z hz=>hv z (by simp[hz])))
theorem oA:∀(ps:List (Nat×Operand)) (qs:List (Nat×X)),mq ps=some qs→RV g w R ρ (ps.map (·.2))→PV g w R qs (ps.map fun p=>(p.1,ρ p.2))
 | [],qs,h,_=>by simp[mq]at h;subst h;exact .nil
 | (i,x) :: ps,qs,h,hv=>by
  simp only[mq]at h
  cases h1:aK x with
  | none=>simp[h1]at h
  | some y =>
   cases h2:mq ps with
   | none=>simp[h1,h2]at h
   | some qs' =>
    simp[h1,h2]at h;subst h
    exact .cons (hv x (by simp) y h1) (oA ps qs' h2 (fun z hz=>hv z (by simp at hz ⊢;exact .inr hz)))
end
section
variable {P:Program} {w0 w:World} {g:Ctx} {H H':af} {R:ar} {ρ:Operand→Value} {t:T}
theorem IM {op:BinOp}{ty:TypeId}{ox oy:Operand}{x y:X}{b:Bo}(hc:De P op ty x y=some b)(h:SR w0 g H w)(hx:VR g w (x.ev R) (ρ ox))(hy:VR g w (y.ev R) (ρ oy))(he:ak R H b=some (t,H')) :
  IL P w0 g H w (do pure (Next.value (←(do eqGuard op ty ox oy (ρ ox) (ρ oy);binOp op ty (ρ ox) (ρ oy))))) t H':=by
 refine b6.mS ?_
 unfold De at hc
 cases hu:P.underlying ty with
 | none=>simp[hu]at hc
 | some d =>
  rw[hu]at hc
  have heq:∀n,isEq op=some n→op=if n then .neq else .eql:=by
   intro n hn;cases op<;>simp[isEq]at hn<;>subst hn<;>rfl
  have bin:b=.bin op x y→b6 P w0 g H w (do eqGuard op ty ox oy (ρ ox) (ρ oy);binOp op ty (ρ ox) (ρ oy)) t H':=by
   rintro rfl
   simp only[ak,Option.map_eq_some_iff,Prod.mk.injEq]at he
   obtain⟨t',h1,rfl,rfl⟩:=he
   exact HN h hx hy h1
  have ref:(∃n c,isEq op=some n∧cls d=some c∧b=.mP n c x y)→b6 P w0 g H w (do eqGuard op ty ox oy (ρ ox) (ρ oy);binOp op ty (ρ ox) (ρ oy)) t H':=by
   rintro⟨n,c,h1,h2,rfl⟩
   simp only[ak,Option.map_eq_some_iff,Prod.mk.injEq]at he
   obtain⟨r,h3,rfl,rfl⟩:=he
   rw[heq n h1]
   exact HP hu (by cases d<;>simp[cls]at h2<;>subst h2<;>rfl) h hx hy h3
  have oB:(match isEq op,cls d with|some n,some c=>some (Bo.mP n c x y)|_,_=>none)=some b→(∃n c,isEq op=some n∧cls d=some c∧b=.mP n c x y):=by
   intro hh
   cases h1:isEq op with
   | none=>simp[h1]at hh
   | some n =>
    cases h2:cls d with
    | none=>simp[h1,h2]at hh
    | some c=>simp[h1,h2]at hh;exact⟨n,c,rfl,rfl,hh.symm⟩
  cases d with
  | int k=>simp at hc;exact bin hc.symm
  | string=>simp at hc;exact bin hc.symm
  | bool =>
   simp only[Option.map_eq_some_iff]at hc
   obtain⟨n,h1,rfl⟩:=hc
   simp only[ak]at he
   rw[heq n h1]
   generalize x.ev R=tx at hx he
   generalize y.ev R=MF at hy he
   cases tx<;>cases MF<;>simp at he
   obtain⟨rfl,rfl⟩:=he
   exact HO hu h hx hy
  | struct fs =>
   cases h1:isEq op with
   | none=>simp[h1]at hc
   | some n =>
    cases h2:kinds P fs.toList with
    | none=>simp[h1,h2]at hc
    | some ks =>
     simp only[h1,h2]at hc
     split at hc
     ·rename_i cD
      simp only[Bool.and_eq_true,Bool.not_eq_true']at cD
      simp at hc;subst hc
      simp only[ak]at he
      rw[heq n h1]
      generalize x.ev R=tx at hx he
      generalize y.ev R=MF at hy he
      cases tx<;>cases MF<;>(try simp only[reduceCtorEq]at he)
      split at he
      ·rename_i hk
       simp only[Option.map_eq_some_iff,Prod.mk.injEq]at he
       obtain⟨r,h3,rfl,rfl⟩:=he
       exact HQ hu cD.1.1 cD.1.2 cD.2 h hx hy hk h3
      ·cases he
     ·cases hc
  | pointer _=>exact ref (oB hc)
  | slice _=>exact ref (oB hc)
  | map _ _=>exact ref (oB hc)
  | func _ _ _=>exact ref (oB hc)
  | invalid=>exact ref (oB hc)
  | float _=>exact ref (oB hc)
  | complex _=>exact ref (oB hc)
  | unsafePointer=>exact ref (oB hc)
  | array _ _=>exact ref (oB hc)
  | chan _ _=>exact ref (oB hc)
  | interface _=>exact ref (oB hc)
  | tuple _=>exact ref (oB hc)
  | named _ _=>exact ref (oB hc)
theorem Dg {ty:TypeId}{v:Value}{x:X}{b:Bo}(hc:sM P ty x=some b)(h:SR w0 g H w)(hx:VR g w (x.ev R) v)(he:ak R H b=some (t,H')):IL P w0 g H w (do pure (Next.value (←Instr.loadAt ty v))) t H':=by
 refine b6.mS ?_
 unfold sM at hc
 cases hu:P.underlying ty with
 | none=>simp[hu]at hc
 | some d =>
  cases hi:P.info? ty with
  | none=>simp[hu,hi]at hc
  | some i =>
   simp only[hu,hi,Option.some.injEq]at hc
   subst hc
   simp only[ak]at he
   cases hl:pr H (if dU d then i.size else 1) (x.ev R)with
   | none=>simp[hl]at he
   | some cs =>
    simp only[hl,Option.map_eq_some_iff,Prod.mk.injEq]at he
    obtain⟨t',h1,rfl,rfl⟩:=he
    exact Mg hu hi rfl (fun e=>by rw[if_pos e]) h hx hl h1
theorem sO {ty:TypeId}{v:Value}{x:X}{f:Nat}{ad:Bool}{b:Bo}(hc:mr P ty x f ad=some b)(h:SR w0 g H w)(hx:VR g w (x.ev R) v)(he:ak R H b=some (t,H')) :
  b6 P w0 g H w (if ad then Instr.fieldAt ty v f else Instr.field ty v f) t H':=by
 unfold mr at hc
 cases hu:P.underlying ty with
 | none=>simp[hu]at hc
 | some d =>
  cases d<;>simp only[hu]at hc<;>(try (cases hc;done))
  rename_i fs
  cases hf:fs[f]? with
  | none=>simp[hf]at hc
  | some fl =>
   simp only[hf]at hc
   cases hd:P.underlying fl.type with
   | none=>simp[hd]at hc
   | some d =>
    cases hi:P.info? fl.type with
    | none=>simp[hd,hi]at hc
    | some i =>
     simp only[hd,hi]at hc
     cases ad with
     | true =>
      simp only[if_true]at hc
      split at hc
      ·cases hc
      ·rename_i hz
       simp at hc;subst hc
       simp only[ak]at he
       simp only[Option.map_eq_some_iff,Prod.mk.injEq]at he
       obtain⟨t',h1,rfl,rfl⟩:=he
       exact HU hu hf hi hz h hx h1
     | false =>
      simp only[Bool.false_eq_true,if_false,Option.some.injEq]at hc
      subst hc
      simp only[ak]at he
      generalize x.ev R=tx at hx he
      cases tx<;>(try simp only[reduceCtorEq]at he)
      rename_i cs
      split at he
      ·rename_i hle
       simp only[Option.map_eq_some_iff,Prod.mk.injEq]at he
       obtain⟨t',h1,rfl,rfl⟩:=he
       exact HV hu hf hd hi rfl h hx hle h1
      ·cases he
theorem zt {ty:TypeId}{v vi:Value}{x i:X}{ad:Bool}{b:Bo}(hc:xZ P ty x i ad=some b)(h:SR w0 g H w)(hx:VR g w (x.ev R) v)(hi:VR g w (i.ev R) vi)(he:ak R H b=some (t,H')) :
  b6 P w0 g H w (if ad then Instr.indexAt ty v vi else Instr.index ty v vi) t H':=by
 unfold xZ at hc
 cases hu:P.underlying ty with
 | none=>simp[hu]at hc
 | some d =>
  cases d<;>cases ad<;>simp only[hu]at hc<;>(try (cases hc;done))
  ·-- string
   simp at hc;subst hc
   simp only[ak]at he
   generalize x.ev R=tx at hx he
   cases tx<;>(try simp only[reduceCtorEq]at he)
   cases hn:cj (i.ev R)with
   | none=>simp[hn]at he
   | some n =>
    simp only[hn,Option.map_eq_some_iff,Prod.mk.injEq]at he
    obtain⟨c,h1,rfl,rfl⟩:=he
    exact HY hu h hx hi hn h1
  ·-- slice
   rename_i e
   cases sd:P.info? e with
   | none=>simp[sd]at hc
   | some ei =>
    simp[sd]at hc;subst hc
    simp only[ak]at he
    simp only[Option.bind_eq_some_iff,Option.map_eq_some_iff,Prod.mk.injEq]at he
    obtain⟨n,h1,t',h2,rfl,rfl⟩:=he
    exact HW hu sd h hx hi h1 h2
  ·-- IP value
   rename_i n e
   cases sd:P.info? e with
   | none=>simp[sd]at hc
   | some ei =>
    cases MG:P.underlying e with
    | none=>simp[sd,MG]at hc
    | some d =>
     simp[sd,MG]at hc;subst hc
     simp only[ak]at he
     generalize x.ev R=tx at hx he
     cases tx<;>(try simp only[reduceCtorEq]at he)
     cases hn:cj (i.ev R)with
     | none=>simp[hn]at he
     | some m =>
      simp only[hn]at he
      split at he
      ·rename_i ig
       simp only[Option.map_eq_some_iff,Prod.mk.injEq]at he
       obtain⟨t',h1,rfl,rfl⟩:=he
       exact HZ hu MG sd rfl h hx hi hn ig.1 ig.2 h1
      ·cases he
  ·-- IP address
   rename_i n e
   cases sd:P.info? e with
   | none=>simp[sd]at hc
   | some ei =>
    simp[sd]at hc;subst hc
    simp only[ak]at he
    generalize x.ev R=tx at hx he
    cases tx<;>(try simp only[reduceCtorEq]at he)
    cases hn:cj (i.ev R)with
    | none=>simp[hn]at he
    | some m =>
     simp only[hn]at he
     split at he
     ·rename_i ax
      simp at he
      obtain⟨rfl,rfl⟩:=he
      exact HX hu sd h hx hi hn ax
     ·cases he
theorem oC {x:Option Operand}{y:Option X}(h:jz x=some y)(hv:RV g w R ρ x.toList):OV g w R y (x.map ρ):=by
 cases x with
 | none=>simp[jz]at h;subst h;trivial
 | some x =>
  simp only[jz,Option.map_eq_some_iff]at h
  obtain⟨y',h1,rfl⟩:=h
  exact hv x (by simp) y' h1
theorem Bn {ty:TypeId}{v:Value}{x:X}{lo hi mx:Option X}{kf mQ MH:Option Value}{b:Bo}(hc:ou P ty x lo hi mx=some b)(h:SR w0 g H w)(hx:VR g w (x.ev R) v)(nZ:OV g w R lo kf)(zu:OV g w R hi mQ)(PF:OV g w R mx MH)
  (he:ak R H b=some (t,H')):IL P w0 g H w (do pure (Next.value (←Instr.sliceAt ty v kf mQ MH))) t H':=by
 refine b6.mS ?_
 unfold ou at hc
 cases hu:P.underlying ty with
 | none=>simp[hu]at hc
 | some d =>
  cases d<;>simp only[hu]at hc<;>(try (cases hc;done))
  ·-- string
   cases mx with
   | some _=>simp at hc
   | none =>
    cases MH with
    | some _=>exact PF.elim
    | none =>
     simp at hc;subst hc
     simp only[ak]at he
     generalize x.ev R=tx at hx he
     cases tx<;>(try simp only[reduceCtorEq]at he)
     rename_i s
     cases hl:gg R 0 lo with
     | none=>simp[hl]at he
     | some l =>
      cases hh:gg R s.size hi with
      | none=>simp[hl,hh]at he
      | some r =>
       simp only[hl,hh]at he
       split at he
       ·rename_i ig
        simp at he
        obtain⟨rfl,rfl⟩:=he
        exact Ia hu h hx nZ zu hl hh ig.1 ig.2
       ·cases he
  ·-- slice
   rename_i e
   cases sd:P.info? e with
   | none=>simp[sd]at hc
   | some ei =>
    simp only[sd]at hc
    split at hc
    ·cases hc
    ·rename_i hmh
     simp at hc;subst hc
     simp only[ak]at he
     generalize x.ev R=tx at hx he
     cases tx<;>(try simp only[reduceCtorEq]at he)
     ·rename_i k es
      cases hl:gg R 0 lo with
      | none=>simp[hl]at he
      | some l =>
       cases hh:gg R es.length hi with
       | none=>simp[hl,hh]at he
       | some r =>
        simp only[hl,hh]at he
        cases mx with
        | none =>
         cases MH with
         | some _=>exact PF.elim
         | none =>
          simp only at he
          split at he
          ·rename_i ig
           simp at he
           obtain⟨rfl,rfl⟩:=he
           exact Ib hu sd h hx nZ zu hl hh ig.1 ig.2.1 ig.2.2
          ·cases he
        | some m =>
         cases MH with
         | none=>exact PF.elim
         | some vm =>
          cases hi with
          | none=>simp at hmh
          | some hi =>
           cases mQ with
           | none=>exact zu.elim
           | some vh =>
            simp only at he
            cases hm:cj (m.ev R)with
            | none=>simp[hm]at he
            | some m' =>
             simp only[hm]at he
             split at he
             ·rename_i ig
              simp only[Option.some.injEq,Prod.mk.injEq]at he
              obtain⟨rfl,rfl⟩:=he
              exact CX hu sd h hx nZ zu PF hl hh hm ig.1 ig.2.1 ig.2.2.1 ig.2.2.2
             ·cases he
     ·rename_i bb off len n'
      cases hl:gg R 0 lo with
      | none=>simp[hl]at he
      | some l =>
       cases hh:gg R len hi with
       | none=>simp[hl,hh]at he
       | some r =>
        simp only[hl,hh]at he
        cases mx with
        | some _=>simp at he
        | none =>
         cases MH with
         | some _=>exact PF.elim
         | none =>
          simp only at he
          split at he
          ·rename_i ig
           obtain⟨rfl,h1,h2⟩:=ig
           simp only[Option.some.injEq,Prod.mk.injEq]at he
           obtain⟨rfl,rfl⟩:=he
           exact CY hu sd h hx nZ zu hl hh h1 h2
          ·cases he
     ·rename_i bb off len n' cc
      cases hl:gg R 0 lo with
      | none=>simp[hl]at he
      | some l =>
       cases hh:gg R len hi with
       | none=>simp[hl,hh]at he
       | some r =>
        simp only[hl,hh]at he
        cases mx with
        | some _=>simp at he
        | none =>
         cases MH with
         | some _=>exact PF.elim
         | none =>
          simp only at he
          split at he
          ·rename_i ig
           obtain⟨rfl,h1,h2⟩:=ig
           simp only[Option.some.injEq,Prod.mk.injEq]at he
           obtain⟨rfl,rfl⟩:=he
           exact CZ hu sd h hx nZ zu hl hh h1 h2
          ·cases he
theorem Dh {src dst:TypeId}{v:Value}{x:X}{b:Bo}(hc:sN P src dst x=some b)(h:SR w0 g H w)(hx:VR g w (x.ev R) v)(he:ak R H b=some (t,H')):IL P w0 g H w (do pure (Next.value (←convert src dst v))) t H':=by
 refine b6.mS ?_
 unfold sN at hc
 cases hs:P.underlying src with
 | none=>simp[hs]at hc
 | some ds =>
  cases hd:P.underlying dst with
  | none=>simp[hs,hd]at hc
  | some dd =>
   rw[hs,hd]at hc
   cases ds<;>cases dd<;>simp only[reduceCtorEq]at hc
   ·rename_i k0 k
    simp at hc;subst hc
    simp only[ak]at he
    generalize x.ev R=tx at hx he
    cases tx<;>simp at he
    obtain⟨rfl,rfl⟩:=he
    exact HR hs hd h hx
   ·rename_i e
    cases hu:P.underlying e with
    | none=>simp[hu]at hc
    | some d =>
     have QC:d=.int .u8∧b=.CH x:=by
      rw[hu]at hc
      cases d with
      | int k=>cases k<;>simp at hc;exact⟨rfl,hc.symm⟩
      | _=>simp at hc
     obtain⟨rfl,rfl⟩:=QC
     simp only[ak]at he
     cases hJ:bK H 1 (x.ev R)with
     | none=>simp[hJ]at he
     | some es =>
      have CW:∀s,x.ev R≠.str s:=by
       intro s e;simp only[e]at he;split at he<;>cases he
      have Cr:(bytesOf es).map (fun l=>(T.str ⟨l.toArray⟩,H))=some (t,H'):=by
       simp only[hJ]at he
       generalize x.ev R=tx at he CW
       cases tx<;>first|exact he|exact absurd rfl (CW _)
      simp only[Option.map_eq_some_iff,Prod.mk.injEq]at Cr
      obtain⟨l,h1,rfl,rfl⟩:=Cr
      exact HT hs hu hd h hx hJ CW h1
end
end Go.Rmp
end
