/- Part of a proof of a law of this seat: the machine of plain values, its simulation, and the contracts of the functions that the law reaches. Conditions: none beyond the given row. -/
import Derived.OrdersIn
import Derived.RangeFuncIn
import Derived.Laws.Sem
import Derived.Laws.World
import Derived.Laws.IdiomCopy
import Derived.ChangeKeysEq
import Derived.Laws.StructEq
import Derived.Laws.BytesString
import Derived.IntWalk
import Derived.Lib.AppendZerosOnto
import Derived.Lib.Overlaps
import Derived.Maps.RangeRun
import Derived.RangeFuncRecord
open Int renaming reduceLT → q3, reduceLE → q4, reduceBEq → q5, reduceBNe → q6, reduceEq → q7
open Nat renaming reduceAdd → q8, reduceLeDiff → q9, reduceLT → j1, reduceEqDiff → j2
set_option linter.unusedSimpArgs false
set_option linter.unusedVariables false
set_option linter.unnecessarySimpa false
set_option maxHeartbeats 4000000
section
namespace Go.Rmp
inductive SK where
 | nil|arg|full|own (t e:Nat)
 deriving DecidableEq
inductive T where
 | int (k:IntKind) (n:Int)
 | bool (b:Bool)
 | str (s:ByteArray)
 | b0
 | ptr (b off:Nat)
 | cP (cs:List T)
 | gk
 | map (b:Nat)
 | sl (k:SK) (es:List (List T))
 | ax (b off len n:Nat)
 | dS (b off len n c:Nat)
 | mq
 | fn (f:Nat) (ku:List T)
 | mR (b:Nat)
 | gl
 | agg (cs:List T)
 | bF (vs:List T)
abbrev ar:=Nat→T
def bX:T:=.bF []
def T.one:T→Bool
 | .agg _ | .bF _=>false
 | _=>true
def T.cells?:T→Option (List T)
 | .agg cs=>some cs
 | .bF _=>none
 | v=>some [v]
def T.erase:T→T
 | .sl _ es=>.sl .arg es
 | v=>v
inductive X where
 | r (t:Nat)
 | c (v:T)
def X.ev (R:ar):X→T
 | .r t=>R t
 | .c v=>v
def nX (R:ar)(d:Nat)(v:T):ar:=fun t=>if t=d then v else R t
def bu (R:ar)(d:Option Nat)(v:T):ar:=match d with|some d=>nX R d v|none=>R
inductive HC where|ptr|slice|map|func
 deriving DecidableEq
inductive Lc where|str|sl|map
inductive vg where|int|str|bool
 deriving DecidableEq
inductive KT where
 | sc (t:vg)
 | st (l:List vg)
def T.xL:vg→T→Bool
 | .int,.int _ _ | .str,.str _ | .bool,.bool _=>true
 | _,_=>false
def fk:List vg→List T→Bool
 | [],[]=>true
 | t :: ts,v :: vs=>v.xL t&&fk ts vs
 | _,_=>false
def T.iP:KT→T→Bool
 | .sc t,v=>v.xL t
 | .st l,.agg cs=>fk l cs
 | _,_=>false
inductive Bo where
 | av (x:X)
 | pick (c a b:X)
 | bin (op:BinOp) (x y:X)
 | mS (neg:Bool) (c:HC) (x y:X)
 | beq (neg:Bool) (x y:X)
 | eqs (neg:Bool) (ks:List vg) (x y:X)
 | un (op:UnOp) (x:X)
 | iX (k:IntKind) (x:X)
 | AM (x:X)
 | cvb (x:X)
 | len (k:Lc) (x:X)
 | alloc (z:List T)
 | box (x:X)
 | build (z:List T) (ps:List (Nat×Nat×X))
 | nY (n:Nat) (z:List T) (ps:List (Nat×X))
 | ld (n:Nat) (ag:Bool) (x:X)
 | st (n:Nat) (a v:X)
 | jZ (off:Nat) (x:X)
 | P2 (off n:Nat) (ag:Bool) (x:X)
 | eR (st:Nat) (x i:X)
 | L0 (n st:Nat) (x i:X)
 | P3 (x i:X)
 | UO (n st:Nat) (ag:Bool) (x i:X)
 | P4 (x:X) (lo hi:Option X)
 | gp (st:Nat) (x:X) (lo hi mx:Option X)
 | zd
 | mT (kt:KT) (z:T) (ok:Bool) (m k:X)
 | ze (kt:KT) (m k v:X)
 | del (kt:KT) (m k:X)
 | app (st bytes:Nat) (mu:Bool) (x y:X)
 | VO (mu:Bool) (bytes:Nat) (z:List T) (l c:X)
 | HD (f:Nat) (ku:List X)
 | ext (i:Nat) (x:X)
 | mn (x y:X)
 | mx (x y:X)
 | tQ (x:X)
 | cap (x:X)
 | AN (n:Nat) (x y:X)
 | Po (n:Nat) (x y:X)
 | L1 (x:X)
 | pD (x:X)
 | L3 (x:X)
 | Pp (n:Nat) (z:List T) (x:X)
 | P5 (n bytes:Nat) (z:List T) (x k:X)
 | Pq (n:Nat) (z:List T) (ps:List (Nat×X))
abbrev Gd:=Option (Nat×Bool)
structure Rd where
 d:Nat
 op:Bo
 g:Gd
inductive KG where
 | b (op:Bo)
 | call (f:Nat) (as:List X)
 | bA (f:X) (as:List X)
structure O where
 d:Option Nat
 op:KG
 g:Gd
 AO:List Rd
inductive C where
 | skip
 | ops (l:List O)
 | seq (a b:C)
 | cond (x:X) (a b:C)
 | block (id:Nat) (a:C)
 | loop (a:C)
 | exit (id:Nat)
 | ret
 | cJ (n:Nat) (x:X) (ps:List Nat) (bZ body:C)
inductive Ex where
 | normal|exit (id:Nat)|ret
inductive L4 where
 | ready|busy|done
 deriving DecidableEq
inductive B where
 | cells (cs:List T)
 | map (es:List (T×T))
 | tok (e:Nat)
 | loop (st:L4) (fz:Option Ex) (n:Nat) (R:Nat→T) (ps:List Nat) (bZ body:C)
 | zf
 | dead
 /-- a map that is ranged over: the places still to come;the range's block;the place last told -/
 | cQ (es:List (T×T)) (ix:List Nat) (bi:Nat) (cur:Option Nat)
 | tR (b:Nat)
abbrev af:=List B
def jc (a b:ByteArray):Bool:=a.toList==b.toList
def strLt (a b:ByteArray):Bool:=Op.bytesLess a.toList b.toList
def cH (op:BinOp):T→T→Option T
 | .int k a,.int k' b =>
  match op with
  | .shl=>if b<0 then none else some (.int k (k.wrap (a*2^(min b.toNat k.bits))))
  | .shr=>if b<0 then none else some (.int k (a.fdiv (2^(min b.toNat k.bits))))
  | op =>
   if k=k' then
    match op with
    | .add=>some (.int k (k.wrap (a+b)))
    | .sub=>some (.int k (k.wrap (a-b)))
    | .mul=>some (.int k (k.wrap (a*b)))
    | .quo=>if b=0 then none else some (.int k (k.wrap (a.tdiv b)))
    | .rem=>if b=0 then none else some (.int k (a.tmod b))
    | .and=>some (.int k (k.wrap (BitVec.ofInt k.bits a &&& BitVec.ofInt k.bits b).toNat))
    | .or=>some (.int k (k.wrap (BitVec.ofInt k.bits a ||| BitVec.ofInt k.bits b).toNat))
    | .xor=>some (.int k (k.wrap (BitVec.ofInt k.bits a ^^^ BitVec.ofInt k.bits b).toNat))
    | .andNot=>some (.int k (k.wrap (BitVec.ofInt k.bits a &&& ~~~ BitVec.ofInt k.bits b).toNat))
    | .eql=>some (.bool (a==b))
    | .neq=>some (.bool (a != b))
    | .lss=>some (.bool (a<b))
    | .leq=>some (.bool (a≤b))
    | .gtr=>some (.bool (a>b))
    | .geq=>some (.bool (a≥b))
    | _=>none
   else none
 | .str a,.str b =>
  match op with
  | .add=>if a.size+b.size≤9223372036854775807 then some (.str (a++b))else none
  | .eql=>some (.bool (jc a b))
  | .neq=>some (.bool (!jc a b))
  | .lss=>some (.bool (strLt a b))
  | .leq=>some (.bool (strLt a b||jc a b))
  | .gtr=>some (.bool (!(strLt a b||jc a b)))
  | .geq=>some (.bool (!strLt a b))
  | _=>none
 | _,_=>none
def KH (op:UnOp):T→Option T
 | .int k n =>
  match op with
  | .neg=>some (.int k (k.wrap (0-n)))
  | .xor=>some (.int k (k.wrap (BitVec.ofInt k.bits (if k.signed then -1 else k.max) ^^^ BitVec.ofInt k.bits n).toNat))
  | _=>none
 | .bool b=>match op with | .not=>some (.bool !b)|_=>none
 | _=>none
def jT:HC→T→Option Bool
 | .ptr,.b0=>some true
 | .ptr,.ptr _ _ | .ptr,.cP _=>some false
 | .slice,.sl .nil []=>some true
 | .slice,.sl .full _ | .slice,.sl (.own _ _) _ | .slice,.sl .arg (_ :: _) | .slice,.ax _ _ _ _=>some false
 | .map,.gk=>some true
 | .map,.map _=>some false
 | .func,.mq=>some true
 | .func,.fn _ _=>some false
 | _,_=>none
def dU (c:HC)(x y:T):Option Bool :=
 match jT c x,jT c y with
 | some true,some b=>some b
 | some b,some true=>some b
 | _,_=>none
def ik:T→T→Option Bool
 | .int k a,.int k' b=>if k=k' then some (a==b)else none
 | .str a,.str b=>some (jc a b)
 | .bool a,.bool b=>some (a==b)
 | _,_=>none
def bT:List T→List T→Option Bool
 | [],[]=>some true
 | a :: as,b :: bs=>match ik a b,bT as bs with
  | some x,some y=>some (x&&y)
  | _,_=>none
 | _,_=>none
def gL:T→T→Option Bool
 | .agg as,.agg bs=>bT as bs
 | a,b=>ik a b
def da (k:T):List (T×T)→Option (Option Nat)
 | []=>some none
 | e :: es=>match gL k e.1 with
  | some true=>some (some 0)
  | some false=>(da k es).map (Option.map (·+1))
  | none=>none
def gq (H:af):T→Option (List (T×T))
 | .gk=>some []
 | .map b=>match H[b]? with|some (.map es)=>some es|some (.cQ es _ _ _)=>some es|_=>none
 | _=>none
def l8 (cells:List T):List (Nat×List T)→Option (List T)
 | []=>some cells
 | (off,vs) :: rest=>if off+vs.length≤cells.length then l8 (cells.take off++vs++cells.drop (off+vs.length)) rest else none
def fm (R:ar):List (Nat×Nat×X)→Option (List (Nat×List T))
 | []=>some []
 | (off,n,x) :: rest=>match (x.ev R).cells?,fm R rest with
  | some cs,some l=>if cs.length=n then some ((off,cs) :: l)else none
  | _,_=>none
def jd (n:Nat)(es:List (List T))(R:ar):List (Nat×X)→Option (List (List T))
 | []=>some es
 | (i,x) :: rest=>match (x.ev R).cells? with
  | some cs=>if cs.length=n∧i<es.length then jd n (es.set i (cs.map T.erase)) R rest else none
  | none=>none
def je (n:Nat)(es:List (List T))(R:ar):List (Nat×X)→Option (List (List T))
 | []=>some es
 | (i,x) :: rest=>match (x.ev R).cells? with
  | some cs=>if cs.length=n∧i<es.length then je n (es.set i cs) R rest else none
  | none=>none
def nZ (H:af)(n:Nat):T→Option (List T)
 | .ptr b off=>match H[b]? with
  | some (.cells cs)=>if off+n≤cs.length then some ((cs.drop off).take n)else none
  | _=>none
 | .cP cs=>if n≤cs.length then some (cs.take n)else none
 | _=>none
def valOf (ag:Bool)(cs:List T):Option T :=
 if ag then some (.agg cs)else match cs with | [v]=>some v|_=>none
def P6 (H:af)(vs:List T):T→Option af
 | .ptr b off=>match H[b]? with
  | some (.cells cs)=>if off+vs.length≤cs.length then some (H.set b (.cells (cs.take off++vs++cs.drop (off+vs.length))))else none
  | _=>none
 | _=>none
def vC (off:Nat):T→Option T
 | .ptr b o=>some (.ptr b (o+off))
 | .cP cs=>if off<cs.length then some (.cP (cs.drop off))else none
 | _=>none
def dE (n i:Nat):T→Option T
 | .sl _ es=>match es[i]? with
  | some c=>if c.length=n∧n≠0 then some (.cP c)else none
  | none=>none
 | .ax b off len n'=>if n'=n∧i<len∧n≠0 then some (.ptr b (off+i*n))else none
 | _=>none
def bK (H:af)(n:Nat):T→Option (List (List T))
 | .sl _ es=>if es.all (·.length==n)then some es else none
 | .ax b off len n'=>match H[b]? with
  | some (.cells cs)=>if n'=n∧off+len*n≤cs.length then some ((List.range len).map fun i=>(cs.drop (off+i*n)).take n)else none
  | _=>none
 | .str s=>if n=1 then some (s.data.toList.map fun c=>[.int .u8 c.toNat])else none
 | _=>none
def bytesOf:List (List T)→Option (List UInt8)
 | []=>some []
 | [.int .u8 n] :: es=>(bytesOf es).map (UInt8.ofNat n.toNat :: ·)
 | _=>none
def jf (H:af):Lc→T→Option Nat
 | .str,.str s=>some s.size
 | .sl,.sl _ es=>some es.length
 | .sl,.ax _ _ len _=>some len
 | .sl,.dS _ _ len _ _=>some len
 | .map,.gk=>some 0
 | .map,.map b=>match H[b]? with
  | some (.map es)=>some es.length
  | some (.cQ es _ _ _)=>some es.length
  | _=>none
 | _,_=>none
def cq:T→Option Nat
 | .int _ n=>if 0≤n then some n.toNat else none
 | _=>none
def gh (R:ar)(d:Nat):Option X→Option Nat
 | none=>some d
 | some x=>cq (x.ev R)
def SK.cut (k:SK)(len lo hi:Nat):SK :=
 match k with
 | .nil=>.nil
 | .arg=>.arg
 | .full=>if hi=len then .full else .arg
 | .own t e=>if hi=len∧lo<len then .own t e else .arg
def db (jx bytes:Nat):Bool:=(jx+jx/4+512)*bytes≤281474976710656
def gM (H:af)(bytes:Nat)(k:SK)(es new:List (List T)):Option (T×af) :=
 match new with
 | []=>some (.sl k es,H)
 | _ =>
  if db (es.length+new.length) bytes then
   match k with
   | .nil | .full=>some (.sl (.own H.length (es.length+new.length)) (es++new.map (·.map T.erase)),H++[.tok (es.length+new.length)])
   | .own t e=>match H[t]? with
    | some (.tok e')=>if e=e' then some (.sl (.own t (e+new.length)) (es++new.map (·.map T.erase)),H.set t (.tok (e+new.length)))else none
    | _=>none
   | .arg=>none
  else none
def CH:T→Bool
 | .sl _ _ | .ax _ _ _ _=>true
 | _=>false
def m3 (H:af)(n bytes:Nat)(x:T)(new:List (List T)):Option (T×af) :=
 match new with
 | []=>if CH x then some (x,H)else none
 | _ =>
  match x with
  | .sl .nil es | .sl .full es =>
   if db (es.length+new.length) bytes∧es=[]then some (.ax H.length 0 new.length n,H++[.cells new.flatten])else none
  | .ax b off len n'=>match H[b]? with
   | some (.cells cs) =>
    if n'=n∧off=0∧len*n=cs.length∧db (len+new.length) bytes then
     some (.ax H.length 0 (len+new.length) n,H.set b .dead++[.cells (cs++new.flatten)])else none
   | _=>none
  | _=>none
def zg:T→T
 | .dS b off len n _=>.ax b off len n
 | t=>t
def gN (H:af)(n k:Nat):T→Option (List (List T))
 | .ax b off _ n' | .dS b off _ n' _=>match H[b]? with
  | some (.cells cs)=>if n'=n∧off+k*n≤cs.length then some ((List.range k).map fun i=>(cs.drop (off+i*n)).take n)else none
  | _=>none
 | _=>none
def CI:T→Option Nat
 | .ax _ _ len _ | .dS _ _ len _ _=>some len
 | _=>none
def AP (H:af)(n:Nat)(x y:T):Option (T×af) :=
 match x,CI y with
 | .ax b off len n',some ly | .dS b off len n' _,some ly =>
  match H[b]?,gN H n (min ly len) y with
  | some (.cells cs),some new =>
   if n'=n∧n≠0∧off≤cs.length then some (.int .i64 (min ly len:Nat),H.set b (.cells (cs.take off++new.flatten++cs.drop (off+(min ly len)*n))))else none
  | _,_=>none
 | _,_=>none
def CJ (H:af)(n bytes:Nat)(z:List T)(x:T)(k:Nat):Option (T×af) :=
 match x with
 | .dS b off len n' c=>match gN H n len x with
  | some es=>if n'=n∧n≠0∧0<k∧c<len+k∧z.length=n∧db (len+k) bytes then some (.ax H.length 0 (len+k) n,H++[.cells (es.flatten++(List.replicate k z).flatten)])else none
  | none=>none
 | _=>none
def AQ (H:af)(n:Nat)(x y:T):Option (T×af) :=
 match x,y with
 | .ax bv _ _ n1,.dS b _ len n2 _ =>
  match H[bv]?,H[b]? with
  | some (.cells _),some (.cells cs)=>if bv≠b∧n1=n∧n2=n∧0<cs.length then some (.bool false,H)else none
  | _,_=>none
 | _,_=>none
def KI (R:ar)(l:List X):List T:=l.map (X.ev R)
def al (R:ar)(H:af):Bo→Option (T×af)
 | .av x=>some (x.ev R,H)
 | .pick c a b=>match c.ev R with
  | .bool t=>some (if t then a.ev R else b.ev R,H)
  | _=>none
 | .bin op x y=>(cH op (x.ev R) (y.ev R)).map (·,H)
 | .mS neg c x y=>(dU c (x.ev R) (y.ev R)).map fun b=>(.bool (if neg then !b else b),H)
 | .beq neg x y=>match x.ev R,y.ev R with
  | .bool a,.bool b=>some (.bool (if neg then !(a==b)else a==b),H)
  | _,_=>none
 | .eqs neg ks x y=>match x.ev R,y.ev R with
  | .agg as,.agg bs=>if fk ks as then(bT as bs).map fun b=>(.bool (if neg then !b else b),H)else none
  | _,_=>none
 | .un op x=>(KH op (x.ev R)).map (·,H)
 | .iX k x=>match x.ev R with
  | .int _ n=>some (.int k (k.wrap n),H)
  | _=>none
 | .AM x=>match bK H 1 (x.ev R)with
  | some es=>match x.ev R with
   | .str _=>none
   | _=>(bytesOf es).map fun l=>(.str ⟨l.toArray⟩,H)
  | none=>none
 | .cvb x=>match x.ev R with
  | .str s=>if s.size=0 then some (.sl .arg [],H)else if s.size≤281474976710656 then some (.sl (.own H.length s.size) (s.data.toList.map fun c=>[.int .u8 c.toNat]),H++[.tok s.size])else none
  | _=>none
 | .len k x=>(jf H k (x.ev R)).map fun (n:Nat)=>(T.int .i64 (n:Int),H)
 | .alloc z=>some (.ptr H.length 0,H++[.cells z])
 | .box x=>(x.ev R).cells?.map fun cs=>(.ptr H.length 0,H++[.cells cs])
 | .build z ps=>match fm R ps with
  | some l=>(l8 z l).map fun cs=>(.agg cs,H)
  | none=>none
 | .nY n z ps=>(jd z.length (List.replicate n z) R ps).map fun es=>(.sl .full es,H)
 | .ld n ag x=>match nZ H n (x.ev R)with
  | some cs=>(valOf ag cs).map (·,H)
  | none=>none
 | .st n a v=>match (v.ev R).cells? with
  | some vs=>if vs.length=n then(P6 H vs (a.ev R)).map (bX,·)else none
  | none=>none
 | .jZ off x=>(vC off (x.ev R)).map (·,H)
 | .P2 off n ag x=>match x.ev R with
  | .agg cs=>if off+n≤cs.length then(valOf ag ((cs.drop off).take n)).map (·,H)else none
  | _=>none
 | .eR n x i=>(cq (i.ev R)).bind fun i=>(dE n i (x.ev R)).map (·,H)
 | .L0 len n x i=>match x.ev R,cq (i.ev R)with
  | .ptr b off,some i=>if i<len then some (.ptr b (off+i*n),H)else none
  | _,_=>none
 | .P3 x i=>match x.ev R,cq (i.ev R)with
  | .str s,some i=>(s.data[i]?).map fun c=>(.int .u8 c.toNat,H)
  | _,_=>none
 | .UO len n ag x i=>match x.ev R,cq (i.ev R)with
  | .agg cs,some i=>if i<len∧i*n+n≤cs.length then(valOf ag ((cs.drop (i*n)).take n)).map (·,H)else none
  | _,_=>none
 | .P4 x lo hi=>match x.ev R with
  | .str s=>match gh R 0 lo,gh R s.size hi with
   | some l,some h=>if l≤h∧h≤s.size then some (.str (s.extract l h),H)else none
   | _,_=>none
  | _=>none
 | .gp n x lo hi mx=>match x.ev R with
  | .sl k es=>match gh R 0 lo,gh R es.length hi,mx with
   | some l,some h,none=>if l≤h∧h≤es.length∧es.all (·.length==n)then some (.sl (k.cut es.length l h) ((es.take h).drop l),H)else none
   | some l,some h,some m=>match cq (m.ev R)with
    | some m =>
     if l≤h∧h≤m∧m≤es.length∧es.all (·.length==n)then
      some (.sl (if k=.nil then .nil else if es=[]∧k=.arg then .arg else if h=m then .full else .arg) ((es.take h).drop l),H)else none
    | none=>none
   | _,_,_=>none
  | .ax b off len n'=>match gh R 0 lo,gh R len hi,mx with
   | some l,some h,none =>
    if n'=n∧l≤h∧h≤len then some (if l=h then(if l=0 then .ax b off 0 n else .sl .arg [])else .ax b (off+l*n) (h-l) n,H)else none
   | _,_,_=>none
  | .dS b off len n' c=>match gh R 0 lo,gh R len hi,mx with
   | some l,some h,none =>
    if n'=n∧l≤h∧h≤c then some (if l<c∨l=0 then .dS b (off+l*n) (h-l) n (c-l)else .sl .arg [],H)else none
   | _,_,_=>none
  | _=>none
 | .zd=>some (.map H.length,H++[.map []])
 | .mT kt z ok m k =>
  if (k.ev R).iP kt then
   match gq H (m.ev R)with
   | some es=>match da (k.ev R) es with
    | some (some i)=>match es[i]? with
     | some e=>some (if ok then .bF [e.2,.bool true]else e.2,H)
     | none=>none
    | some none=>some (if ok then .bF [z,.bool false]else z,H)
    | none=>none
   | none=>none
  else none
 | .ze kt m k v=>match m.ev R with
  | .map b=>if (k.ev R).iP kt then match H[b]? with
   | some (.map es)=>match da (k.ev R) es with
    | some (some i)=>some (bX,H.set b (.map (es.set i (k.ev R,v.ev R))))
    | some none=>some (bX,H.set b (.map (es++[(k.ev R,v.ev R)])))
    | none=>none
   | _=>none else none
  | _=>none
 | .del kt m k=>match m.ev R with
  | .map b=>if (k.ev R).iP kt then match H[b]? with
   | some (.map es)=>match da (k.ev R) es with
    | some (some i)=>some (.bF [],H.set b (.map (es.eraseIdx i)))
    | some none=>some (.bF [],H)
    | none=>none
   | _=>none else none
  | _=>none
 | .app n bytes mu x y=>match bK H n (y.ev R)with
  | some new=>if mu then m3 H n bytes (zg (x.ev R)) new else match x.ev R with
   | .sl k es=>if es.all (·.length==n)then gM H bytes k es new else none
   | _=>none
  | none=>none
 | .VO mu bytes z l c=>match cq (l.ev R),cq (c.ev R)with
  | some l,some c =>
   if l≤c∧c*bytes≤281474976710656∧c≤9223372036854775807 then
    if mu then some (.ax H.length 0 l z.length,H++[.cells (List.replicate l z).flatten])
    else if l=0 then some (.sl .arg [],H)else some (.sl (.own H.length l) (List.replicate l z),H++[.tok l])
   else none
  | _,_=>none
 | .HD f ku=>some (.fn f (KI R ku),H)
 | .ext i x=>match x.ev R with
  | .bF vs=>(vs[i]?).map (·,H)
  | _=>none
 | .mn x y=>match x.ev R,y.ev R with
  | .int k a,.int _ b=>some (.int k (if b<a then b else a),H)
  | _,_=>none
 | .mx x y=>match x.ev R,y.ev R with
  | .int k a,.int _ b=>some (.int k (if b>a then b else a),H)
  | _,_=>none
 | .tQ x=>match x.ev R with
  | .b0 | .gl | .mq=>none
  | v=>some (v,H)
 | .cap x=>match x.ev R with
  | .dS _ _ _ _ c=>some (.int .i64 (c:Nat),H)
  | _=>none
 | .AN n x y=>AP H n (x.ev R) (y.ev R)
 | .L1 x=>match x.ev R with
  | .map b=>(gq H (.map b)).map fun es=>(.ptr H.length 0,H.set b (.cQ es (List.range es.length) H.length none)++[.tR b])
  | _=>none
 | .pD _=>none
 | .L3 x=>match x.ev R with
  | .ptr bi 0=>match H[bi]? with
   | some (.tR b)=>match H[b]? with
    | some (.cQ es _ P7 (some c))=>if P7=bi then(es[c]?).map fun e=>(.bF [e.1,e.2],H)else none
    | _=>none
   | _=>none
  | _=>none
 | .Pp n z x=>match x.ev R with
  | .ax b off len n'=>match H[b]? with
   | some (.cells cs)=>if n'=n∧z.length=n∧off+len*n≤cs.length then some (bX,H.set b (.cells (cs.take off++(List.replicate len z).flatten++cs.drop (off+len*n))))else none
   | _=>none
  | _=>none
 | .Po n x y=>AQ H n (x.ev R) (y.ev R)
 | .P5 n bytes z x k=>(cq (k.ev R)).bind fun k=>CJ H n bytes z (x.ev R) k
 | .Pq n z ps=>(je z.length (List.replicate n z) R ps).bind fun es=>if z.length≠0 then some (.ax H.length 0 n z.length,H++[.cells es.flatten])else none
def bL (R:ar):Gd→Bool
 | none=>true
 | some (t,b)=>match R t with
  | .bool c=>c==b
  | _=>false
inductive Rs where
 | t (r:Nat)
 | cl (r n:Nat) (ag:Bool)
structure Fn where
 n:Nat
 np:Nat
 res:List Rs
 body:C
structure Env where
 fn:Nat→Option Fn
 ob:Nat→List T→af→(T→af→Prop)→Prop
 mono:∀f az H (Q Q':T→af→Prop),ob f az H Q→(∀t H',Q t H'→Q' t H')→ob f az H Q'
inductive J where
 | code (c:C) (R:ar)
 | ops (l:List O) (R:ar)
 | call (f:Nat) (as:List T)
inductive Out where
 | ex (e:Ex) (R:ar)
 | val (v:T)
def C.lT:C→Bool
 | .seq a b | .cond _ a b=>a.lT||b.lT
 | .block _ a | .loop a=>a.lT
 | .cJ _ _ _ _ _=>true
 | _=>false
def iv (R:ar):List Nat→List T→ar
 | p :: ps,v :: vs=>iv (nX R p v) ps vs
 | _,_=>R
def CK:T→Option Nat
 | .ptr b 0=>some b
 | _=>none
def qa:List T→Option (List Nat)
 | []=>some []
 | t :: ts=>match CK t,qa ts with
  | some b,some bs=>some (b :: bs)
  | _,_=>none
def marks:T→Option (List Nat)
 | .bF ts=>qa ts
 | _=>none
def m4 (t:T)(b:Nat):T:=match t with
 | .bF ts=>.bF (.ptr b 0 :: ts)
 | t=>t
def kill (H:af):List Nat→af
 | []=>H
 | b :: bs=>kill (H.set b .dead) bs
def CL:Option Ex→Ex
 | none=>.normal
 | some e=>e
def gr (as:List T):ar:=fun t=>as.getD t bX
def xM (R:ar)(H:af):Rs→Option T
 | .t r=>some (R r)
 | .cl r n ag=>match nZ H n (R r)with
  | some cs=>valOf ag cs
  | none=>none
def rN (R:ar)(H:af):List Rs→Option (List T)
 | []=>some []
 | x :: xs=>match xM R H x,rN R H xs with
  | some v,some vs=>some (v :: vs)
  | _,_=>none
def AR:List T→T
 | [v]=>v
 | l=>.bF l
def pn (R:ar)(H:af)(l:List Rs):Option T:=(rN R H l).map AR
def jy (R:ar)(H:af)(l:List Rd):Prop:=∀r∈l,bL R r.g=true→al R H r.op=some (R r.d,H)
def rO (cs:List T)(off len n:Nat):List (List T):=(List.range len).map fun i=>(cs.drop (off+i*n)).take n
def xN (b:Nat)(cs:List T):T→T
 | .ax b' off len n=>if b'=b∧off+len*n≤cs.length then .sl .arg (rO cs off len n)else .ax b' off len n
 | t=>t
def CM (b:Nat)(cs:List T):T→T
 | .bF vs=>.bF (vs.map (xN b cs))
 | t=>xN b cs t
def zh (b:Nat):T→Prop
 | .bF vs=>∃off len n,T.ax b off len n∈vs
 | .ax b' _ _ _=>b'=b
 | _=>False
def m5 (H:af)(b bi:Nat)(es:List (T×T))(ix:List Nat)(t:T)(H':af):Prop :=
 (ix=[]∧t=.bF [.bool false]∧H'=H.set b (.map es))∨∃i e,i∈ix∧es[i]?=some e∧t=.bF [.bool true,e.1,e.2]∧H'=H.set b (.cQ es (ix.erase i) bi (some i))
inductive W (E:Env):J→af→(Out→af→Prop)→Prop
 | skip {R H Q} (h:Q (.ex .normal R) H):W E (.code .skip R) H Q
 | exit {id R H Q} (h:Q (.ex (.exit id) R) H):W E (.code (.exit id) R) H Q
 | ret {R H Q} (h:Q (.ex .ret R) H):W E (.code .ret R) H Q
 | Pr {l R H Q} (h:W E (.ops l R) H Q):W E (.code (.ops l) R) H Q
 | seq {a b R H Q} (M:Out→af→Prop) (h1:W E (.code a R) H M) (h2:∀R' H',M (.ex .normal R') H'→W E (.code b R') H' Q)
   (h3:∀o H',M o H'→(∀R',o≠.ex .normal R')→Q o H'):W E (.code (.seq a b) R) H Q
 | cond {x a b R H Q} (t:Bool) (hx:x.ev R=.bool t) (h:W E (.code (if t then a else b) R) H Q):W E (.code (.cond x a b) R) H Q
 | block {id a R H Q} (M:Out→af→Prop) (h1:W E (.code a R) H M) (h2:∀R' H',M (.ex (.exit id) R') H'→Q (.ex .normal R') H')
   (h3:∀o H',M o H'→(∀R',o≠.ex (.exit id) R')→Q o H'):W E (.code (.block id a) R) H Q
 | loop {a R H Q} (M:Out→af→Prop) (h1:W E (.code a R) H M) (h2:∀R' H',M (.ex .normal R') H'→W E (.code (.loop a) R') H' Q)
   (h3:∀o H',M o H'→(∀R',o≠.ex .normal R')→Q o H'):W E (.code (.loop a) R) H Q
 | nil {R H Q} (h:Q (.ex .normal R) H):W E (.ops [] R) H Q
 | no {o l R H Q} (hg:bL R o.g=false) (h:W E (.ops l (bu R o.d bX)) H Q):W E (.ops (o :: l) R) H Q
 | op {d b g s l R H Q v H'} (hg:bL R g=true) (he:al R H b=some (v,H')) (hs:jy R H' s) (h:W E (.ops l (bu R d v)) H' Q):W E (.ops (⟨d,.b b,g,s⟩ :: l) R) H Q
 | call {d f as g s l R H Q} (M:Out→af→Prop) (hg:bL R g=true) (h1:W E (.call f (as.map (X.ev R))) H M)
   (hs:∀v H',M (.val v) H'→jy R H' s) (h2:∀v H',M (.val v) H'→W E (.ops l (bu R d v)) H' Q):W E (.ops (⟨d,.call f as,g,s⟩ :: l) R) H Q
 | bA {d x f cs as g s l R H Q} (M:Out→af→Prop) (hg:bL R g=true) (hf:x.ev R=.fn f cs) (h1:W E (.call f (as.map (X.ev R)++cs)) H M)
   (hs:∀v H',M (.val v) H'→jy R H' s) (h2:∀v H',M (.val v) H'→W E (.ops l (bu R d v)) H' Q):W E (.ops (⟨d,.bA x as,g,s⟩ :: l) R) H Q
 | AS {d neg c x y s l R H Q} (hs:s=[]) (h:∀b:Bool,W E (.ops l (bu R d (.bool b))) H Q) (hx:x.ev R=.sl .arg []) (hy:y.ev R=.sl .nil []) (hc:c=.slice) :
   W E (.ops (⟨d,.b (.mS neg c x y),none,s⟩ :: l) R) H Q
 | mR {d x b as g s l R H Q n R0 ps bZ body} (M1 M:Out→af→Prop) (hg:bL R g=true) (hf:x.ev R=.mR b) (hb:H[b]?=some (.loop .ready none n R0 ps bZ body)) (hn:as.length=ps.length)
   (h1:W E (.code bZ (iv R0 ps (as.map (X.ev R)))) H M1) (AU:∀o H',M1 o H'→(∃R1,o=.ex .normal R1)∧H'[b]?=some (.loop .ready none n R0 ps bZ body))
   (h2:∀R1 H1,M1 (.ex .normal R1) H1→W E (.code body R1) (H1.set b (.loop .busy none n R0 ps bZ body)) M) (AV:∀o H',M o H'→H'[b]?=some (.loop .busy none n R0 ps bZ body))
   (zi:∀R' H',M (.ex .normal R') H'→jy R (H'.set b (.loop .ready none n R0 ps bZ body)) s)
   (h3:∀R' H',M (.ex .normal R') H'→W E (.ops l (bu R d (.bool true))) (H'.set b (.loop .ready none n R0 ps bZ body)) Q)
   (Ck:∀e R' H',M (.ex e R') H'→e≠.normal→jy R (H'.set b (.loop .done (some e) n R0 ps bZ body)) s)
   (h4:∀e R' H',M (.ex e R') H'→e≠.normal→W E (.ops l (bu R d (.bool false))) (H'.set b (.loop .done (some e) n R0 ps bZ body)) Q):W E (.ops (⟨d,.bA x as,g,s⟩ :: l) R) H Q
 | cJ {n x ps bZ body R H Q f cs} (M:Out→af→Prop) (hx:x.ev R=.fn f cs) (h1:W E (.call f (.mR (H.length+1) :: cs)) (H++[.zf,.loop .ready none n R ps bZ body]) M)
   (h2:∀v H',M (.val v) H'→∃st fz,st≠.busy∧fz≠some .normal∧H'[H.length+1]?=some (.loop st fz n R ps bZ body)∧Q (.ex (CL fz) (nX R n (m4 (R n) H.length))) (H'.set (H.length+1) .dead)) :
   W E (.code (.cJ n x ps bZ body) R) H Q
 | Ps {f as H Q fn} (M:Out→af→Prop) (hf:E.fn f=some fn) (hn:as.length=fn.np) (h1:W E (.code fn.body (gr as)) H M)
   (h2:∀o H',M o H'→∃R' bs,(o=.ex .normal R'∨o=.ex .ret R')∧marks (R' fn.n)=some bs∧bs.Nodup∧(∀b∈bs,H'[b]?=some .zf)∧∃v,pn R' (kill H' bs) fn.res=some v∧Q (.val v) (kill H' bs)):W E (.call f as) H Q
 | fn {f as H Q fn} (M:Out→af→Prop) (hf:E.fn f=some fn) (hr:fn.body.lT=false) (hn:as.length=fn.np) (h1:W E (.code fn.body (gr as)) H M)
   (h2:∀o H',M o H'→∃R',(o=.ex .normal R'∨o=.ex .ret R')∧∃v,pn R' H' fn.res=some v∧Q (.val v) H'):W E (.call f as) H Q
 | AW {f as H Q b off len n} (i:Nat) (M:Out→af→Prop) (hi:as[i]?=some (.ax b off len n)) (h1:∀c,len≤c→W E (.call f (as.set i (.dS b off len n c))) H M) (h2:∀v H',M (.val v) H'→Q (.val (zg v)) H'):W E (.call f as) H Q
 | pE {f as H Q} (M:Out→af→Prop) (h1:W E (.call f as) H M) (h2:∀o H',M o H'→∃v b cs,o=.val v∧zh b v∧H'[b]?=some (.cells cs)∧Q (.val (CM b cs v)) (H'.set b .dead)):W E (.call f as) H Q
 | pD {d x g s l R H Q b bi es ix cur} (hg:bL R g=true) (hx:x.ev R=.ptr bi 0) (hb:H[b]?=some (.cQ es ix bi cur))
   (hs:∀t H',m5 H b bi es ix t H'→jy R H' s) (h:∀t H',m5 H b bi es ix t H'→W E (.ops l (bu R d t)) H' Q):W E (.ops (⟨d,.b (.pD x),g,s⟩ :: l) R) H Q
 | shr {f as H Q} (M:Out→af→Prop) (h1:W E (.call f as) H M) (h2:∀o H',M o H'→∃v b cs k,o=.val v∧zh b v∧H'[b]?=some (.cells cs)∧Q (.val v) (H'.set b (.cells (cs.take k)))):W E (.call f as) H Q
 | CN {f as H Q b off len n cs} (i:Nat) (hi:as[i]?=some (.ax b off len n)) (hb:H[b]?=some (.cells cs)) (h:W E (.call f (as.map (CM b cs))) (H.set b .dead) Q):W E (.call f as) H Q
 | ob {f as H Q} (h:E.ob f as H fun v H'=>Q (.val v) H'):W E (.call f as) H Q
inductive Ow where
 | free|lU|mut (b:Nat)|spare (t:Nat)
 deriving DecidableEq
structure Ctx where
 φ:Nat→Option (Nat×Nat×Nat)
 κ:Nat→Nat→Ow
 π:Nat→Nat→Option (Nat×Nat×Nat)
 ck:Nat→C→Code→Prop
def AX (g:Ctx)(w:World)(r o:Nat)(v:Value):Prop:=g.κ r o=.lU∧w.cell? ⟨r,o,none⟩=some v
def gz (g:Ctx)(k:SK)(r o len cap n:Nat):Prop :=
 match k with
 | .nil=>False
 | .arg=>True
 | .full=>cap=len
 | .own t e=>g.π t e=some (r,o+len*n,o+cap*n)∧0<len
inductive VR (g:Ctx)(w:World):T→Value→Prop
 | int (k n):VR g w (.int k n) (.int k n)
 | bool (b):VR g w (.bool b) (.bool b)
 | str (s):VR g w (.str s) (.string s)
 | b0:VR g w .b0 (.pointer none)
 | ptr {b off r o q} (h:g.φ b=some (r,o,q)):VR g w (.ptr b off) (.pointer (some ⟨r,o+off,none⟩))
 | cP {cs r o} (cR:Nat→Value) (h1:∀(j:Nat) (t:T),cs[j]?=some t→t.one=true∧AX g w r (o+j) (cR j)) (h2:∀(j:Nat) (t:T),cs[j]?=some t→VR g w t (cR j)) :
   VR g w (.cP cs) (.pointer (some ⟨r,o,none⟩))
 | gk:VR g w .gk (.map none)
 | map {b r o q} (h:g.φ b=some (r,o,q)):VR g w (.map b) (.map (some r))
 | slnil:VR g w (.sl .nil []) (.slice none 0 0)
 | iw (a:Option Addr):VR g w (.sl .arg []) (.slice a 0 0)
 | sl {k es r o cap n} (cR:Nat→Nat→Value) (hk:gz g k r o es.length cap n) (hc:es.length≤cap) (hn:∀c∈es,c.length=n)
   (h1:∀(i j:Nat) (c:List T) (t:T),es[i]?=some c→c[j]?=some t→t.one=true∧AX g w r (o+i*n+j) (cR i j))
   (h2:∀(i j:Nat) (c:List T) (t:T),es[i]?=some c→c[j]?=some t→VR g w t (cR i j)) :
   VR g w (.sl k es) (.slice (some ⟨r,o,none⟩) es.length cap)
 | ax {b off len n r o q cap} (h:g.φ b=some (r,o,q)) (hc:len≤cap) (hq:o+off+cap*n=q):VR g w (.ax b off len n) (.slice (some ⟨r,o+off,none⟩) len cap)
 | dS {b off len n r o q c} (h:g.φ b=some (r,o,q)) (hc:len≤c) (hq:o+off+c*n=q):VR g w (.dS b off len n c) (.slice (some ⟨r,o+off,none⟩) len c)
 | mq:VR g w .mq .nilFunc
 | fn {f ku vs} (hl:vs.size=ku.length) (h:∀(i:Nat) (t:T) (v:Value),ku[i]?=some t→vs[i]?=some v→VR g w t v):VR g w (.fn f ku) (.func (.func f) #[] vs)
 | mR {b r o q} (h:g.φ b=some (r,o,q)):VR g w (.mR b) (.func (.yield r) #[] #[])
 | gl:VR g w .gl .nilIface
 | agg {cs vs} (hl:vs.size=cs.length) (h1:∀t∈cs,t.one=true) (h2:∀(i:Nat) (t:T) (v:Value),cs[i]?=some t→vs[i]?=some v→VR g w t v):VR g w (.agg cs) (.agg vs)
 | bF {cs vs} (hl:vs.size=cs.length) (h2:∀(i:Nat) (t:T) (v:Value),cs[i]?=some t→vs[i]?=some v→VR g w t v):VR g w (.bF cs) (.tuple vs)
structure Le (g:Ctx)(w:World)(g':Ctx)(w':World):Prop where
 φ:∀b x,g.φ b=some x→g'.φ b=some x
 κ:∀r o,g.κ r o=.lU→g'.κ r o=.lU
 π:∀t e x,g.π t e=some x→g'.π t e=some x
 cell:∀r o v,g.κ r o=.lU→w.cell? ⟨r,o,none⟩=some v→w'.cell? ⟨r,o,none⟩=some v
 ck:g'.ck=g.ck
theorem Le.refl (g:Ctx)(w:World):Le g w g w:=⟨fun _ _ h=>h,fun _ _ h=>h,fun _ _ _ h=>h,fun _ _ _ _ h=>h,rfl⟩
theorem Le.trans {g g' P8:Ctx}{w w' P9:World}(h:Le g w g' w')(h':Le g' w' P8 P9):Le g w P8 P9 :=
 ⟨fun b x e=>h'.φ b x (h.φ b x e),fun r o e=>h'.κ r o (h.κ r o e),fun t e x k=>h'.π t e x (h.π t e x k),fun r o v k e=>h'.cell r o v (h.κ r o k) (h.cell r o v k e),h'.ck.trans h.ck⟩
theorem AX.mono {g g':Ctx}{w w':World}(le:Le g w g' w'){r o:Nat}{v:Value}(h:AX g w r o v):AX g' w' r o v:=⟨le.κ _ _ h.1,le.cell _ _ _ h.1 h.2⟩
theorem gz.mono {g g':Ctx}{w w':World}(le:Le g w g' w'){k:SK}{r o len cap n:Nat}(h:gz g k r o len cap n):gz g' k r o len cap n:=by
 cases k with
 | nil=>exact h
 | arg=>exact h
 | full=>exact h
 | own t e=>exact⟨le.π _ _ _ h.1,h.2⟩
theorem VR.mono {g g':Ctx}{w w':World}(le:Le g w g' w'){t:T}{v:Value}(h:VR g w t v):VR g' w' t v:=by
 induction h with
 | int k n=>exact .int k n
 | bool b=>exact .bool b
 | str s=>exact .str s
 | b0=>exact .b0
 | ptr h=>exact .ptr (le.φ _ _ h)
 | cP cR h1 _ ih=>exact .cP cR (fun j t e=>⟨(h1 j t e).1,(h1 j t e).2.mono le⟩) ih
 | gk=>exact .gk
 | map h=>exact .map (le.φ _ _ h)
 | slnil=>exact .slnil
 | iw a=>exact .iw a
 | sl cR hk hc hn h1 _ ih=>exact .sl cR (hk.mono le) hc hn (fun i j c t a b=>⟨(h1 i j c t a b).1,(h1 i j c t a b).2.mono le⟩) ih
 | ax h hc hq=>exact .ax (le.φ _ _ h) hc hq
 | dS h hc hq=>exact .dS (le.φ _ _ h) hc hq
 | mq=>exact .mq
 | fn hl _ ih=>exact .fn hl ih
 | mR h=>exact .mR (le.φ _ _ h)
 | gl=>exact .gl
 | agg hl h1 _ ih=>exact .agg hl h1 ih
 | bF hl _ ih=>exact .bF hl ih
theorem VR.erase {g:Ctx}{w:World}{t:T}{v:Value}(h:VR g w t v):VR g w t.erase v:=by
 cases h with
 | sl cR hk hc hn h1 h2=>exact .sl cR trivial hc hn h1 h2
 | slnil=>exact .iw none
 | iw a=>exact .iw a
 | int k n=>exact .int k n
 | bool b=>exact .bool b
 | str s=>exact .str s
 | b0=>exact .b0
 | ptr h=>exact .ptr h
 | cP cR h1 h2=>exact .cP cR h1 h2
 | gk=>exact .gk
 | map h=>exact .map h
 | ax h hc hq=>exact .ax h hc hq
 | dS h hc hq=>exact .dS h hc hq
 | mq=>exact .mq
 | fn hl h=>exact .fn hl h
 | mR h=>exact .mR h
 | gl=>exact .gl
 | agg hl h1 h2=>exact .agg hl h1 h2
 | bF hl h2=>exact .bF hl h2
theorem AY (t:T):t.erase.one=t.one:=by cases t<;>rfl
theorem VR.iz {g:Ctx}{w:World}{t:T}{v:Value}(h:VR g w t v)(ho:t.one=true):v.oneCell'=true:=by
 cases h<;>simp_all [T.one,Value.oneCell']
def pF (g:Ctx)(w:World)(b:Nat)(cs:List T)(r o q:Nat):Prop :=
 o+cs.length≤q∧(∀j,o≤j→j<q→g.κ r j=.mut b∧w.frozen? ⟨r,j,none⟩=false∧(w.cell? ⟨r,j,none⟩).isSome=true) ∧
 ∀(i:Nat) (t:T),cs[i]?=some t→t.one=true∧∃v,w.cell? ⟨r,o+i,none⟩=some v∧VR g w t v
def dV (g:Ctx)(w:World)(es:List (T×T))(aw:Array MapEntry):Prop :=
 aw.size=es.length∧∀(i:Nat) (e:T×T) (m:MapEntry),es[i]?=some e→aw[i]?=some m→VR g w e.1 m.key∧VR g w e.2 m.val
def fo (aw:Array MapEntry)(clock:Nat):Prop:=(∀m∈aw.toList,m.born<clock)∧(aw.toList.map (·.born)).Nodup
def HE (aw:Array MapEntry)(seen:Array Nat)(ix:List Nat)(cur:Option Nat):Prop :=
 ix.Nodup∧(∀i,i∈ix↔∃m,aw[i]?=some m∧m.born∉seen)∧∀c,cur=some c→∃m,aw[c]?=some m∧seen.back?=some m.born
def Qa (g:Ctx)(w:World)(t e:Nat):Prop :=
 ∃r p q,g.π t e=some (r,p,q)∧p≤q∧(∀j,p≤j→j<q→g.κ r j=.spare t∧w.frozen? ⟨r,j,none⟩=false∧(w.cell? ⟨r,j,none⟩).isSome=true)∧∀e',e<e'→g.π t e'=none
def L4.real:L4→LoopState
 | .ready=>.ready
 | .busy=>.busy
 | .done=>.done
def vD:Option Ex→Option Code
 | some .ret=>some .ret
 | some (.exit id)=>some (.exit id)
 | _=>none
def tT (g:Ctx)(w:World)(st:L4)(fz:Option Ex)(n:Nat)(R:Nat→T)(ps:List Nat)(bZ body:C)(rec:Loop):Prop :=
 rec.state=st.real∧rec.pending=vD fz∧rec.params.toList=ps∧rec.tmps.size=n∧(∀t,t<n→VR g w (R t) (rec.tmps.getD t undef))∧(∀p∈ps,p<n)∧g.ck n bZ rec.assign∧g.ck n body rec.body
def zj (g:Ctx)(w:World)(b:Nat):B→Prop
 | .cells cs=>∀r o q,g.φ b=some (r,o,q)→pF g w b cs r o q
 | .map es=>∀r o q,g.φ b=some (r,o,q)→g.κ r 0=.mut b∧∃aw clock,w.heap[r]?=some (.map aw clock)∧dV g w es aw∧fo aw clock
 | .tok e=>Qa g w b e
 | .loop st fz n R ps bZ body=>∀r o q,g.φ b=some (r,o,q)→g.κ r 0=.mut b∧∃rec,w.heap[r]?=some (.loop rec)∧tT g w st fz n R ps bZ body rec
 | .zf=>∀r o q,g.φ b=some (r,o,q)→g.κ r 0=.mut b∧w.heap[r]?=some (.deferred (some []))
 | .dead=>True
 | .cQ es ix bi cur=>∃r o q,g.φ b=some (r,o,q)∧g.κ r 0=.mut b∧∃aw clock,w.heap[r]?=some (.map aw clock)∧dV g w es aw∧fo aw clock ∧
   ∃ri q' seen,g.φ bi=some (ri,0,q')∧g.κ ri 0=.mut b∧w.heap[ri]?=some (.mapIter (some r) clock seen clock)∧HE aw seen ix cur
 | .tR _=>True
structure SR (w0:World)(g:Ctx)(H:af)(w:World):Prop where
 size:w0.heap.size≤w.heap.size
 jz:∀r,r<w0.heap.size→w.heap[r]?=w0.heap[r]?
 AZ:∀r o,r<w0.heap.size→g.κ r o=.lU
 fresh:∀r o,w.heap.size≤r→g.κ r o=.free
 rP:∀b x,g.φ b=some x→b<H.length
 iQ:∀t e x,g.π t e=some x→t<H.length
 dQ:∀b x,H[b]?=some x→zj g w b x
 pE:∀r j,w0.heap.size≤r→w.frozen? ⟨r,j,none⟩=false
 env:w.os=w0.os∧w.output=w0.output
def fp:Obj→Bool
 | .map _ _ | .loop _ | .deferred _ | .mapIter _ _ _ _=>true
 | _=>false
structure Tr (w w':World)(S:Nat→Nat→Prop)(M:Nat→Prop):Prop where
 size:w.heap.size≤w'.heap.size
 cell:∀r j,r<w.heap.size→¬S r j→w'.cell? ⟨r,j,none⟩=w.cell? ⟨r,j,none⟩
 pE:∀r j,r<w.heap.size→w'.frozen? ⟨r,j,none⟩=w.frozen? ⟨r,j,none⟩
 dF:∀r j,r<w.heap.size→(w.cell? ⟨r,j,none⟩).isSome=true→(w'.cell? ⟨r,j,none⟩).isSome=true
 maps:∀r x,¬M r→fp x=true→w.heap[r]?=some x→w'.heap[r]?=some x
 jz:∀r,r<w.heap.size→¬M r→(∀j,¬S r j)→w'.heap[r]?=w.heap[r]?
 xO:∀r j,w.heap.size≤r→w'.frozen? ⟨r,j,none⟩=false
 env:w'.os=w.os∧w'.output=w.output
theorem dn {w:World}{r j:Nat}(h:w.heap.size≤r):w.frozen? ⟨r,j,none⟩=false:=by
 unfold World.frozen?
 rw[Array.getElem?_eq_none h]
theorem jA {w:World}{r j:Nat}{v:Value}(h:w.cell? ⟨r,j,none⟩=some v):r<w.heap.size:=by
 unfold World.cell? at h
 cases hr:w.heap[r]? with
 | none=>simp[hr]at h
 | some x=>exact(Array.getElem?_eq_some_iff.1 hr).1
theorem pF.mono {g g':Ctx}{w w':World}{b:Nat}{cs:List T}{r o q:Nat}(h:pF g w b cs r o q)(le:Le g w g' w')
  (hκ:∀j,o≤j→j<q→g'.κ r j=.mut b) (hf:∀j,o≤j→j<q→w'.frozen? ⟨r,j,none⟩=w.frozen? ⟨r,j,none⟩∧w'.cell? ⟨r,j,none⟩=w.cell? ⟨r,j,none⟩):pF g' w' b cs r o q:=by
 obtain⟨h1,h2,h3⟩:=h
 refine⟨h1,fun j hj hq=>⟨hκ j hj hq,by rw[(hf j hj hq).1];exact(h2 j hj hq).2.1,by rw[(hf j hj hq).2];exact(h2 j hj hq).2.2⟩,fun i t hi=>?_⟩
 have au:i<cs.length:=(List.getElem?_eq_some_iff.1 hi).1
 obtain⟨h4,v,h5,h6⟩:=h3 i t hi
 exact⟨h4,v,by rw[(hf (o+i) (by omega) (by omega)).2];exact h5,h6.mono le⟩
theorem dV.mono {g g':Ctx}{w w':World}{es:List (T×T)}{aw:Array MapEntry}(h:dV g w es aw)(le:Le g w g' w'):dV g' w' es aw :=
 ⟨h.1,fun i e m a b=>⟨(h.2 i e m a b).1.mono le,(h.2 i e m a b).2.mono le⟩⟩
theorem tT.mono {g g':Ctx}{w w':World}{st:L4}{fz:Option Ex}{n:Nat}{R:Nat→T}{ps:List Nat}{bZ body:C}{rec:Loop}(h:tT g w st fz n R ps bZ body rec)(le:Le g w g' w'):tT g' w' st fz n R ps bZ body rec:=by
 obtain⟨h1,h2,h3,h4,h5,h6,h7,h8⟩:=h
 exact⟨h1,h2,h3,h4,fun t ht=>(h5 t ht).mono le,h6,by rw[le.ck];exact h7,by rw[le.ck];exact h8⟩
theorem SR.step {w0 w w':World}{g g':Ctx}{H H':af}(h:SR w0 g H w)(L5:Nat→Prop){S:Nat→Nat→Prop}{M:Nat→Prop}(tr:Tr w w' S M)(le:Le g w g' w')
  (hS:∀r j,S r j→g.κ r j=.free∨(∃b,g.κ r j=.mut b∧L5 b)∨∃b,g.κ r j=.spare b∧L5 b) (hM:∀r,M r→∃b,g.κ r 0=.mut b∧L5 b)
  (L6:∀r o,w'.heap.size≤r→g'.κ r o=.free) (VP:∀b x,g'.φ b=some x→b<H'.length) (Qb:∀t e x,g'.π t e=some x→t<H'.length)
  (kφ:∀b,b<H.length→¬L5 b→g'.φ b=g.φ b) (kκ:∀r j b,¬L5 b→(g.κ r j=.mut b→g'.κ r j=.mut b)∧(g.κ r j=.spare b→g'.κ r j=.spare b))
  (kπ:∀t e,t<H.length→¬L5 t→g'.π t e=g.π t e)
  (hb:∀b x,H'[b]?=some x→(¬L5 b∧H[b]?=some x)∨zj g' w' b x):SR w0 g' H' w':=by
 have nS:∀r j,r<w0.heap.size→¬S r j:=by
  intro r j hr hs
  have:=h.AZ r j hr
  rcases hS r j hs with e|⟨b,e,_⟩|⟨b,e,_⟩<;>simp[this]at e
 have nM:∀r,r<w0.heap.size→¬M r:=by
  intro r hr hm
  have:=h.AZ r 0 hr
  obtain⟨b,e,_⟩:=hM r hm
  simp[this]at e
 refine⟨Nat.le_trans h.size tr.size,fun r hr=>?_,fun r o hr=>le.κ _ _ (h.AZ r o hr),L6,VP,Qb,fun b x hx=>?_,fun r j hr=>(by
  by_cases hw:r<w.heap.size
  ·rw[tr.pE r j hw];exact h.pE r j hr
  ·exact tr.xO r j (by omega)),tr.env.1.trans h.env.1,tr.env.2.trans h.env.2⟩
 ·rw[tr.jz r (Nat.lt_of_lt_of_le hr h.size) (nM r hr) (fun j=>nS r j hr)]
  exact h.jz r hr
 ·rcases hb b x hx with⟨nt,jv⟩|pG
  ·have au:b<H.length:=(List.getElem?_eq_some_iff.1 jv).1
   have hk:=h.dQ b x jv
   have nSm:∀r j,g.κ r j=.mut b∨g.κ r j=.spare b→¬S r j:=by
    intro r j hm hs
    rcases hS r j hs with e|⟨b',e,ht⟩|⟨b',e,ht⟩<;>rcases hm with hm|hm<;>simp[hm]at e
    ·exact nt (e▸ht)
    ·exact nt (e▸ht)
   cases x with
   | cells cs =>
    intro r o q hφ
    have kj:g.φ b=some (r,o,q):=by rw[←kφ b au nt];exact hφ
    have hc:=hk r o q kj
    refine hc.mono le (fun j a c=>(kκ r j b nt).1 (hc.2.1 j a c).1) fun j a c=>?_
    have hh:=hc.2.1 j a c
    have hr:r<w.heap.size:=by
     cases hv:w.cell? ⟨r,j,none⟩with
     | none=>simp[hv]at hh
     | some v=>exact jA hv
    exact⟨tr.pE r j hr,tr.cell r j hr (nSm r j (.inl hh.1))⟩
   | map es =>
    intro r o q hφ
    have kj:g.φ b=some (r,o,q):=by rw[←kφ b au nt];exact hφ
    obtain⟨h1,aw,c,h2,h3⟩:=hk r o q kj
    refine⟨(kκ r 0 b nt).1 h1,aw,c,tr.maps r _ (fun hm=>?_) rfl h2,h3.1.mono le,h3.2⟩
    obtain⟨b',e,ht⟩:=hM r hm
    rw[h1]at e;cases e;exact nt ht
   | cQ es ix bi cur =>
    obtain⟨r,o,q,hφ,h1,aw,c,h2,h3,h4,ri,q',seen,h5,h6,h7,h8⟩:=hk
    refine⟨r,o,q,le.φ _ _ hφ,(kκ r 0 b nt).1 h1,aw,c,tr.maps r _ (fun hm=>?_) rfl h2,h3.mono le,h4,ri,q',seen,le.φ _ _ h5,(kκ ri 0 b nt).1 h6,tr.maps ri _ (fun hm=>?_) rfl h7,h8⟩
    ·obtain⟨b',e,ht⟩:=hM r hm
     rw[h1]at e;cases e;exact nt ht
    ·obtain⟨b',e,ht⟩:=hM ri hm
     rw[h6]at e;cases e;exact nt ht
   | tR _=>trivial
   | tok e =>
    obtain⟨r,p,q,h1,h2,h3,h4⟩:=hk
    refine⟨r,p,q,le.π _ _ _ h1,h2,fun j a c=>?_,fun e' he=>by rw[kπ b e' au nt];exact h4 e' he⟩
    have hh:=h3 j a c
    have hr:r<w.heap.size:=by
     cases hv:w.cell? ⟨r,j,none⟩with
     | none=>simp[hv]at hh
     | some v=>exact jA hv
    exact⟨(kκ r j b nt).2 hh.1,by rw[tr.pE r j hr];exact hh.2.1,by rw[tr.cell r j hr (nSm r j (.inr hh.1))];exact hh.2.2⟩
   | loop st fz n R ps bZ body =>
    intro r o q hφ
    have kj:g.φ b=some (r,o,q):=by rw[←kφ b au nt];exact hφ
    obtain⟨h1,rec,h2,h3⟩:=hk r o q kj
    refine⟨(kκ r 0 b nt).1 h1,rec,tr.maps r _ (fun hm=>?_) rfl h2,h3.mono le⟩
    obtain⟨b',e,ht⟩:=hM r hm
    rw[h1]at e;cases e;exact nt ht
   | zf =>
    intro r o q hφ
    have kj:g.φ b=some (r,o,q):=by rw[←kφ b au nt];exact hφ
    obtain⟨h1,h2⟩:=hk r o q kj
    refine⟨(kκ r 0 b nt).1 h1,tr.maps r _ (fun hm=>?_) rfl h2⟩
    obtain⟨b',e,ht⟩:=hM r hm
    rw[h1]at e;cases e;exact nt ht
   | dead=>trivial
  ·exact pG
def Fr (g:Ctx)(H:af)(g':Ctx)(H':af):Prop :=
 H.length≤H'.length∧∀b x,H[b]?=some x→(∀e,x≠.tok e)→g.φ b=none→H'[b]?=some x∧g'.φ b=none
theorem Fr.refl (g:Ctx)(H:af):Fr g H g H:=⟨Nat.le_refl _,fun _ _ h _ k=>⟨h,k⟩⟩
theorem Fr.trans {g g' P8:Ctx}{H H' vE:af}(h:Fr g H g' H')(h':Fr g' H' P8 vE):Fr g H P8 vE :=
 ⟨Nat.le_trans h.1 h'.1,fun b x a c d=>let ⟨e,f⟩:=h.2 b x a c d;h'.2 b x e c f⟩
def b7 (P:Program)(w0:World)(g:Ctx)(H:af)(w:World)(s:Sem Value)(t:T)(H':af):Prop :=
 ∃v w' g',s.run P w=.ok v w'∧Le g w g' w'∧SR w0 g' H' w'∧VR g' w' t v∧Fr g H g' H'
theorem b7.same {P:Program}{w0:World}{g:Ctx}{H:af}{w:World}{s:Sem Value}{t:T}{v:Value}(h:SR w0 g H w)(hr:s.run P w=.ok v w)(hv:VR g w t v):b7 P w0 g H w s t H :=
 ⟨v,w,g,hr,.refl _ _,h,hv,.refl _ _⟩
def bC (g:Ctx)(w:World)(ts:List T)(vs:List Value):Prop:=ts.length=vs.length∧∀(i:Nat) (t:T) (v:Value),ts[i]?=some t→vs[i]?=some v→VR g w t v
theorem bC.mono {g g':Ctx}{w w':World}(le:Le g w g' w'){ts:List T}{vs:List Value}(h:bC g w ts vs):bC g' w' ts vs:=⟨h.1,fun i t v a b=>(h.2 i t v a b).mono le⟩
theorem bC.nil {g:Ctx}{w:World}:bC g w [] []:=⟨rfl,fun i t v h=>by simp at h⟩
theorem bC.cons {g:Ctx}{w:World}{t:T}{v:Value}{ts:List T}{vs:List Value}(h:VR g w t v)(hs:bC g w ts vs):bC g w (t :: ts) (v :: vs) :=
 ⟨by simp[hs.1],fun i a b ha hb=>by
  cases i with
  | zero=>simp at ha hb;subst ha;subst hb;exact h
  | succ i=>exact hs.2 i a b (by simpa using ha) (by simpa using hb)⟩
theorem bC.head {g:Ctx}{w:World}{t:T}{v:Value}{ts:List T}{vs:List Value}(h:bC g w (t :: ts) (v :: vs)):VR g w t v:=h.2 0 t v rfl rfl
theorem bC.tail {g:Ctx}{w:World}{t:T}{v:Value}{ts:List T}{vs:List Value}(h:bC g w (t :: ts) (v :: vs)):bC g w ts vs :=
 ⟨by have:=h.1;simpa using this,fun i a b ha hb=>h.2 (i+1) a b (by simpa using ha) (by simpa using hb)⟩
theorem bC.append {g:Ctx}{w:World}{ts L7:List T}{vs Pt:List Value}(h:bC g w ts vs)(h':bC g w L7 Pt):bC g w (ts++L7) (vs++Pt):=by
 refine⟨by simp[h.1,h'.1],fun i t v ha hb=>?_⟩
 rw[List.getElem?_append]at ha hb
 rw[←h.1]at hb
 split at ha
 ·rename_i hi;rw[if_pos hi]at hb;exact h.2 i t v ha hb
 ·rename_i hi;rw[if_neg hi]at hb;exact h'.2 _ t v ha hb
theorem bC.take {g:Ctx}{w:World}{ts:List T}{vs:List Value}(n:Nat)(h:bC g w ts vs):bC g w (ts.take n) (vs.take n) :=
 ⟨by simp[h.1],fun i t v ha hb=>by
  rw[List.getElem?_take]at ha hb
  split at ha
  ·rename_i hi;rw[if_pos hi]at hb;exact h.2 i t v ha hb
  ·simp at ha⟩
theorem bC.drop {g:Ctx}{w:World}{ts:List T}{vs:List Value}(n:Nat)(h:bC g w ts vs):bC g w (ts.drop n) (vs.drop n) :=
 ⟨by simp[h.1],fun i t v ha hb=>by
  rw[List.getElem?_drop]at ha hb
  exact h.2 _ t v ha hb⟩
def cA (cs:List T):Prop:=∀t∈cs,t.one=true
theorem bC.iz {g:Ctx}{w:World}{ts:List T}{vs:List Value}(h:bC g w ts vs)(ho:cA ts):∀v∈vs,v.oneCell'=true:=by
 intro v hv
 obtain⟨i,hi,rfl⟩:=List.getElem_of_mem hv
 have ka:i<ts.length:=by rw[h.1];exact hi
 exact(h.2 i ts[i] vs[i] (List.getElem?_eq_getElem ka) (List.getElem?_eq_getElem hi)).iz (ho _ (List.getElem_mem ka))
theorem dc (r o j:Nat):(⟨r,o,none⟩:Addr).add j=⟨r,o+j,none⟩:=by
 unfold Addr.add;split<;>simp_all
theorem qb {w:World}{r o:Nat}:∀(n:Nat) (f:Nat→Value),(∀j,j<n→w.cell? ⟨r,o+j,none⟩=some (f j))→∀(j:Nat) (v:Value),((List.range n).map f)[j]?=some v→w.cell? ⟨r,o+j,none⟩=some v:=by
 intro n f h j v hv
 have hj:j<n:=by
  have:=(List.getElem?_eq_some_iff.1 hv).1
  simpa using this
 rw[h j hj]
 simp[hj]at hv
 rw[hv]
theorem oc {w0 w:World}{g:Ctx}{H:af}{n:Nat}{p:T}{vp:Value}{cs:List T}(h:SR w0 g H w)(hv:VR g w p vp)(he:nZ H n p=some cs) :
  ∃r o vs,vp=.pointer (some ⟨r,o,none⟩)∧vs.length=n∧(∀(j:Nat) (v:Value),vs[j]?=some v→w.cell? ⟨r,o+j,none⟩=some v)∧bC g w cs vs∧cA cs:=by
 cases hv with
 | @ptr b off r o q hφ =>
  simp only[nZ]at he
  cases hb:H[b]? with
  | none=>simp[hb]at he
  | some x =>
   cases x with
   | cells KJ =>
    simp only[hb]at he
    split at he
    ·rename_i hle
     simp at he
     subst he
     obtain⟨h1,h2,h3⟩:=h.dQ b _ hb r o q hφ
     have key:∀j,j<n→∃t v,KJ[off+j]?=some t∧t.one=true∧w.cell? ⟨r,o+off+j,none⟩=some v∧VR g w t v:=by
      intro j hj
      have au:off+j<KJ.length:=by omega
      obtain⟨a,v,b',c⟩:=h3 (off+j) KJ[off+j] (List.getElem?_eq_getElem au)
      exact⟨_,v,List.getElem?_eq_getElem au,a,by rw[Nat.add_assoc];exact b',c⟩
     refine⟨r,o+off,(List.range n).map (fun j=>(w.cell? ⟨r,o+off+j,none⟩).getD undef),rfl,by simp,qb n _ (fun j hj=>?_),⟨by simp;omega,fun i t v ha iY=>?_⟩,fun t ht=>?_⟩
     ·obtain⟨t,v,_,_,e,_⟩:=key j hj
      simp[e]
     ·have hi:i<n:=by
       have:=(List.getElem?_eq_some_iff.1 iY).1
       simpa using this
      obtain⟨t',v',e1,e2,e3,e4⟩:=key i hi
      simp[hi]at iY
      rw[e3]at iY;simp at iY
      rw[List.getElem?_take,if_pos hi,List.getElem?_drop,e1]at ha
      simp at ha
      subst ha;subst iY;exact e4
     ·obtain⟨i,hi,rfl⟩:=List.getElem_of_mem ht
      simp at hi
      obtain⟨t',v',e1,e2,_,_⟩:=key i (by omega)
      have L8:=(List.getElem?_eq_some_iff.1 e1).2
      simp[L8,e2]
    ·simp at he
   | map _=>simp[hb]at he
   | tok _=>simp[hb]at he
   | _=>simp[hb]at he
 | @cP KJ r o cR h1 h2 =>
  simp only[nZ]at he
  split at he
  ·rename_i hle
   simp at he
   subst he
   have get:∀i,i<n→∃t,KJ[i]?=some t:=fun i hi=>⟨KJ[i]'(by omega),List.getElem?_eq_getElem _⟩
   refine⟨r,o,(List.range n).map cR,rfl,by simp,qb n _ (fun j hj=>?_),⟨by simp;omega,fun i t v ha hb=>?_⟩,fun t ht=>?_⟩
   ·obtain⟨t,e⟩:=get j hj
    exact(h1 j t e).2.2
   ·have hi:i<n:=by
     have:=(List.getElem?_eq_some_iff.1 hb).1
     simpa using this
    simp[hi]at hb
    rw[List.getElem?_take,if_pos hi]at ha
    rw[←hb];exact h2 i t ha
   ·obtain⟨i,hi,rfl⟩:=List.getElem_of_mem ht
    simp at hi
    have:KJ[i]?=some KJ[i]:=List.getElem?_eq_getElem _
    simp
    exact(h1 i _ this).1
  ·simp at he
 | _=>simp[nZ]at he
theorem bC.agg {g:Ctx}{w:World}{cs:List T}{vs:List Value}(h:bC g w cs vs)(ho:cA cs):VR g w (.agg cs) (.agg vs.toArray) :=
 .agg (by simp[h.1]) ho (fun i t v ha hb=>h.2 i t v ha (by simpa using hb))
theorem bC.bF {g:Ctx}{w:World}{cs:List T}{vs:List Value}(h:bC g w cs vs):VR g w (.bF cs) (.tuple vs.toArray) :=
 .bF (by simp[h.1]) (fun i t v ha hb=>h.2 i t v ha (by simpa using hb))
theorem VR.fO {g:Ctx}{w:World}{cs:List T}{v:Value}(h:VR g w (.agg cs) v):∃vs:List Value,v=.agg vs.toArray∧bC g w cs vs∧cA cs:=by
 cases h with
 | @agg _ vs hl h1 h2=>exact⟨vs.toList,by simp,⟨by simp[hl],fun i t v ha hb=>h2 i t v ha (by simpa using hb)⟩,h1⟩
theorem VR.HF {g:Ctx}{w:World}{cs:List T}{v:Value}(h:VR g w (.bF cs) v):∃vs:List Value,v=.tuple vs.toArray∧bC g w cs vs:=by
 cases h with
 | @bF _ vs hl h2=>exact⟨vs.toList,by simp,⟨by simp[hl],fun i t v ha hb=>h2 i t v ha (by simpa using hb)⟩⟩
theorem jg {g:Ctx}{w:World}{t:T}{v:Value}{cs:List T}(h:VR g w t v)(hc:t.cells?=some cs):bC g w cs v.cells.toList∧cA cs:=by
 by_cases ha:∃c,t=.agg c
 ·obtain⟨c,rfl⟩:=ha
  simp[T.cells?]at hc;subst hc
  obtain⟨vs,rfl,h1,h2⟩:=h.fO
  exact⟨by simpa[Value.cells]using h1,h2⟩
 ·by_cases ht:∃c,t=.bF c
  ·obtain⟨c,rfl⟩:=ht;simp[T.cells?]at hc
  ·have e:cs=[t]:=by cases t<;>simp_all [T.cells?]
   have o:t.one=true:=by cases t<;>simp_all [T.one]
   have ev:v.cells=#[v]:=by
    have:=h.iz o
    cases v<;>simp_all [Value.cells,Value.oneCell']
   subst e
   rw[ev]
   exact⟨bC.cons h bC.nil,by simpa[cA]using o⟩
theorem qc {g:Ctx}{w:World}{cs:List T}{vs:List Value}{ag:Bool}{t:T}(h:bC g w cs vs)(ho:cA cs)(hv:valOf ag cs=some t) :
  (ag=true→VR g w t (.agg vs.toArray))∧(ag=false→∃v,vs=[v]∧VR g w t v):=by
 cases ag with
 | true=>simp[valOf]at hv;subst hv;exact⟨fun _=>h.agg ho,by simp⟩
 | false =>
  refine⟨by simp,fun _=>?_⟩
  cases cs with
  | nil=>simp[valOf]at hv
  | cons c cs =>
   cases cs with
   | nil =>
    simp[valOf]at hv;subst hv
    cases vs with
    | nil=>have:=h.1;simp at this
    | cons v vs =>
     cases vs with
     | nil=>exact⟨v,rfl,h.head⟩
     | cons _ _=>have:=h.1;simp at this
   | cons _ _=>simp[valOf]at hv
theorem bn {P:Program}{w:World}{t:TypeId}{i:TypeInfo}(h:P.info? t=some i):(typeInfo t).run P w=.ok i w:=by
 simp[typeInfo,h]
def dX:TypeDesc→Bool
 | .struct _ | .array _ _=>true
 | _=>false
theorem eV {P:Program}{t:TypeId}{d:TypeDesc}(h:P.underlying t=some d)(w:World):(isAgg t).run P w=.ok (dX d) w:=by
 simp only[isAgg,Sem.run_bind,run_underlying h,Result.andThen_ok]
 cases d<;>rfl
theorem L9 {P:Program}{w0 w:World}{g:Ctx}{H:af}{n:Nat}{ag:Bool}{p t:T}{vp:Value}{cs:List T}{ty:TypeId}{d:TypeDesc}{i:TypeInfo}
  (hd:P.underlying ty=some d) (hi:P.info? ty=some i) (tU:dX d=ag) (hn:ag=true→i.size=n)
  (h:SR w0 g H w) (hv:VR g w p vp) (he:nZ H n p=some cs) (ht:valOf ag cs=some t):b7 P w0 g H w (Instr.loadAt ty vp) t H:=by
 obtain⟨r,o,vs,rfl,h1,h2,h3,h4⟩:=oc h hv he
 obtain⟨ha,hb⟩:=qc h3 h4 ht
 cases ag with
 | true =>
  refine b7.same h (v:=.agg vs.toArray) ?_ (ha rfl)
  have:=run_loadCells_list (P:=P) w ⟨r,o,none⟩ vs (fun j v hj=>by rw[dc];exact h2 j v hj)
  simp[Instr.loadAt,Instr.sureAddr,loadVar,eV hd,tU,sizeOf,bn hi,hn rfl,←h1,this]
 | false =>
  obtain⟨v,rfl,fI⟩:=hb rfl
  refine b7.same h (v:=v) ?_ fI
  have:=h2 0 v rfl
  simp at this
  simp[Instr.loadAt,Instr.sureAddr,loadVar,eV hd,tU,run_load,this]
theorem HG {P:Program}{w0 w:World}{g:Ctx}{H:af}{n:Nat}{ag:Bool}{p t:T}{vp:Value}{cs:List T}{ty:TypeId}{d:TypeDesc}{i:TypeInfo}
  (hd:P.underlying ty=some d) (hi:P.info? ty=some i) (tU:dX d=ag) (hn:ag=true→i.size=n)
  (h:SR w0 g H w) (hv:VR g w p vp) (he:nZ H n p=some cs) (ht:valOf ag cs=some t):∃v w' g',(Instr.loadAt ty vp).run P w=.ok v w'∧w'=w∧VR g' w t v∧g'=g:=by
 obtain⟨r,o,vs,rfl,h1,h2,h3,h4⟩:=oc h hv he
 obtain⟨ha,hb⟩:=qc h3 h4 ht
 cases ag with
 | true =>
  refine⟨.agg vs.toArray,w,g,?_,rfl,ha rfl,rfl⟩
  have:=run_loadCells_list (P:=P) w ⟨r,o,none⟩ vs (fun j v hj=>by rw[dc];exact h2 j v hj)
  simp[Instr.loadAt,Instr.sureAddr,loadVar,eV hd,tU,sizeOf,bn hi,hn rfl,←h1,this]
 | false =>
  obtain⟨v,rfl,fI⟩:=hb rfl
  refine⟨v,w,g,?_,rfl,fI,rfl⟩
  have:=h2 0 v rfl
  simp at this
  simp[Instr.loadAt,Instr.sureAddr,loadVar,eV hd,tU,run_load,this]
section
variable {P:Program} {w:World} {op:BinOp} {ty:TypeId} {x y:Operand}
theorem sy {k k':IntKind}{a b:Int}:(eqGuard op ty x y (.int k a) (.int k' b)).run P w=.ok () w:=by cases op<;>rfl
theorem sz {a b:ByteArray}:(eqGuard op ty x y (.string a) (.string b)).run P w=.ok () w:=by cases op<;>rfl
theorem jB {a b:Bool}:(eqGuard op ty x y (.bool a) (.bool b)).run P w=.ok () w:=by cases op<;>rfl
theorem A0 {a b:Option Addr}:(eqGuard op ty x y (.pointer a) (.pointer b)).run P w=.ok () w:=by cases op<;>rfl
theorem vF {a b:Option Addr}{c d e f:Nat}:(eqGuard op ty x y (.slice a c d) (.slice b e f)).run P w=.ok () w:=by cases op<;>rfl
theorem A1 {a b:Option Nat}:(eqGuard op ty x y (.map a) (.map b)).run P w=.ok () w:=by cases op<;>rfl
theorem CO {f:Go.Fn}{a b:Array Value}:(eqGuard op ty x y (.func f a b) .nilFunc).run P w=.ok () w:=by cases op<;>rfl
theorem CP {f:Go.Fn}{a b:Array Value}:(eqGuard op ty x y .nilFunc (.func f a b)).run P w=.ok () w:=by cases op<;>rfl
theorem CQ:(eqGuard op ty x y .nilFunc .nilFunc).run P w=.ok () w:=by cases op<;>rfl
end
section
variable {P:Program} {w:World} {ty:TypeId}
theorem sA (n:Nat)(h:P.underlying ty=some .bool)(a b:Bool):(Op.equalIn (n+1) ty (.bool a) (.bool b)).run P w=.ok (a==b) w:=by
 rw[Op.equalIn];simp only[Sem.run_bind,run_underlying h,Result.andThen_ok];rfl
theorem CR (n:Nat){k:IntKind}(h:P.underlying ty=some (.int k))(a b:Int)(k':IntKind):(Op.equalIn (n+1) ty (.int k' a) (.int k' b)).run P w=.ok (a==b) w:=by
 rw[Op.equalIn];simp only[Sem.run_bind,run_underlying h,Result.andThen_ok];simp
theorem CS (n:Nat)(h:P.underlying ty=some .string)(a b:ByteArray):(Op.equalIn (n+1) ty (.string a) (.string b)).run P w=.ok (a==b) w:=by
 rw[Op.equalIn];simp only[Sem.run_bind,run_underlying h,Result.andThen_ok];rfl
theorem fS {x y:Value}{b:Bool}(h:∀n,(Op.equalIn (n+1) ty x y).run P w=.ok b w):(Op.equal ty x y).run P w=.ok b w:=h 9999
theorem qd (h:P.underlying ty=some .bool)(a b:Bool):(Op.equal ty (.bool a) (.bool b)).run P w=.ok (a==b) w:=fS fun n=>sA n h a b
end
theorem HH {P:Program}{w0 w:World}{g:Ctx}{H:af}{op:BinOp}{x y t:T}{vx vy:Value}{ty:TypeId}{ox oy:Operand}
  (h:SR w0 g H w) (hx:VR g w x vx) (hy:VR g w y vy) (he:cH op x y=some t):b7 P w0 g H w (do eqGuard op ty ox oy vx vy;binOp op ty vx vy) t H:=by
 cases hx<;>cases hy<;>(try (simp[cH]at he;done))
 case int.int k a k' b =>
  have key:∃v,(binOp op ty (.int k a) (.int k' b)).run P w=.ok v w∧VR g w t v:=by
   cases op<;>simp only[cH]at he<;>(repeat' (split at he))<;>(try (simp at he;done)) <;>
    (simp at he;subst he;first
     | (refine⟨_,?_,.int _ _⟩;simp_all [binOp,Op.shift,Op.intArith,Op.intDiv,Op.intBits,Op.intCmp];done)
     | (refine⟨_,?_,.int _ _⟩;rename_i hs;simp only[binOp,Op.shift,if_neg hs,Sem.run_pure];done)
     | (refine⟨_,?_,.bool _⟩;simp_all [binOp,Op.shift,Op.intArith,Op.intDiv,Op.intBits,Op.intCmp];done))
  obtain⟨v,hr,hv⟩:=key
  refine b7.same h (v:=v) ?_ hv
  simp[sy,sz,jB,hr]
 case str.str a b =>
  have key:∃v,(binOp op ty (.string a) (.string b)).run P w=.ok v w∧VR g w t v:=by
   cases op<;>simp only[cH]at he<;>(repeat' (split at he))<;>(try (simp at he;done)) <;>
    (simp at he;subst he;first
     | (refine⟨_,?_,.str _⟩;rename_i hs;simp[binOp,Op.stringOp,IntKind.max,IntKind.signed,IntKind.bits];omega)
     | (refine⟨_,?_,.bool _⟩;simp[binOp,Op.stringOp,jc,strLt];done))
  obtain⟨v,hr,hv⟩:=key
  refine b7.same h (v:=v) ?_ hv
  simp[sy,sz,jB,hr]
theorem HI {P:Program}{w0 w:World}{g:Ctx}{H:af}{neg:Bool}{a b:Bool}{vx vy:Value}{ty:TypeId}{ox oy:Operand}(hu:P.underlying ty=some .bool)
  (h:SR w0 g H w) (hx:VR g w (.bool a) vx) (hy:VR g w (.bool b) vy) :
  b7 P w0 g H w (do eqGuard (if neg then .neq else .eql) ty ox oy vx vy;binOp (if neg then .neq else .eql) ty vx vy) (.bool (if neg then !(a==b)else a==b)) H:=by
 cases hx;cases hy
 cases neg
 ·refine b7.same h (v:=.bool (a==b)) ?_ (.bool _)
  simp only[Bool.false_eq_true,if_false,Sem.run_bind,jB,Result.andThen_ok,binOp,qd hu,Sem.run_pure]
 ·refine b7.same h (v:=.bool (!(a==b))) ?_ (.bool _)
  simp only[if_true,Sem.run_bind,jB,Result.andThen_ok,binOp,qd hu,Sem.run_pure]
def CT:HC→TypeDesc→Bool
 | .ptr,.pointer _ | .slice,.slice _ | .map,.map _ _ | .func,.func _ _ _=>true
 | _,_=>false
theorem vG {g:Ctx}{w:World}{c:HC}{x:T}{vx:Value}{b:Bool}(hx:VR g w x vx)(h:jT c x=some b) :
  match c with
  | .ptr=>∃a:Option Addr,vx=.pointer a∧a.isNone=b
  | .slice=>∃(a:Option Addr) (l p:Nat),vx=.slice a l p∧a.isNone=b
  | .map=>∃r:Option Nat,vx=.map r∧r.isNone=b
  | .func=>(b=true∧vx=.nilFunc)∨(b=false∧∃f vs,vx=.func f #[] vs):=by
 cases c<;>cases hx<;>first
  | (change (none:Option Bool)=some b at h;simp at h;done)
  | (change some true=some b at h;simp at h;subst h;simp;done)
  | (change some false=some b at h;simp at h;subst h;simp;done)
  | skip
 case slice.sl k es r o cap n cR hk hc hn h1 h2 =>
  have hb:b=false:=by
   cases k
   ·exact hk.elim
   ·cases es with
    | nil=>change (none:Option Bool)=some b at h;simp at h
    | cons _ _=>change some false=some b at h;simpa using h.symm
   ·change some false=some b at h;simpa using h.symm
   ·change some false=some b at h;simpa using h.symm
  subst hb
  exact⟨_,_,_,rfl,rfl⟩
theorem HJ {P:Program}{w0 w:World}{g:Ctx}{H:af}{neg:Bool}{c:HC}{x y:T}{b:Bool}{vx vy:Value}{ty:TypeId}{ox oy:Operand}{d:TypeDesc}
  (hu:P.underlying ty=some d) (hc:CT c d=true)
  (h:SR w0 g H w) (hx:VR g w x vx) (hy:VR g w y vy) (he:dU c x y=some b) :
  b7 P w0 g H w (do eqGuard (if neg then .neq else .eql) ty ox oy vx vy;binOp (if neg then .neq else .eql) ty vx vy) (.bool (if neg then !b else b)) H:=by
 have key:(∀op,(eqGuard op ty ox oy vx vy).run P w=.ok () w)∧(Op.equal ty vx vy).run P w=.ok b w∧∀neg:Bool,(binOp (if neg then .neq else .eql) ty vx vy).run P w=((Op.equal ty vx vy).run P w).andThen fun b w'=>.ok (.bool (if neg then !b else b)) w':=by
  unfold dU at he
  cases CU:jT c x with
  | none=>simp[CU]at he
  | some bx =>
   cases hny:jT c y with
   | none=>cases bx<;>simp[CU,hny]at he
   | some bY =>
    have e:b=(bx&&bY)∧(bx=true∨bY=true):=by
     cases bx<;>cases bY<;>simp_all
    obtain⟨rfl,hor⟩:=e
    have h1:=vG hx CU
    have h2:=vG hy hny
    cases c with
    | ptr =>
     obtain⟨a,rfl,rfl⟩:=h1
     obtain⟨a',rfl,rfl⟩:=h2
     cases d<;>simp[CT]at hc
     refine⟨fun op=>A0,fS fun n=>?_,fun neg=>by cases neg<;>simp[binOp]⟩
     rw[Op.equalIn];simp only[Sem.run_bind,run_underlying hu,Result.andThen_ok]
     cases a<;>cases a'<;>simp_all
    | slice =>
     obtain⟨a,l,p,rfl,rfl⟩:=h1
     obtain⟨a',l',p',rfl,rfl⟩:=h2
     cases d<;>simp[CT]at hc
     refine⟨fun op=>vF,fS fun n=>?_,fun neg=>by cases neg<;>simp[binOp]⟩
     rw[Op.equalIn];simp only[Sem.run_bind,run_underlying hu,Result.andThen_ok]
     cases a<;>cases a'<;>simp_all
    | map =>
     obtain⟨a,rfl,rfl⟩:=h1
     obtain⟨a',rfl,rfl⟩:=h2
     cases d<;>simp[CT]at hc
     refine⟨fun op=>A1,fS fun n=>?_,fun neg=>by cases neg<;>simp[binOp]⟩
     rw[Op.equalIn];simp only[Sem.run_bind,run_underlying hu,Result.andThen_ok]
     cases a<;>cases a'<;>simp_all
    | func =>
     cases d<;>simp[CT]at hc
     rcases h1 with⟨rfl,rfl⟩|⟨rfl,f,vs,rfl⟩<;>rcases h2 with⟨rfl,rfl⟩|⟨rfl,f',Pt,rfl⟩
     ·refine⟨fun op=>CQ,fS fun n=>?_,fun neg=>by cases neg<;>simp[binOp]⟩
      rw[Op.equalIn];simp[run_underlying hu]
     ·refine⟨fun op=>CP,fS fun n=>?_,fun neg=>by cases neg<;>simp[binOp]⟩
      rw[Op.equalIn];simp[run_underlying hu]
     ·refine⟨fun op=>CO,fS fun n=>?_,fun neg=>by cases neg<;>simp[binOp]⟩
      rw[Op.equalIn];simp[run_underlying hu]
     ·simp at hor
 obtain⟨k1,k2,k3⟩:=key
 refine b7.same h (v:=.bool (if neg then !b else b)) ?_ (.bool _)
 simp only[Sem.run_bind,k1,Result.andThen_ok,k3,k2]
section
variable {P:Program} {w0 w:World} {g:Ctx} {H:af}
def G5:vg→TypeDesc→Bool
 | .int,.int _ | .str,.string | .bool,.bool=>true
 | _,_=>false
def flat (P:Program):List Field→Nat→List vg→Bool
 | [],_,[]=>true
 | f :: fs,off,k :: ks=>f.offset==off&&f.name != "_"&&(match P.underlying f.type with | some d=>G5 k d | none=>false)&&flat P fs (off+1) ks
 | _,_,_=>false
theorem zk {n:Nat}{ty:TypeId}{d:TypeDesc}{k:vg}(hu:P.underlying ty=some d)(hk:G5 k d=true){a b:T}{va vb:Value}{r:Bool}(ha:VR g w a va)(hb:VR g w b vb)(h1:a.xL k=true)(he:ik a b=some r) :
  (Op.equalIn (n+1) ty va vb).run P w=.ok r w:=by
 cases k<;>cases d<;>simp[G5]at hk<;>cases ha<;>simp[T.xL]at h1<;>cases hb<;>simp[ik]at he
 ·obtain⟨rfl,rfl⟩:=he
  rw[CR n hu]
 ·subst he
  rw[CS n hu,beq_toListBytes];rfl
 ·subst he
  rw[sA n hu]
theorem od {ty:TypeId}{d:TypeDesc}{k:vg}(hu:P.underlying ty=some d)(hk:G5 k d=true){xs:Array Value}{off:Nat}{v:Value}(h:xs[off]?=some v):(part ty xs off).run P w=.ok v w:=by
 have:dX d=false:=by cases k<;>cases d<;>simp_all [G5,dX]
 simp[part,eV hu,this,h]
theorem o3 {n:Nat}:∀(fs:List Field) (off:Nat) (ks:List vg) (cs ds:List T) (xs ys:Array Value) (r:Bool),flat P fs off ks=true→fk ks cs=true →
  (∀(i:Nat) (t:T),cs[i]?=some t→∃v,xs[off+i]?=some v∧VR g w t v)→(∀(i:Nat) (t:T),ds[i]?=some t→∃v,ys[off+i]?=some v∧VR g w t v)→bT cs ds=some r →
  (Op.eqFields (n+1) xs ys fs).run P w=.ok r w
 | [],off,ks,cs,ds,xs,ys,r,hf,hk,hc,hd,he=>by
  cases ks with
  | nil =>
   cases cs with
   | nil=>cases ds<;>simp[bT]at he;subst he;rfl
   | cons _ _=>simp[fk]at hk
  | cons _ _=>simp[flat]at hf
 | f :: fs,off,ks,cs,ds,xs,ys,r,hf,hk,hc,hd,he=>by
  cases ks with
  | nil=>simp[flat]at hf
  | cons k ks =>
   cases cs with
   | nil=>simp[fk]at hk
   | cons c cs =>
    cases ds with
    | nil=>simp[bT]at he
    | cons d ds =>
     simp only[flat,Bool.and_eq_true,beq_iff_eq,bne_iff_ne]at hf
     obtain⟨⟨⟨A2,CV⟩,G6⟩,fC⟩:=hf
     simp only[fk,Bool.and_eq_true]at hk
     cases hu:P.underlying f.type with
     | none=>simp[hu]at G6
     | some de =>
      simp[hu]at G6
      obtain⟨va,Cl,A3⟩:=hc 0 c rfl
      obtain⟨vb,ko,kb⟩:=hd 0 d rfl
      simp only[Nat.add_zero]at Cl ko
      simp only[bT]at he
      cases e1:ik c d with
      | none=>simp[e1]at he
      | some r1 =>
       cases e2:bT cs ds with
       | none=>simp[e1,e2]at he
       | some r2 =>
        simp[e1,e2]at he;subst he
        have ih:=o3 (n:=n) fs (off+1) ks cs ds xs ys r2 fC hk.2 (fun i t hi=>by have:=hc (i+1) t (by simpa using hi);rwa[show off+1+i=off+(i+1) by omega])
         (fun i t hi=>by have:=hd (i+1) t (by simpa using hi);rwa[show off+1+i=off+(i+1) by omega]) e2
        simp only[Op.eqFields,CV,ne_eq,not_false_eq_true,if_true,Sem.run_bind,A2,od hu G6 Cl,od hu G6 ko,Result.andThen_ok,zk hu G6 A3 kb hk.1 e1]
        cases r1
        ·simp
        ·simp[ih]
theorem bC.fP {ts:List T}{vs:List Value}(h:bC g w ts vs)(i:Nat)(t:T)(hi:ts[i]?=some t):∃v,vs.toArray[i]?=some v∧VR g w t v:=by
 have au:i<vs.length:=by rw[←h.1];exact(List.getElem?_eq_some_iff.1 hi).1
 exact⟨vs[i],by simp[au],h.2 i t _ hi (List.getElem?_eq_getElem au)⟩
theorem sB {ty:TypeId}{fs:Array Field}{ks:List vg}(hu:P.underlying ty=some (.struct fs))(hf:flat P fs.toList 0 ks=true)(hp:P.stoodInHeld ty=false){cs ds:List T}{xs ys:List Value}{r:Bool}
  (hk:fk ks cs=true) (hx:bC g w cs xs) (hy:bC g w ds ys) (he:bT cs ds=some r) (n:Nat):(Op.equalIn (n+1+1) ty (.agg xs.toArray) (.agg ys.toArray)).run P w=.ok r w:=by
 have Pu:P.fieldsOf ty=fs:=by simp[Program.fieldsOf,hu]
 rw[run_equalIn_struct w (n+1) ty _ _ (by rw[Pu];exact hu) hp,Pu]
 exact o3 _ 0 ks cs ds _ _ r hf hk (fun i t hi=>by simpa using hx.fP i t hi) (fun i t hi=>by simpa using hy.fP i t hi) he
theorem HK {neg:Bool}{ks:List vg}{cs ds:List T}{r:Bool}{vx vy:Value}{ty:TypeId}{ox oy:Operand}{fs:Array Field}
  (hu:P.underlying ty=some (.struct fs)) (hf:flat P fs.toList 0 ks=true) (hp:P.stoodInHeld ty=false) (hg:P.eqGuardType P.depth ty=false)
  (h:SR w0 g H w) (hx:VR g w (.agg cs) vx) (hy:VR g w (.agg ds) vy) (hk:fk ks cs=true) (he:bT cs ds=some r) :
  b7 P w0 g H w (do eqGuard (if neg then .neq else .eql) ty ox oy vx vy;binOp (if neg then .neq else .eql) ty vx vy) (.bool (if neg then !r else r)) H:=by
 obtain⟨xs,rfl,G7,_⟩:=hx.fO
 obtain⟨ys,rfl,Pv,_⟩:=hy.fO
 have e:(Op.equalIn 10000 ty (.agg xs.toArray) (.agg ys.toArray)).run P w=.ok r w:=sB hu hf hp hk G7 Pv he 9998
 refine b7.same h (v:=.bool (if neg then !r else r)) ?_ (.bool _)
 cases neg
 ·simp only[Bool.false_eq_true,if_false,Sem.run_bind,run_eqGuard_agg w _ _ _ _ _ _ hg,Result.andThen_ok,run_eql_struct,e]
 ·simp only[if_true,Sem.run_bind,run_eqGuard_agg w _ _ _ _ _ _ hg,Result.andThen_ok,run_neq_struct,e]
theorem Ma {op:UnOp}{x t:T}{vx:Value}(h:SR w0 g H w)(hx:VR g w x vx)(he:KH op x=some t):b7 P w0 g H w (Op.unary op vx) t H:=by
 cases hx<;>(try (simp[KH]at he;done))<;>cases op<;>simp[KH]at he<;>subst he
 ·exact b7.same h (by simp[Op.unary,Op.intArith]) (.int _ _)
 ·exact b7.same h (by simp[Op.unary,Op.intBits]) (.int _ _)
 ·exact b7.same h (by simp[Op.unary]) (.bool _)
theorem HL {src dst:TypeId}{ds:TypeDesc}{k k0:IntKind}{n:Int}{vx:Value}(hs:P.underlying src=some ds)(hd:P.underlying dst=some (.int k))(h:SR w0 g H w)(hx:VR g w (.int k0 n) vx) :
  b7 P w0 g H w (convert src dst vx) (.int k (k.wrap n)) H:=by
 cases hx
 exact b7.same h (by simp[convert,run_underlying hs,run_underlying hd,Conv.intToInt]) (.int _ _)
theorem CW {c:Bool}{x y:T}{vc vx vy:Value}(h:SR w0 g H w)(hc:VR g w (.bool c) vc)(hx:VR g w x vx)(hy:VR g w y vy) :
  b7 P w0 g H w (do pure (if ←asBool vc then vx else vy)) (if c then x else y) H:=by
 cases hc
 refine b7.same h (v:=if c then vx else vy) (by simp[asBool]) ?_
 cases c<;>simpa
def VQ:Lc→TypeDesc→Bool
 | .str,.string | .sl,.slice _ | .map,.map _ _=>true
 | _,_=>false
theorem HM {ty rt:TypeId}{d:TypeDesc}{k:Lc}{x:T}{vx:Value}{n:Nat}(hu:P.underlying ty=some d)(hd:VQ k d=true)
  (h:SR w0 g H w) (hx:VR g w x vx) (he:jf H k x=some n):b7 P w0 g H w (Builtin.len_ #[ty] rt #[vx]) (.int .i64 n) H:=by
 refine b7.same h (v:=.int .i64 n) ?_ (.int _ _)
 cases k<;>cases d<;>(first|(simp[VQ]at hd;done)|skip)<;>cases hx<;>simp[jf]at he
 ·subst he;simp[Builtin.len_,run_underlying hu,goInt]
 ·subst he;simp[Builtin.len_,run_underlying hu,goInt]
 ·subst he;simp[Builtin.len_,run_underlying hu,goInt]
 ·subst he;simp[Builtin.len_,run_underlying hu,goInt]
 ·subst he;simp[Builtin.len_,run_underlying hu,goInt]
 ·subst he;simp[Builtin.len_,run_underlying hu,goInt]
 ·subst he;simp[Builtin.len_,run_underlying hu,goInt]
 ·rename_i b r o q hφ
  cases hb:H[b]? with
  | none=>simp[hb]at he
  | some y =>
   cases y<;>simp[hb]at he
   ·rename_i es
    obtain⟨_,aw,c,h2,h3,_⟩:=h.dQ b _ hb r o q hφ
    subst he
    simp[Builtin.len_,run_underlying hu,goInt,getObj,Sem.run,h2,h3.1]
   ·rename_i es _ _ _
    obtain⟨r',o',q',kj,_,aw,c,h2,h3,_⟩:=h.dQ b _ hb
    rw[hφ]at kj;cases kj
    subst he
    simp[Builtin.len_,run_underlying hu,goInt,getObj,Sem.run,h2,h3.1]
theorem m9 {n:Nat}{x:T}{vx:Value}{es:List (List T)}(h:SR w0 g H w)(hx:VR g w x vx)(he:bK H n x=some es)(hs:∀s,x≠.str s) :
  ∃(a:Option Addr) (cap:Nat) (vs:List Value),vx=.slice a es.length cap∧es.length≤cap∧(a=none→es=[]∧cap=0)∧(∀a',a=some a'→(es≠[]→a'.spot=none)∧∀(j:Nat) (v:Value),vs[j]?=some v→w.cell? (a'.add j)=some v) ∧
   bC g w es.flatten vs∧vs.length=es.length*n∧cA es.flatten∧∀c∈es,c.length=n:=by
 cases hx with
 | slnil=>simp[bK]at he;subst he;exact⟨none,0,[],rfl,Nat.le_refl _,fun _=>⟨rfl,rfl⟩,(by simp),bC.nil,by simp,by simp[cA],by simp⟩
 | iw a=>simp[bK]at he;subst he;exact⟨a,0,[],rfl,Nat.le_refl _,fun _=>⟨rfl,rfl⟩,(by simp),bC.nil,by simp,by simp[cA],by simp⟩
 | @sl k Cm r o cap n' cR hk hc hn h1 h2 =>
  simp only[bK]at he
  split at he
  ·rename_i cr
   simp at he;subst he
   have l9:∀c∈Cm,c.length=n:=by simpa using cr
   have key:∀(i j:Nat),i<Cm.length→j<n→∃c t,Cm[i]?=some c∧c[j]?=some t∧t.one=true∧w.cell? ⟨r,o+i*n+j,none⟩=some (cR i j)∧VR g w t (cR i j):=by
    intro i j hi hj
    have e1:Cm[i]?=some Cm[i]:=List.getElem?_eq_getElem hi
    have l1:(Cm[i]).length=n:=l9 _ (List.getElem_mem hi)
    have l2:(Cm[i]).length=n':=hn _ (List.getElem_mem hi)
    have e2:(Cm[i])[j]?=some ((Cm[i])[j]'(by omega)):=List.getElem?_eq_getElem _
    have a:=h1 i j _ _ e1 e2
    have tV:n'=n:=by omega
    exact⟨_,_,e1,e2,a.1,by rw[←tV];exact a.2.2,h2 i j _ _ e1 e2⟩
   have build:∀(l:List (List T)) (k:Nat),(∀i c,l[i]?=some c→Cm[k+i]?=some c)→∃vs:List Value,vs.length=l.length*n∧bC g w l.flatten vs∧cA l.flatten ∧
     ∀(j:Nat) (v:Value),vs[j]?=some v→w.cell? ⟨r,o+k*n+j,none⟩=some v:=by
    intro l
    induction l with
    | nil=>intro k _;exact⟨[],by simp,bC.nil,by simp[cA],by simp⟩
    | cons c l ih =>
     intro k hk
     have mr:=hk 0 c rfl
     simp only[Nat.add_zero]at mr
     have Mb:k<Cm.length:=(List.getElem?_eq_some_iff.1 mr).1
     have lq:c.length=n:=l9 c (List.mem_of_getElem? mr)
     obtain⟨vs,a1,a2,a3,a4⟩:=ih (k+1) (fun i c' hi=>by have:=hk (i+1) c' (by simpa using hi);rwa[show k+1+i=k+(i+1) by omega])
     refine⟨(List.range n).map (cR k)++vs,by simp[a1,Nat.succ_mul];omega,?_,?_,fun j v hj=>?_⟩
     ·rw[List.flatten_cons]
      refine bC.append ⟨by simp[lq],fun i t v hi hv=>?_⟩ a2
      have au:i<n:=by have:=(List.getElem?_eq_some_iff.1 hv).1;simpa using this
      obtain⟨c',t',e1,e2,_,_,e5⟩:=key k i Mb au
      rw[mr]at e1;cases e1
      rw[hi]at e2;cases e2
      simp[au]at hv
      rw[←hv];exact e5
     ·rw[List.flatten_cons]
      intro t ht
      rcases List.mem_append.1 ht with ht|ht
      ·obtain⟨i,hi,rfl⟩:=List.getElem_of_mem ht
       obtain⟨c',t',e1,e2,e3,_,_⟩:=key k i Mb (by omega)
       rw[mr]at e1;cases e1
       rw[List.getElem?_eq_getElem hi]at e2;cases e2
       exact e3
      ·exact a3 t ht
     ·rw[List.getElem?_append]at hj
      split at hj
      ·rename_i au
       simp at au
       simp[au]at hj
       obtain⟨c',t',_,_,_,e4,_⟩:=key k j Mb au
       rw[←hj];exact e4
      ·rename_i dY
       simp at dY hj
       have:=a4 _ v hj
       rwa[show o+(k+1)*n+(j-n)=o+k*n+j by rw[Nat.succ_mul];omega]at this
   obtain⟨vs,a1,a2,a3,a4⟩:=build Cm 0 (fun i c h=>by simpa using h)
   refine⟨some ⟨r,o,none⟩,cap,vs,rfl,hc,by simp,fun a' ha=>?_,a2,a1,a3,l9⟩
   cases ha
   exact⟨fun _=>rfl,fun j v hj=>by rw[dc];simpa using a4 j v hj⟩
  ·simp at he
 | @ax b off len n' r o q cap hφ hc hq =>
  simp only[bK]at he
  cases hb:H[b]? with
  | none=>simp[hb]at he
  | some y =>
   cases y with
   | cells cs =>
    simp only[hb]at he
    split at he
    ·rename_i cE
     obtain⟨rfl,hle⟩:=cE
     simp at he
     obtain⟨h1,h2,h3⟩:=h.dQ b _ hb r o q hφ
     have hlen:es.length=len:=by rw[←he];simp
     have hn:∀c∈es,c.length=n':=by
      rw[←he]
      intro c iA
      obtain⟨i,hi,rfl⟩:=List.mem_map.1 iA
      simp at hi
      have:i*n'+n'≤len*n':=by rw[←Nat.succ_mul];exact Nat.mul_le_mul_right _ hi
      simp;omega
     have rF:∀m,m≤len→((List.range m).map fun i=>(cs.drop (off+i*n')).take n').flatten=(cs.drop off).take (m*n'):=by
      intro m
      induction m with
      | zero=>intro _;simp
      | succ m ih =>
       intro hm
       rw[List.range_succ,List.map_append,List.flatten_append,ih (by omega)]
       simp only[List.map_cons,List.map_nil,List.flatten_cons,List.flatten_nil,List.append_nil]
       rw[Nat.succ_mul,List.take_add,List.drop_drop]
     have KK:es.flatten=(cs.drop off).take (len*n'):=by rw[←he];exact rF len (Nat.le_refl _)
     have hp:nZ H (len*n') (.ptr b off)=some ((cs.drop off).take (len*n')):=by simp[nZ,hb,hle]
     obtain⟨r',o',vs,e1,e2,e3,e4,e5⟩:=oc h (.ptr hφ) hp
     cases e1
     refine⟨some ⟨r,o+off,none⟩,cap,vs,by rw[hlen],by omega,by simp,fun a' ha=>?_,by rw[KK];exact e4,by rw[e2,hlen],by rw[KK];exact e5,hn⟩
     cases ha
     exact⟨fun _=>rfl,fun j v hj=>by rw[dc];exact e3 j v hj⟩
    ·simp at he
   | map _=>simp[hb]at he
   | tok _=>simp[hb]at he
   | _=>simp[hb]at he
 | str s=>exact absurd rfl (hs s)
 | _=>simp[bK]at he
theorem qe:∀(es:List (List T)) (l:List UInt8),bytesOf es=some l→∃ns:List Int,es=ns.map (fun n=>[T.int .u8 n])∧l=ns.map (fun n=>UInt8.ofNat n.toNat)
 | [],l,h=>⟨[],rfl,by simpa[bytesOf]using h.symm⟩
 | [.int .u8 n] :: es,l,h=>by
  simp only[bytesOf,Option.map_eq_some_iff]at h
  obtain⟨l',h1,rfl⟩:=h
  obtain⟨ns,rfl,rfl⟩:=qe es l' h1
  exact⟨n :: ns,rfl,rfl⟩
 | [] :: es,l,h=>by simp[bytesOf]at h
 | (_ :: _ :: _) :: es,l,h=>by simp[bytesOf]at h
 | [.int .i8 n] :: es,l,h=>by simp[bytesOf]at h
 | [.int .i16 n] :: es,l,h=>by simp[bytesOf]at h
 | [.int .i32 n] :: es,l,h=>by simp[bytesOf]at h
 | [.int .i64 n] :: es,l,h=>by simp[bytesOf]at h
 | [.int .u16 n] :: es,l,h=>by simp[bytesOf]at h
 | [.int .u32 n] :: es,l,h=>by simp[bytesOf]at h
 | [.int .u64 n] :: es,l,h=>by simp[bytesOf]at h
 | [.bool _] :: es,l,h=>by simp[bytesOf]at h
 | [.str _] :: es,l,h=>by simp[bytesOf]at h
 | [.b0] :: es,l,h=>by simp[bytesOf]at h
 | [.ptr _ _] :: es,l,h=>by simp[bytesOf]at h
 | [.cP _] :: es,l,h=>by simp[bytesOf]at h
 | [.gk] :: es,l,h=>by simp[bytesOf]at h
 | [.map _] :: es,l,h=>by simp[bytesOf]at h
 | [.sl _ _] :: es,l,h=>by simp[bytesOf]at h
 | [.ax _ _ _ _] :: es,l,h=>by simp[bytesOf]at h
 | [.mq] :: es,l,h=>by simp[bytesOf]at h
 | [.fn _ _] :: es,l,h=>by simp[bytesOf]at h
 | [.gl] :: es,l,h=>by simp[bytesOf]at h
 | [.agg _] :: es,l,h=>by simp[bytesOf]at h
 | [.bF _] :: es,l,h=>by simp[bytesOf]at h
theorem foldl_push (ns:List Int):∀(b:ByteArray),ns.foldl (fun r n=>r.push (UInt8.ofNat n.toNat)) b=⟨b.data++(ns.map (fun n=>UInt8.ofNat n.toNat)).toArray⟩:=by
 induction ns with
 | nil=>intro b;simp
 | cons n ns ih=>intro b;rw[List.foldl_cons,ih];cases b;simp[ByteArray.push]
theorem Qc (ns:List Int):(ns.map fun n=>[T.int .u8 n]).flatten=ns.map (T.int .u8):=by
 induction ns with
 | nil=>rfl
 | cons n ns ih=>simp only[List.map_cons,List.flatten_cons,ih];rfl
theorem HN {src dst e:TypeId}{x:T}{vx:Value}{es:List (List T)}{l:List UInt8}(hs:P.underlying src=some (.slice e))(hb:P.underlying e=some (.int .u8))(hd:P.underlying dst=some .string)
  (h:SR w0 g H w) (hx:VR g w x vx) (he:bK H 1 x=some es) (hn:∀s,x≠.str s) (hl:bytesOf es=some l):b7 P w0 g H w (convert src dst vx) (.str ⟨l.toArray⟩) H:=by
 obtain⟨a,cap,vs,rfl,_,h1,h2,h3,h4,h5,_⟩:=m9 h hx he hn
 obtain⟨ns,rfl,rfl⟩:=qe es l hl
 refine b7.same h ?_ (.str _)
 rw[run_convert_bytes_string w src dst e a _ cap hs hb hd]
 cases a with
 | none =>
  have:=h1 rfl
  have KL:ns=[]:=by simpa using this.1
  subst KL
  simp[Conv.bytesToString];rfl
 | some a =>
  obtain⟨_,h6⟩:=h2 a rfl
  have iq:vs=ns.map (Value.int .u8):=by
   apply List.ext_getElem?
   intro i
   have hlen:vs.length=ns.length:=by simpa using h4
   by_cases hi:i<ns.length
   ·have hv:vs[i]?=some vs[i]:=List.getElem?_eq_getElem (by omega)
    have ht:((ns.map fun n=>[T.int .u8 n]).flatten)[i]?=some (T.int .u8 ns[i]):=by
     rw[Qc];simp[hi]
    have:=h3.2 i _ _ ht hv
    rw[hv]
    simp only[List.getElem?_map,List.getElem?_eq_getElem hi,Option.map_some]
    congr 1
    generalize vs[i]=vv at this
    cases this;rfl
   ·rw[List.getElem?_eq_none (by omega),List.getElem?_eq_none (by simpa using hi)]
  have:=run_loadCells_list (P:=P) w a vs h6
  rw[h4]at this
  have hl:(ns.map fun n=>[T.int .u8 n]).length*1=(ns.map fun n=>[T.int .u8 n]).length:=Nat.mul_one _
  rw[hl]at this
  rw[run_bytesToString w a _ cap ns (by rw[this,iq]),foldl_push]
  show Result.ok (Value.string ⟨#[]++_⟩) w=_
  simp
end
section
variable {P:Program} {w0 w:World} {g:Ctx} {H:af}
def qf:Value→Option T
 | .int k n=>some (.int k n)
 | .bool b=>some (.bool b)
 | .string s=>some (.str s)
 | .pointer none=>some .b0
 | .slice none 0 0=>some (.sl .nil [])
 | .map none=>some .gk
 | .nilFunc=>some .mq
 | .nilIface=>some .gl
 | _=>none
def eX:List Value→Option (List T)
 | []=>some []
 | v :: vs=>match qf v,eX vs with
  | some t,some ts=>some (t :: ts)
  | _,_=>none
def mw:Value→Option T
 | .agg cs=>(eX cs.toList).map .agg
 | .tuple cs=>if cs.size=0 then some (.bF [])else none
 | v=>qf v
theorem sC {v:Value}{t:T}(h:qf v=some t):VR g w t v∧t.one=true:=by
 unfold qf at h
 split at h<;>simp at h<;>subst h
 ·exact⟨.int _ _,rfl⟩
 ·exact⟨.bool _,rfl⟩
 ·exact⟨.str _,rfl⟩
 ·exact⟨.b0,rfl⟩
 ·exact⟨.slnil,rfl⟩
 ·exact⟨.gk,rfl⟩
 ·exact⟨.mq,rfl⟩
 ·exact⟨.gl,rfl⟩
theorem dA:∀(vs:List Value) (ts:List T),eX vs=some ts→bC g w ts vs∧cA ts
 | [],ts,h=>by simp[eX]at h;subst h;exact⟨bC.nil,by simp[cA]⟩
 | v :: vs,ts,h=>by
  simp only[eX]at h
  cases h1:qf v with
  | none=>simp[h1]at h
  | some t =>
   cases h2:eX vs with
   | none=>simp[h1,h2]at h
   | some L7 =>
    simp[h1,h2]at h;subst h
    obtain⟨a,b⟩:=sC (g:=g) (w:=w) h1
    obtain⟨c,d⟩:=dA vs L7 h2
    exact⟨bC.cons a c,by intro x hx;rcases List.mem_cons.1 hx with rfl|hx;exact b;exact d x hx⟩
theorem lr {v:Value}{t:T}(h:mw v=some t):VR g w t v:=by
 unfold mw at h
 split at h
 ·rename_i cs
  simp only[Option.map_eq_some_iff]at h
  obtain⟨ts,h1,rfl⟩:=h
  obtain⟨a,b⟩:=dA (g:=g) (w:=w) _ _ h1
  have:=a.agg b
  simpa using this
 ·rename_i cs
  split at h
  ·rename_i hs
   simp at h;subst h
   have:cs=#[]:=Array.eq_empty_of_size_eq_zero hs
   subst this
   exact .bF rfl (by simp)
  ·simp at h
 ·exact(sC h).1
theorem dZ {x:T}{vx:Value}{i:Nat}(hx:VR g w x vx)(h:cq x=some i):∃(k:IntKind) (n:Int),vx=.int k n∧0≤n∧n.toNat=i:=by
 cases hx<;>simp[cq]at h
 exact⟨_,_,rfl,h.1,h.2⟩
theorem A4 {cs:List T}{r o off:Nat}(h:VR g w (.cP cs) (.pointer (some ⟨r,o,none⟩))):VR g w (.cP (cs.drop off)) (.pointer (some ⟨r,o+off,none⟩)):=by
 cases h with
 | cP cR h1 h2 =>
  refine .cP (fun j=>cR (off+j)) (fun j t e=>?_) (fun j t e=>?_)
  ·rw[List.getElem?_drop]at e
   have:=h1 (off+j) t e
   exact⟨this.1,by rw[Nat.add_assoc];exact this.2⟩
  ·rw[List.getElem?_drop]at e
   exact h2 (off+j) t e
theorem HO {ty:TypeId}{fs:Array Field}{i:Nat}{f:Field}{fi:TypeInfo}{x t:T}{vx:Value}(hu:P.underlying ty=some (.struct fs))(hf:fs[i]?=some f)(hi:P.info? f.type=some fi)(hz:fi.size≠0)
  (h:SR w0 g H w) (hx:VR g w x vx) (he:vC f.offset x=some t) :
  b7 P w0 g H w (Instr.fieldAt ty vx i) t H:=by
 cases hx<;>simp[vC]at he
 case ptr b off r o q hφ =>
  subst he
  refine b7.same h (v:=.pointer (some ⟨r,o+(off+f.offset),none⟩)) ?_ (.ptr hφ)
  simp[Instr.fieldAt,Instr.sureAddr,run_underlying hu,hf,fieldPlace,sizeOf,bn hi,hz,dc,Nat.add_assoc]
 case cP cs r o cR h1 h2 =>
  obtain⟨_,rfl⟩:=he
  refine b7.same h (v:=.pointer (some ⟨r,o+f.offset,none⟩)) ?_ (A4 (.cP cR h1 h2))
  simp[Instr.fieldAt,Instr.sureAddr,run_underlying hu,hf,fieldPlace,sizeOf,bn hi,hz,dc]
theorem vH {ty:TypeId}{d:TypeDesc}{i:TypeInfo}{ag:Bool}{n off:Nat}{cs:List T}{vs:List Value}{t:T}(hd:P.underlying ty=some d)(hi:P.info? ty=some i)(tU:dX d=ag)(hn:i.size=n)
  (hv:bC g w cs vs) (ho:cA cs) (hle:off+n≤cs.length) (he:valOf ag ((cs.drop off).take n)=some t):∃v,(part ty vs.toArray off).run P w=.ok v w∧VR g w t v:=by
 have h1:=(hv.drop off).take n
 have h2:cA ((cs.drop off).take n):=fun x hx=>ho x (List.mem_of_mem_drop (List.mem_of_mem_take hx))
 obtain⟨ha,hb⟩:=qc h1 h2 he
 cases ag with
 | true =>
  refine⟨_,?_,ha rfl⟩
  simp[part,eV hd,tU,sizeOf,bn hi,hn]
 | false =>
  obtain⟨v,h3,h4⟩:=hb rfl
  refine⟨v,?_,h4⟩
  have h5:vs[off]?=some v:=by
   have:((vs.drop off).take n)[0]?=some v:=by rw[h3];rfl
   rw[List.getElem?_take]at this
   split at this
   ·rw[List.getElem?_drop]at this;simpa using this
   ·simp at this
  simp[part,eV hd,tU,h5]
theorem HP {ty:TypeId}{fs:Array Field}{i:Nat}{f:Field}{fi:TypeInfo}{d:TypeDesc}{cs:List T}{t:T}{vx:Value}{ag:Bool}(hu:P.underlying ty=some (.struct fs))(hf:fs[i]?=some f)(hd:P.underlying f.type=some d)(hi:P.info? f.type=some fi)
  (tU:dX d=ag) (h:SR w0 g H w) (hx:VR g w (.agg cs) vx) (hle:f.offset+fi.size≤cs.length) (he:valOf ag ((cs.drop f.offset).take fi.size)=some t):b7 P w0 g H w (Instr.field ty vx i) t H:=by
 obtain⟨vs,rfl,h1,h2⟩:=hx.fO
 obtain⟨v,hr,hv⟩:=vH (P:=P) hd hi tU rfl h1 h2 hle he
 exact b7.same h (by simp[Instr.field,run_underlying hu,hf,asAgg,hr]) hv
theorem HQ {ty elem:TypeId}{ei:TypeInfo}{x ix t:T}{i:Nat}{vx vi:Value}(hu:P.underlying ty=some (.slice elem))(hi:P.info? elem=some ei)
  (h:SR w0 g H w) (hx:VR g w x vx) (vI:VR g w ix vi) (hn:cq ix=some i) (he:dE ei.size i x=some t):b7 P w0 g H w (Instr.indexAt ty vx vi) t H:=by
 obtain⟨k,m,rfl,vJ,Cn⟩:=dZ vI hn
 cases hx<;>simp[dE]at he
 case sl k' es r o cap n cR hk hc A5 h1 h2 =>
  cases ib:es[i]? with
  | none=>simp[ib]at he
  | some c =>
   simp[ib]at he
   obtain⟨⟨lq,bG⟩,rfl⟩:=he
   have au:i<es.length:=(List.getElem?_eq_some_iff.1 ib).1
   have hcn:c.length=n:=A5 c (List.mem_of_getElem? ib)
   have tV:n=ei.size:=by omega
   subst tV
   refine b7.same h (v:=.pointer (some ⟨r,o+i*ei.size,none⟩)) ?_ (.cP (cR i) (fun j t e=>h1 i j c t ib e) (fun j t e=>h2 i j c t ib e))
   have xP:m<es.length:=by omega
   simp[Instr.indexAt,asIntOf,run_underlying hu,vJ,xP,sizeOf,bn hi,dc,Cn]
 case ax b off len n r o q cap hφ hc hq =>
  obtain⟨⟨rfl,au,bG⟩,rfl⟩:=he
  refine b7.same h (v:=.pointer (some ⟨r,o+(off+i*ei.size),none⟩)) ?_ (.ptr hφ)
  have xP:m<len:=by omega
  simp[Instr.indexAt,asIntOf,run_underlying hu,vJ,xP,sizeOf,bn hi,dc,Cn,Nat.add_assoc]
theorem HR {ty elem:TypeId}{len:Nat}{ei:TypeInfo}{ix:T}{b off i:Nat}{vx vi:Value}(hu:P.underlying ty=some (.array len elem))(hi:P.info? elem=some ei)
  (h:SR w0 g H w) (hx:VR g w (.ptr b off) vx) (vI:VR g w ix vi) (hn:cq ix=some i) (au:i<len):b7 P w0 g H w (Instr.indexAt ty vx vi) (.ptr b (off+i*ei.size)) H:=by
 obtain⟨k,m,rfl,vJ,Cn⟩:=dZ vI hn
 cases hx with
 | @ptr _ _ r o q hφ =>
  refine b7.same h (v:=.pointer (some ⟨r,o+(off+i*ei.size),none⟩)) ?_ (.ptr hφ)
  have xP:m<len:=by omega
  simp[Instr.indexAt,Instr.sureAddr,asIntOf,run_underlying hu,vJ,xP,sizeOf,bn hi,dc,Cn,Nat.add_assoc]
theorem HS {ty:TypeId}{ix:T}{s:ByteArray}{i:Nat}{c:UInt8}{vx vi:Value}(hu:P.underlying ty=some .string)
  (h:SR w0 g H w) (hx:VR g w (.str s) vx) (vI:VR g w ix vi) (hn:cq ix=some i) (hc:s.data[i]?=some c):b7 P w0 g H w (Instr.index ty vx vi) (.int .u8 c.toNat) H:=by
 obtain⟨k,m,rfl,vJ,Cn⟩:=dZ vI hn
 cases hx
 refine b7.same h ?_ (.int _ _)
 have iA:s[i]?=some c:=by
  have au:i<s.data.size:=(Array.getElem?_eq_some_iff.1 hc).1
  have h2:=(Array.getElem?_eq_some_iff.1 hc).2
  have A6:i<s.size:=au
  rw[getElem?_pos s i A6]
  exact congrArg some h2
 simp[Instr.index,asIntOf,run_underlying hu,vJ,Cn,iA]
theorem HT {ty elem:TypeId}{len i:Nat}{ei:TypeInfo}{d:TypeDesc}{ag:Bool}{ix t:T}{cs:List T}{vx vi:Value}(hu:P.underlying ty=some (.array len elem))(hd:P.underlying elem=some d)(hi:P.info? elem=some ei)(tU:dX d=ag)
  (h:SR w0 g H w) (hx:VR g w (.agg cs) vx) (vI:VR g w ix vi) (hn:cq ix=some i) (au:i<len) (hle:i*ei.size+ei.size≤cs.length) (he:valOf ag ((cs.drop (i*ei.size)).take ei.size)=some t):b7 P w0 g H w (Instr.index ty vx vi) t H:=by
 obtain⟨k,m,rfl,vJ,Cn⟩:=dZ vI hn
 obtain⟨vs,rfl,h1,h2⟩:=hx.fO
 obtain⟨v,hr,hv⟩:=vH (P:=P) hd hi tU rfl h1 h2 hle he
 have xP:m<len:=by omega
 exact b7.same h (by simp[Instr.index,asIntOf,run_underlying hu,vJ,xP,sizeOf,bn hi,Cn,hr]) hv
def OV (g:Ctx)(w:World)(R:ar):Option X→Option Value→Prop
 | none,none=>True
 | some x,some v=>VR g w (x.ev R) v
 | _,_=>False
def Mc (l:Nat):Option Value→Prop
 | none=>l=0
 | some v=>∃k n,v=.int k n∧0≤n∧n.toNat=l
theorem run_sliceBound {k:IntKind}{n:Int}{y:Nat}{c:BoundsCode}(h0:0≤n)(hy:n.toNat≤y):(Instr.sliceBound (.int k n) y c).run P w=.ok n.toNat w:=by
 have:n≤y:=by omega
 simp[Instr.sliceBound,asIntOf,h0,this]
theorem gG {R:ar}{G8:Bool}{len cap d l hh:Nat}{lo hi:Option X}{kv mU:Option Value}(mV:OV g w R lo kv)
  (xQ:OV g w R hi mU) (hl:gh R 0 lo=some l) (sD:gh R d hi=some hh) (hd:hi=none→d=len) (h1:l≤hh) (h2:hh≤cap) :
  (Instr.sliceBounds G8 len cap kv mU none).run P w=.ok (l,hh,cap) w:=by
 have eh:∀c,(match mU with|some v=>Instr.sliceBound v cap c|none=>pure len:Sem Nat).run P w=.ok hh w:=by
  intro c
  cases hi with
  | none =>
   cases mU with
   | none=>simp[gh]at sD;simp[←sD,hd rfl]
   | some _=>exact xQ.elim
  | some x =>
   cases mU with
   | none=>exact xQ.elim
   | some v =>
    obtain⟨k,n,rfl,a,b⟩:=dZ xQ sD
    subst b
    exact run_sliceBound a h2
 have el:∀c,(match kv with|some v=>Instr.sliceBound v hh c|none=>pure 0:Sem Nat).run P w=.ok l w:=by
  intro c
  cases lo with
  | none =>
   cases kv with
   | none=>simp[gh]at hl;simp[←hl]
   | some _=>exact mV.elim
  | some x =>
   cases kv with
   | none=>exact mV.elim
   | some v =>
    obtain⟨k,n,rfl,a,b⟩:=dZ mV hl
    subst b
    exact run_sliceBound a h1
 have eh':=eh (if G8 then .sliceAcap else .sliceAlen)
 have el':=el .sliceB
 cases mU<;>cases kv<;>simp_all [Instr.sliceBounds]
theorem HU {R:ar}{ty:TypeId}{s:ByteArray}{l hh:Nat}{lo hi:Option X}{kv mU:Option Value}{vx:Value}(hu:P.underlying ty=some .string)
  (h:SR w0 g H w) (hx:VR g w (.str s) vx) (mV:OV g w R lo kv)
  (xQ:OV g w R hi mU) (hl:gh R 0 lo=some l) (sD:gh R s.size hi=some hh) (h1:l≤hh) (h2:hh≤s.size) :
  b7 P w0 g H w (Instr.sliceAt ty vx kv mU none) (.str (s.extract l hh)) H:=by
 cases hx
 refine b7.same h ?_ (.str _)
 have:=gG (P:=P) (G8:=false) mV xQ hl sD (fun _=>rfl) h1 h2
 simp[Instr.sliceAt,run_underlying hu,Instr.slice,this]
theorem zl {k k':SK}{es:List (List T)}{r o cap ua n l m:Nat}{a:Option Addr}(cR:Nat→Nat→Value)(hn:∀c∈es,c.length=n)
  (h1:∀(i j:Nat) (c:List T) (t:T),es[i]?=some c→c[j]?=some t→t.one=true∧AX g w r (o+i*n+j) (cR i j))
  (h2:∀(i j:Nat) (c:List T) (t:T),es[i]?=some c→c[j]?=some t→VR g w t (cR i j))
  (hlm:l≤m) (hm:m≤es.length) (na:m-l≤ua) (hk:gz g k' r (o+l*n) (m-l) ua n) :
  VR g w (.sl k' ((es.take m).drop l)) (.slice (some ⟨r,o+l*n,none⟩) (m-l) ua):=by
 have hlen:((es.take m).drop l).length=m-l:=by simp;omega
 have get:∀i c,((es.take m).drop l)[i]?=some c→es[l+i]?=some c:=by
  intro i c hi
  rw[List.getElem?_drop,List.getElem?_take]at hi
  split at hi
  ·exact hi
  ·simp at hi
 have:=VR.sl (g:=g) (w:=w) (k:=k') (es:=(es.take m).drop l) (r:=r) (o:=o+l*n) (cap:=ua) (n:=n) (fun i j=>cR (l+i) j) (by rw[hlen];exact hk) (by omega)
  (fun c hc=>hn c (List.mem_of_mem_take (List.mem_of_mem_drop hc)))
  (fun i j c t a b=>⟨(h1 (l+i) j c t (get i c a) b).1,by
   have:=(h1 (l+i) j c t (get i c a) b).2
   rwa[show o+l*n+i*n+j=o+(l+i)*n+j by rw[Nat.add_mul];omega]⟩)
  (fun i j c t a b=>h2 (l+i) j c t (get i c a) b)
 rwa[hlen]at this
theorem HV {R : ar}{ty elem : TypeId}{ei : TypeInfo}{k : SK}{es : List (List T)}{l hh : Nat}{lo hi : Option X}{kv mU : Option Value}{vx : Value}(hu : P.underlying ty = some (.slice elem))(ka : P.info? elem = some ei)
    (h : SR w0 g H w) (hx : VR g w (.sl k es) vx) (mV : OV g w R lo kv)
    (xQ : OV g w R hi mU) (hl : gh R 0 lo = some l) (sD : gh R es.length hi = some hh) (h1 : l ≤ hh) (h2 : hh ≤ es.length) (cr : es.all (·.length == ei.size) = true) :
    b7 P w0 g H w (Instr.sliceAt ty vx kv mU none) (.sl (k.cut es.length l hh) ((es.take hh).drop l)) H := by
  have l9 : ∀c ∈ es, c.length = ei.size := by simpa using cr
  cases hx with
  | slnil =>
    simp at h2; subst h2
    have xF : l = 0 := by omega
    subst xF
    have := gG (P := P) (w := w) (g := g) (G8 := true) (cap := 0) mV xQ hl sD (fun _ => rfl) h1 (Nat.le_refl _)
    simp only[List.length_nil]at this
    exact b7.same h (v := .slice none 0 0) (by simp[Instr.sliceAt, run_underlying hu, Instr.slice, this, sizeOf, bn ka]) (by simpa[SK.cut]using VR.slnil)
  | iw a =>
    simp at h2; subst h2
    have xF : l = 0 := by omega
    subst xF
    have := gG (P := P) (w := w) (g := g) (G8 := true) (cap := 0) mV xQ hl sD (fun _ => rfl) h1 (Nat.le_refl _)
    simp only[List.length_nil]at this
    exact b7.same h (v := .slice a 0 0) (by cases a<;>simp[Instr.sliceAt, run_underlying hu, Instr.slice, this, sizeOf, bn ka]) (by simpa[SK.cut]using VR.iw a)
  | @sl _ _ r o cap n cR hk hc hn h3 h4 =>
    have := gG (P := P) (w := w) (g := g) (G8 := true) (cap := cap) mV xQ hl sD (fun _ => rfl) h1 (by omega)
    have hr : (Instr.sliceAt ty (.slice (some ⟨r, o, none⟩) es.length cap) kv mU none).run P w = .ok (.slice (some (if cap = l then⟨r, o, none⟩else⟨r, o + l * ei.size, none⟩)) (hh - l) (cap - l)) w := by
      simp[Instr.sliceAt, run_underlying hu, Instr.slice, this, sizeOf, bn ka, dc]
      split<;>rfl
    by_cases he : l<hh
    · -- Pw is left
      have lq : cap ≠ l := by omega
      simp only[lq, if_false]at hr
      have tV : n = ei.size := by
        cases es with
        | nil => simp at h2; omega
        | cons c es => have a := hn c (by simp); have b := l9 c (by simp); omega
      subst tV
      refine b7.same h hr (zl (k := k) (cap := cap) (a := none) cR hn h3 h4 h1 h2 (by omega) ?_)
      cases k with
      | nil => exact hk.elim
      | arg => trivial
      | full =>
        simp only[SK.cut]; split
        · rename_i e; simp only[gz]at hk ⊢; omega
        · trivial
      | own t e =>
        simp only[SK.cut]; split
        · rename_i e'
          simp only[gz]at hk ⊢
          refine⟨?_, by omega⟩
          rw[hk.1]
          have e1 : o + l * ei.size + (hh - l) * ei.size = o + es.length * ei.size := by
            rw[Nat.add_assoc, ←Nat.add_mul]; congr 2; omega
          have e2 : o + l * ei.size + (cap - l) * ei.size = o + cap * ei.size := by
            rw[Nat.add_assoc, ←Nat.add_mul]; congr 2; omega
          rw[e1, e2]
        · trivial
    · have hle : l = hh := by omega
      subst hle
      have hd : (es.take l).drop l = [] := by simp
      rw[hd]
      have vr : ∀a : Addr, a.spot = none → VR g w (.sl .arg []) (.slice (some a) 0 (cap - l)) := by
        intro a ha
        obtain⟨ab, ao, as⟩ := a
        simp at ha; subst ha
        exact .sl (n := 0) (fun _ _ => .nilIface) trivial (by simp) (by simp) (by simp) (by simp)
      have bN : k.cut es.length l l = .arg ∨ (k.cut es.length l l = .full ∧ cap = l) := by
        cases k with
        | nil => exact hk.elim
        | arg => exact .inl rfl
        | full => simp only[SK.cut]; split
                  · rename_i e; right; simp only[gz]at hk; exact⟨rfl, by omega⟩
                  · exact .inl rfl
        | own t e => simp only[SK.cut]; split
                     · omega
                     · exact .inl rfl
      rcases bN with e|⟨e, lq⟩
      · rw[e]
        refine b7.same h hr ?_
        rw[Nat.sub_self]
        exact vr _ (by split<;>rfl)
      · rw[e]
        refine b7.same h hr ?_
        rw[Nat.sub_self, lq, Nat.sub_self]
        have zm : ∀a : Addr, a.spot = none → VR g w (.sl .full []) (.slice (some a) 0 0) := by
          intro a ha
          obtain⟨ab, ao, as⟩ := a
          simp at ha; subst ha
          exact .sl (n := 0) (fun _ _ => .nilIface) rfl (by simp) (by simp) (by simp) (by simp)
        exact zm _ (by split<;>rfl)
theorem oe {G8:Bool}{len cap l hh m:Nat}{kv:Option Value}{k:IntKind}{nm:Int}{vh:Value}
  (vJ:0≤nm) (VT:nm.toNat=m) (Md:m≤cap) (sD:∃k n,vh=.int k n∧0≤n∧n.toNat=hh) (h2:hh≤m)
  (hl:Mc l kv) (h1:l≤hh) :
  (Instr.sliceBounds G8 len cap kv (some vh) (some (.int k nm))).run P w=.ok (l,hh,m) w:=by
 subst VT
 obtain⟨kh,nh,rfl,a,b⟩:=sD
 subst b
 cases kv with
 | none=>simp only[Mc]at hl;subst hl;simp[Instr.sliceBounds,run_sliceBound vJ Md,run_sliceBound a h2]
 | some v =>
  obtain⟨kl,nl,rfl,c,d⟩:=hl
  subst d
  simp[Instr.sliceBounds,run_sliceBound vJ Md,run_sliceBound a h2,run_sliceBound c h1]
theorem CX {R:ar}{ty elem:TypeId}{ei:TypeInfo}{k:SK}{es:List (List T)}{l hh m:Nat}{lo:Option X}{hi mx:X}{kv:Option Value}{mU vm:Value}{vx:Value}(hu:P.underlying ty=some (.slice elem))(ka:P.info? elem=some ei)
  (h:SR w0 g H w) (hx:VR g w (.sl k es) vx) (mV:OV g w R lo kv)
  (xQ:VR g w (hi.ev R) mU) (hvm:VR g w (mx.ev R) vm) (hl:gh R 0 lo=some l) (sD:cq (hi.ev R)=some hh) (hm:cq (mx.ev R)=some m) (h1:l≤hh) (h2:hh≤m) (Qd:m≤es.length) (cr:es.all (·.length==ei.size)=true) :
  b7 P w0 g H w (Instr.sliceAt ty vx kv (some mU) (some vm)) (.sl (if k=.nil then .nil else if es=[]∧k=.arg then .arg else if hh=m then .full else .arg) ((es.take hh).drop l)) H:=by
 have l9:∀c∈es,c.length=ei.size:=by simpa using cr
 have n5:Mc l kv:=by
  cases lo<;>cases kv
  ·simp[gh]at hl;exact hl.symm
  ·exact mV.elim
  ·exact mV.elim
  ·exact dZ mV hl
 obtain⟨km,nm,rfl,vJ,VT⟩:=dZ hvm hm
 have hb:∀cap,m≤cap→(Instr.sliceBounds true es.length cap kv (some mU) (some (.int km nm))).run P w=.ok (l,hh,m) w :=
  fun cap hc=>oe vJ VT hc (dZ xQ sD) h2 n5 h1
 cases hx with
 | slnil =>
  simp at Qd;subst Qd
  obtain rfl:hh=0:=by omega
  obtain rfl:l=0:=by omega
  have:=hb 0 (Nat.le_refl _)
  simp only[List.length_nil]at this
  exact b7.same h (v:=.slice none 0 0) (by simp[Instr.sliceAt,run_underlying hu,Instr.slice,this,sizeOf,bn ka]) (by simpa using VR.slnil)
 | iw a =>
  simp at Qd;subst Qd
  obtain rfl:hh=0:=by omega
  obtain rfl:l=0:=by omega
  have:=hb 0 (Nat.le_refl _)
  simp only[List.length_nil]at this
  exact b7.same h (v:=.slice a 0 0) (by cases a<;>simp[Instr.sliceAt,run_underlying hu,Instr.slice,this,sizeOf,bn ka]) (by simpa using VR.iw a)
 | @sl _ _ r o cap n cR hk hc hn h3 h4 =>
  have Qe:k≠.nil:=by rintro rfl;exact hk.elim
  simp only[Qe,if_false]
  have hr:(Instr.sliceAt ty (.slice (some ⟨r,o,none⟩) es.length cap) kv (some mU) (some (.int km nm))).run P w=.ok (.slice (some (if m=l then⟨r,o,none⟩else⟨r,o+l*ei.size,none⟩)) (hh-l) (m-l)) w:=by
   simp[Instr.sliceAt,run_underlying hu,Instr.slice,hb cap (by omega),sizeOf,bn ka,dc]
   split<;>rfl
  by_cases he:l<hh
  ·have lq:m≠l:=by omega
   simp only[lq,if_false]at hr
   have bG:es≠[]:=by rintro rfl;simp at Qd;omega
   have tV:n=ei.size:=by
    cases es with
    | nil=>exact absurd rfl bG
    | cons c es=>have a:=hn c (by simp);have b:=l9 c (by simp);omega
   subst tV
   simp only[bG,false_and,if_false]
   refine b7.same h hr (zl (k:=k) (cap:=cap) (a:=none) cR hn h3 h4 h1 (by omega) (by omega) ?_)
   split
   ·rename_i e;simp only[gz];omega
   ·trivial
  ·obtain rfl:l=hh:=by omega
   have hd:(es.take l).drop l=[]:=by simp
   rw[hd]
   have zm:∀(a:Addr) (c:Nat) (k':SK),a.spot=none→(k'=.arg∨(k'=.full∧c=0))→VR g w (.sl k' []) (.slice (some a) 0 c):=by
    intro a c k' ha kx
    obtain⟨ab,ao,as⟩:=a
    simp at ha;subst ha
    refine .sl (n:=0) (fun _ _=>.nilIface) ?_ (by simp) (by simp) (by simp) (by simp)
    rcases kx with rfl|⟨rfl,rfl⟩
    ·trivial
    ·rfl
   refine b7.same h hr ?_
   rw[Nat.sub_self]
   refine zm _ _ _ (by split<;>rfl) ?_
   split
   ·exact .inl rfl
   ·split
    ·exact .inr ⟨rfl,by omega⟩
    ·exact .inl rfl
theorem CY {R:ar}{ty elem:TypeId}{ei:TypeInfo}{b off len l hh:Nat}{lo hi:Option X}{kv mU:Option Value}{vx:Value}(hu:P.underlying ty=some (.slice elem))(ka:P.info? elem=some ei)
  (h:SR w0 g H w) (hx:VR g w (.ax b off len ei.size) vx) (mV:OV g w R lo kv)
  (xQ:OV g w R hi mU) (hl:gh R 0 lo=some l) (sD:gh R len hi=some hh) (h1:l≤hh) (h2:hh≤len) :
  b7 P w0 g H w (Instr.sliceAt ty vx kv mU none) (if l=hh then(if l=0 then .ax b off 0 ei.size else .sl .arg [])else .ax b (off+l*ei.size) (hh-l) ei.size) H:=by
 cases hx with
 | @ax _ _ _ _ r o q cap hφ hc hq =>
  have:=gG (P:=P) (w:=w) (g:=g) (G8:=true) (cap:=cap) mV xQ hl sD (fun _=>rfl) h1 (by omega)
  have hr:(Instr.sliceAt ty (.slice (some ⟨r,o+off,none⟩) len cap) kv mU none).run P w=.ok (.slice (some (if cap=l then⟨r,o+off,none⟩else⟨r,o+off+l*ei.size,none⟩)) (hh-l) (cap-l)) w:=by
   simp[Instr.sliceAt,run_underlying hu,Instr.slice,this,sizeOf,bn ka,dc]
   split<;>rfl
  refine b7.same h hr ?_
  have key:∀a:Addr,a=⟨r,o+(off+l*ei.size),none⟩→(cap≠l∨l=0)→VR g w (.ax b (off+l*ei.size) (hh-l) ei.size) (.slice (some a) (hh-l) (cap-l)):=by
   rintro a rfl lq
   refine .ax hφ (by omega) ?_
   rw[←hq]
   have:l*ei.size+(cap-l)*ei.size=cap*ei.size:=by rw[←Nat.add_mul];congr 1;omega
   omega
  split
  ·rename_i e;subst e
   split
   ·rename_i e;subst e
    have:=key (if cap=0 then⟨r,o+off,none⟩else⟨r,o+off+0*ei.size,none⟩) (by split<;>simp) (.inr rfl)
    simpa using this
   ·rw[Nat.sub_self]
    have zm:∀(a:Addr) (c:Nat),a.spot=none→VR g w (.sl .arg []) (.slice (some a) 0 c):=by
     intro a c ha
     obtain⟨ab,ao,as⟩:=a
     simp at ha;subst ha
     exact .sl (n:=0) (fun _ _=>.nilIface) trivial (by simp) (by simp) (by simp) (by simp)
    exact zm _ _ (by split<;>rfl)
  ·have lq:cap≠l:=by omega
   exact key _ (by rw[if_neg lq,Nat.add_assoc]) (.inl lq)
theorem CZ {R:ar}{ty elem:TypeId}{ei:TypeInfo}{b off len c l hh:Nat}{lo hi:Option X}{kv mU:Option Value}{vx:Value}(hu:P.underlying ty=some (.slice elem))(ka:P.info? elem=some ei)
  (h:SR w0 g H w) (hx:VR g w (.dS b off len ei.size c) vx) (mV:OV g w R lo kv)
  (xQ:OV g w R hi mU) (hl:gh R 0 lo=some l) (sD:gh R len hi=some hh) (h1:l≤hh) (h2:hh≤c) :
  b7 P w0 g H w (Instr.sliceAt ty vx kv mU none) (if l<c∨l=0 then .dS b (off+l*ei.size) (hh-l) ei.size (c-l)else .sl .arg []) H:=by
 cases hx with
 | @dS _ _ _ _ r o q cap hφ hc hq =>
  have:=gG (P:=P) (w:=w) (g:=g) (G8:=true) (cap:=c) mV xQ hl sD (fun _=>rfl) h1 (by omega)
  have hr:(Instr.sliceAt ty (.slice (some ⟨r,o+off,none⟩) len c) kv mU none).run P w=.ok (.slice (some (if c=l then⟨r,o+off,none⟩else⟨r,o+off+l*ei.size,none⟩)) (hh-l) (c-l)) w:=by
   simp[Instr.sliceAt,run_underlying hu,Instr.slice,this,sizeOf,bn ka,dc]
   split<;>rfl
  refine b7.same h hr ?_
  by_cases h3:l<c∨l=0
  case neg =>
   rw[if_neg h3]
   have e0:hh-l=0:=by omega
   have zm:∀(a:Addr) (c:Nat),a.spot=none→VR g w (.sl .arg []) (.slice (some a) 0 c):=by
    intro a c ha
    obtain⟨ab,ao,as⟩:=a
    simp at ha;subst ha
    exact .sl (n:=0) (fun _ _=>.nilIface) trivial (by simp) (by simp) (by simp) (by simp)
   rw[e0]
   exact zm _ _ (by split<;>rfl)
  rw[if_pos h3]
  have e:(if c=l then(⟨r,o+off,none⟩:Addr)else⟨r,o+off+l*ei.size,none⟩)=⟨r,o+(off+l*ei.size),none⟩:=by
   split
   ·have:l=0:=by omega
    subst this;simp
   ·simp[Nat.add_assoc]
  rw[e]
  refine .dS hφ (by omega) ?_
  rw[←hq]
  have:l*ei.size+(c-l)*ei.size=c*ei.size:=by rw[←Nat.add_mul];congr 1;omega
  omega
end
section
variable {P:Program} {w0 w:World} {g:Ctx} {H:af}
def my (P:Program)(ty:TypeId):KT→Bool
 | .sc t=>match P.underlying ty with|some d=>G5 t d|none=>false
 | .st ks=>match P.underlying ty with|some (.struct fs)=>flat P fs.toList 0 ks&&!P.stoodInHeld ty|_=>false
theorem C0 {e:Bool}{n:Nat}{ty:TypeId}{d:TypeDesc}{k:vg}{v:Value}(hu:P.underlying ty=some d)(hk:G5 k d=true):(Instr.checkKey e (n+1) ty v).run P w=.ok () w:=by
 rw[Instr.checkKey];simp only[Sem.run_bind,run_underlying hu,Result.andThen_ok]
 cases k<;>cases d<;>simp[G5]at hk<;>cases v<;>rfl
theorem nf {e:Bool}{n:Nat}:∀(fs:List Field) (off:Nat) (ks:List vg) (cs:List T) (xs:Array Value),flat P fs off ks=true→cs.length=ks.length →
  (∀(i:Nat) (t:T),cs[i]?=some t→∃v,xs[off+i]?=some v∧VR g w t v) →
  (forIn fs PUnit.unit (fun f _=>if f.name≠"_" then (do let x ← part f.type xs f.offset;Instr.checkKey e (n+1) f.type x;pure (ForInStep.yield PUnit.unit))
   else pure (ForInStep.yield PUnit.unit)):Sem PUnit).run P w=.ok PUnit.unit w
 | [],off,ks,cs,xs,hf,hl,hc=>by simp
 | f :: fs,off,ks,cs,xs,hf,hl,hc=>by
  cases ks with
  | nil=>simp[flat]at hf
  | cons k ks =>
   cases cs with
   | nil=>simp at hl
   | cons c cs =>
    simp only[flat,Bool.and_eq_true,beq_iff_eq,bne_iff_ne]at hf
    obtain⟨⟨⟨A2,CV⟩,G6⟩,fC⟩:=hf
    cases hu:P.underlying f.type with
    | none=>simp[hu]at G6
    | some de =>
     simp[hu]at G6
     obtain⟨va,Cl,A3⟩:=hc 0 c rfl
     simp only[Nat.add_zero]at Cl
     have ih:=nf (e:=e) (n:=n) fs (off+1) ks cs xs fC (by simpa using hl) (fun i t hi=>by have:=hc (i+1) t (by simpa using hi);rwa[show off+1+i=off+(i+1) by omega])
     simp only[List.forIn_cons,Sem.run_bind,CV,ne_eq,not_false_eq_true,if_true,A2,od hu G6 Cl,Result.andThen_ok,C0 hu G6,Sem.run_pure]
     exact ih
theorem qg:∀(ks:List vg) (cs:List T),fk ks cs=true→cs.length=ks.length
 | [],[],_=>rfl
 | _ :: ks,_ :: cs,h=>by simp[fk]at h;simp[qg ks cs h.2]
 | [],_ :: _,h=>by simp[fk]at h
 | _ :: _,[],h=>by simp[fk]at h
theorem ky {e:Bool}{ty:TypeId}{kt:KT}{k:T}{vk:Value}(jC:my P ty kt=true)(hk:VR g w k vk)(h:k.iP kt=true):(Instr.checkKey e 10000 ty vk).run P w=.ok () w:=by
 cases kt with
 | sc t =>
  simp only[my]at jC
  cases hu:P.underlying ty with
  | none=>simp[hu]at jC
  | some d=>simp[hu]at jC;exact C0 (n:=9999) hu jC
 | st ks =>
  simp only[my]at jC
  cases hu:P.underlying ty with
  | none=>simp[hu]at jC
  | some d =>
   cases d<;>simp[hu]at jC
   rename_i fs
   cases k<;>simp[T.iP]at h
   rename_i cs
   obtain⟨xs,rfl,G7,_⟩:=hk.fO
   show(Instr.checkKey e (9998+1+1) ty _).run P w=_
   rw[Instr.checkKey];simp only[Sem.run_bind,run_underlying hu,Result.andThen_ok]
   rw[←Array.forIn_toList]
   rw[nf (g:=g) (e:=e) (n:=9998) fs.toList 0 ks cs xs.toArray jC.1 (qg _ _ h) (fun i t hi=>by simpa using G7.fP i t hi)]
   rfl
theorem C1 {n:Nat}{ty:TypeId}{kt:KT}{a b:T}{va vb:Value}{r:Bool}(jC:my P ty kt=true)(ha:VR g w a va)(hb:VR g w b vb)(hk:a.iP kt=true)(he:gL a b=some r) :
  (Op.equalIn (n+1+1) ty va vb).run P w=.ok r w:=by
 cases kt with
 | sc t =>
  simp only[my]at jC
  cases hu:P.underlying ty with
  | none=>simp[hu]at jC
  | some d =>
   simp[hu]at jC
   have Co:ik a b=some r:=by
    cases a<;>simp[T.iP]at hk<;>(first|exact he|(cases t<;>simp[T.xL]at hk))
   exact zk hu jC ha hb hk Co
 | st ks =>
  simp only[my]at jC
  cases hu:P.underlying ty with
  | none=>simp[hu]at jC
  | some d =>
   cases d<;>simp[hu]at jC
   rename_i fs
   cases a<;>simp[T.iP]at hk
   rename_i cs
   cases b<;>simp[gL,ik]at he
   rename_i ds
   obtain⟨xs,rfl,G7,_⟩:=ha.fO
   obtain⟨ys,rfl,Pv,_⟩:=hb.fO
   exact sB hu jC.1 (by simpa using jC.2) hk G7 Pv he n
theorem xR {t:vg}{d:TypeDesc}{a b:T}{va vb:Value}{r:Bool}(hd:G5 t d=true)(ha:VR g w a va)(hb:VR g w b vb)(hk:a.xL t=true)(he:gL a b=some r):Instr.sameNow d va vb=some r:=by
 cases t<;>cases d<;>simp[G5]at hd<;>cases ha<;>simp[T.xL]at hk<;>cases hb<;>simp[gL,ik]at he
 ·obtain⟨rfl,rfl⟩:=he;simp[Instr.sameNow]
 ·subst he;simp[Instr.sameNow,jc,beq_toListBytes]
 ·subst he;simp[Instr.sameNow]
theorem ub {ty:TypeId}{kt:KT}{k:T}{vk:Value}(jC:my P ty kt=true)(hk:VR g w k vk)(h:k.iP kt=true)(es:List (T×T))(aw:List MapEntry)(hl:aw.length=es.length)
  (hh:∀(i:Nat) (e:T×T) (m:MapEntry),es[i]?=some e→aw[i]?=some m→VR g w e.1 m.key∧VR g w e.2 m.val) {r:Option Nat} (hr:da k es=some r) :
  (Instr.findKey ty vk aw).run P w=.ok (r.bind fun i=>(aw[i]?).map fun m=>(i,m.val)) w:=by
 cases kt with
 | sc t =>
  simp only[my]at jC
  cases hu:P.underlying ty with
  | none=>simp[hu]at jC
  | some d =>
   simp[hu]at jC
   have key:∀(es:List (T×T)) (aw:List MapEntry) (j:Nat) (r:Option Nat),aw.length=es.length→(∀(i:Nat) (e:T×T) (m:MapEntry),es[i]?=some e→aw[i]?=some m→VR g w e.1 m.key∧VR g w e.2 m.val) →
     da k es=some r→Instr.findNow d vk aw j=some (r.bind fun i=>(aw[i]?).map fun m=>(j+i,m.val)):=by
    intro es
    induction es with
    | nil =>
     intro aw j r hl _ hr
     simp[da]at hr;subst hr
     cases aw with
     | nil=>rfl
     | cons _ _=>simp at hl
    | cons e es ih =>
     intro aw j r hl hh hr
     cases aw with
     | nil=>simp at hl
     | cons m aw =>
      have h0:=hh 0 e m rfl rfl
      simp only[da]at hr
      cases he:gL k e.1 with
      | none=>simp[he]at hr
      | some b =>
       have hs:=xR jC hk h0.1 h he
       cases b with
       | true=>simp[he]at hr;subst hr;simp[Instr.findNow,hs]
       | false =>
        simp only[he,Option.map_eq_some_iff]at hr
        obtain⟨r',h1,rfl⟩:=hr
        simp only[Instr.findNow,hs]
        rw[ih aw (j+1) r' (by simpa using hl) (fun i e' m' a b=>hh (i+1) e' m' (by simpa using a) (by simpa using b)) h1]
        cases r' with
        | none=>rfl
        | some i=>simp;cases aw[i]?<;>simp;omega
   have:=key es aw 0 r hl hh hr
   simp only[Instr.findKey,Sem.run_bind,run_underlying hu,Result.andThen_ok,this,Sem.run_pure]
   simp
 | st ks =>
  have VU:=jC
  simp only[my]at jC
  cases hu:P.underlying ty with
  | none=>simp[hu]at jC
  | some d =>
   cases d<;>simp[hu]at jC
   rename_i fs
   have key:∀(es:List (T×T)) (aw:List MapEntry) (j:Nat) (r:Option Nat),aw.length=es.length→(∀(i:Nat) (e:T×T) (m:MapEntry),es[i]?=some e→aw[i]?=some m→VR g w e.1 m.key∧VR g w e.2 m.val) →
     da k es=some r→(Instr.findAsking ty vk aw j).run P w=.ok (r.bind fun i=>(aw[i]?).map fun m=>(j+i,m.val)) w:=by
    intro es
    induction es with
    | nil =>
     intro aw j r hl _ hr
     simp[da]at hr;subst hr
     cases aw with
     | nil=>rfl
     | cons _ _=>simp at hl
    | cons e es ih =>
     intro aw j r hl hh hr
     cases aw with
     | nil=>simp at hl
     | cons m aw =>
      have h0:=hh 0 e m rfl rfl
      simp only[da]at hr
      cases he:gL k e.1 with
      | none=>simp[he]at hr
      | some b =>
       have hs:(Op.equal ty vk m.key).run P w=.ok b w:=C1 (n:=9998) VU hk h0.1 h he
       cases b with
       | true=>simp[he]at hr;subst hr;simp[Instr.findAsking,hs]
       | false =>
        simp only[he,Option.map_eq_some_iff]at hr
        obtain⟨r',h1,rfl⟩:=hr
        simp only[Instr.findAsking,Sem.run_bind,hs,Result.andThen_ok,Bool.false_eq_true,if_false]
        rw[ih aw (j+1) r' (by simpa using hl) (fun i e' m' a b=>hh (i+1) e' m' (by simpa using a) (by simpa using b)) h1]
        cases r' with
        | none=>rfl
        | some i=>simp;cases aw[i]?<;>simp;omega
   have kx:=key es aw 0 r hl hh hr
   cases aw with
   | nil =>
    simp only[Instr.findKey,Sem.run_bind,run_underlying hu,Result.andThen_ok,Instr.findNow,Sem.run_pure]
    exact kx
   | cons m aw =>
    have:Instr.findNow (.struct fs) vk (m :: aw) 0=none:=by simp[Instr.findNow,Instr.sameNow]
    simp only[Instr.findKey,Sem.run_bind,run_underlying hu,Result.andThen_ok,this]
    simpa using kx
def C2 (w:World)(vm:Value)(aw:Array MapEntry):Prop:=(vm=.map none∧aw=#[])∨∃r c,vm=.map (some r)∧w.heap[r]?=some (.map aw c)
theorem A7 {m:T}{vm:Value}{es:List (T×T)}(h:SR w0 g H w)(hm:VR g w m vm)(ib:gq H m=some es):∃aw,C2 w vm aw∧dV g w es aw:=by
 cases hm<;>simp[gq]at ib
 ·subst ib;exact⟨#[],.inl ⟨rfl,rfl⟩,⟨rfl,by simp⟩⟩
 ·rename_i b r' o q hφ
  cases hb:H[b]? with
  | none=>simp[hb]at ib
  | some y =>
   cases y<;>simp[hb]at ib
   ·subst ib
    obtain⟨_,aw,c,h2,h3,_⟩:=h.dQ b _ hb r' o q hφ
    exact⟨aw,.inr ⟨r',c,rfl,h2⟩,h3⟩
   ·subst ib
    obtain⟨r2,o',q',kj,_,aw,c,h2,h3,_⟩:=h.dQ b _ hb
    rw[hφ]at kj;cases kj
    exact⟨aw,.inr ⟨r',c,rfl,h2⟩,h3⟩
theorem qh {ty key elem:TypeId}{ei:TypeInfo}{zv vm vk:Value}{ok:Bool}{aw:Array MapEntry}{r:Option (Nat×Value)}(hu:P.underlying ty=some (.map key elem))(hi:P.info? elem=some ei)(hz:ei.zero=some zv)
  (he:C2 w vm aw) (hc:(Instr.checkKey aw.isEmpty 10000 key vk).run P w=.ok () w) (hf:(Instr.findKey key vk aw.toList).run P w=.ok r w) :
  (Instr.lookup ty vm vk ok).run P w=.ok (match r with|some (_,v)=>if ok then .tuple #[v,.bool true]else v|none=>if ok then .tuple #[zv,.bool false]else zv) w:=by
 rcases he with⟨rfl,rfl⟩|⟨rr,c,rfl,h2⟩
 ·have pI:(Instr.findKey key vk []).run P w=.ok r w:=hf
  have iA:(Instr.checkKey true 10000 key vk).run P w=.ok () w:=hc
  simp only[Instr.lookup,Sem.run_bind,run_underlying hu,Result.andThen_ok]
  cases r with
  | none=>simp[iA,pI,zeroValue,bn hi,hz]
  | some x=>obtain⟨i,v⟩:=x;simp[iA,pI]
 ·simp only[Instr.lookup,Sem.run_bind,run_underlying hu,Result.andThen_ok]
  cases r with
  | none=>simp[getObj,Sem.run,h2,hc,hf,zeroValue,bn hi,hz]
  | some x=>obtain⟨i,v⟩:=x;simp[getObj,Sem.run,h2,hc,hf]
theorem zn {ty key elem:TypeId}{ei:TypeInfo}{zv:Value}{kt:KT}{z m k t:T}{ok:Bool}{vm vk:Value}{es:List (T×T)}{r:Option Nat}(hu:P.underlying ty=some (.map key elem))(hi:P.info? elem=some ei)(hz:ei.zero=some zv)(pJ:mw zv=some z)
  (jC:my P key kt=true) (h:SR w0 g H w) (hm:VR g w m vm) (hk:VR g w k vk) (xS:k.iP kt=true)
  (ib:gq H m=some es) (hr:da k es=some r)
  (ht:(match r with|some i=>(es[i]?).map fun e=>if ok then T.bF [e.2,.bool true]else e.2|none=>some (if ok then .bF [z,.bool false]else z))=some t):b7 P w0 g H w (Instr.lookup ty vm vk ok) t H:=by
 obtain⟨aw,UP,hE⟩:=A7 h hm ib
 have hf:=ub jC hk xS es aw.toList (by simpa using hE.1) (fun i e m a b=>hE.2 i e m a (by simpa using b)) hr
 have hc:=ky (e:=aw.isEmpty) jC hk xS
 have zvr:VR g w z zv:=lr pJ
 cases r with
 | none =>
  simp only[Option.some.injEq]at ht
  subst ht
  refine b7.same h (qh hu hi hz UP hc hf) ?_
  cases ok
  ·exact zvr
  ·exact bC.bF (bC.cons zvr (bC.cons (.bool _) bC.nil))
 | some i =>
  cases he:es[i]? with
  | none=>simp[he]at ht
  | some e =>
   have au:i<aw.size:=by rw[hE.1];exact(List.getElem?_eq_some_iff.1 he).1
   have qi:aw[i]?=some aw[i]:=Array.getElem?_eq_getElem au
   have hv:=(hE.2 i e _ he qi).2
   simp only[he,Option.map_some,Option.some.injEq]at ht
   subst ht
   have hx:((some i:Option Nat).bind fun i=>(aw.toList[i]?).map fun m=>(i,m.val))=some (i,aw[i].val):=by simp[au]
   rw[hx]at hf
   refine b7.same h (qh hu hi hz UP hc hf) ?_
   cases ok
   ·exact hv
   ·exact bC.bF (bC.cons hv (bC.cons (.bool _) bC.nil))
theorem HW {vs:List T}{i:Nat}{t:T}{vx:Value}(h:SR w0 g H w)(hx:VR g w (.bF vs) vx)(he:vs[i]?=some t):b7 P w0 g H w (Instr.extract vx i) t H:=by
 obtain⟨xs,rfl,G7⟩:=hx.HF
 obtain⟨v,h1,h2⟩:=G7.fP i t he
 exact b7.same h (by simp at h1;simp[Instr.extract,h1]) h2
theorem Me {rt:TypeId}{iB:Array TypeId}{k k':IntKind}{a b:Int}{vx vy:Value}(h:SR w0 g H w)(hx:VR g w (.int k a) vx)(hy:VR g w (.int k' b) vy):b7 P w0 g H w (Builtin.min_ iB rt #[vx,vy]) (.int k (if b<a then b else a)) H:=by
 cases hx;cases hy
 exact b7.same h (by simp[Builtin.min_,Builtin.min2]) (.int _ _)
theorem Mf {rt:TypeId}{iB:Array TypeId}{k k':IntKind}{a b:Int}{vx vy:Value}(h:SR w0 g H w)(hx:VR g w (.int k a) vx)(hy:VR g w (.int k' b) vy):b7 P w0 g H w (Builtin.max_ iB rt #[vx,vy]) (.int k (if b>a then b else a)) H:=by
 cases hx;cases hy
 exact b7.same h (by simp[Builtin.max_,Builtin.max2]) (.int _ _)
end
section
variable {P:Program} {w0 w:World} {g:Ctx} {H:af}
def gu:Nat→Nat→Prop:=fun _ _=>False
def iC:Nat→Prop:=fun _=>False
theorem Tr.drew (w:World):Tr w w.drew gu iC:=⟨Nat.le_refl _,fun _ _ _ _=>rfl,fun _ _ _=>rfl,fun _ _ _ h=>h,fun _ _ _ _ h=>h,fun _ _ _ _=>rfl,fun _ _ h=>dn h,rfl,rfl⟩
theorem Tr.refl (w:World):Tr w w gu iC:=⟨Nat.le_refl _,fun _ _ _ _=>rfl,fun _ _ _=>rfl,fun _ _ _ h=>h,fun _ _ _ _ h=>h,fun _ _ _ _=>rfl,fun _ _ h=>dn h,rfl,rfl⟩
theorem Tr.alloc (w:World)(o:Obj)(ho:fp o=true∨∃c t,o=.cells c t):Tr w (w.alloc o) gu iC where
 size:=by simp
 cell r j hr _:=World.cell?_alloc_lt w o ⟨r,j,none⟩ hr
 pE r j hr:=World.frozen?_alloc_old w o ⟨r,j,none⟩ (Nat.ne_of_lt hr)
 dF r j hr h:=by rw[World.cell?_alloc_lt w o ⟨r,j,none⟩ hr];exact h
 maps r x _ _ h:=by
  have hr:r<w.heap.size:=(Array.getElem?_eq_some_iff.1 h).1
  simp only[World.alloc,Array.getElem?_push];rw[if_neg (by omega)];exact h
 jz r hr _ _:=by simp only[World.alloc,Array.getElem?_push];rw[if_neg (by omega)]
 xO r j hr:=by
  by_cases e:r=w.heap.size
  ·subst e
   have e1:(w.alloc o).heap[w.heap.size]?=some o:=by show(w.heap.push o)[w.heap.size]?=some o;simp
   unfold World.frozen?
   rw[e1]
   rcases ho with ho|⟨c,t,rfl⟩
   ·cases o<;>simp[fp]at ho<;>rfl
   ·simp
  ·rw[World.frozen?_alloc_old w o ⟨r,j,none⟩ e];exact dn hr
 env:=⟨rfl,rfl⟩
theorem Tr.trans {w w' P9:World}{S:Nat→Nat→Prop}{M:Nat→Prop}(h:Tr w w' S M)(h':Tr w' P9 S M):Tr w P9 S M where
 size:=Nat.le_trans h.size h'.size
 cell r j hr hs:=(h'.cell r j (Nat.lt_of_lt_of_le hr h.size) hs).trans (h.cell r j hr hs)
 pE r j hr:=(h'.pE r j (Nat.lt_of_lt_of_le hr h.size)).trans (h.pE r j hr)
 dF r j hr hs:=h'.dF r j (Nat.lt_of_lt_of_le hr h.size) (h.dF r j hr hs)
 maps r x hm hs h1:=h'.maps r x hm hs (h.maps r x hm hs h1)
 jz r hr hm hs:=(h'.jz r (Nat.lt_of_lt_of_le hr h.size) hm hs).trans (h.jz r hr hm hs)
 xO r j hr:=by
  by_cases hw:r<w'.heap.size
  ·rw[h'.pE r j hw];exact h.xO r j hr
  ·exact h'.xO r j (by omega)
 env:=⟨h'.env.1.trans h.env.1,h'.env.2.trans h.env.2⟩
theorem cF (r:Nat):∀(vs:List Value) (o:Nat) (w:World) (r' j:Nat),¬(r'=r∧o≤j∧j<o+vs.length)→(w.setCells r o vs).cell? ⟨r',j,none⟩=w.cell? ⟨r',j,none⟩
 | [],_,_,_,_,_=>rfl
 | v :: vs,o,w,r',j,h=>by
  rw[World.setCells,cF r vs (o+1) _ r' j (by simp at h ⊢;omega),World.cell?_setCell_other]
  intro e
  simp at e
  exact h ⟨e.1.symm,by omega,by simp;omega⟩
theorem cI (r:Nat):∀(vs:List Value) (o:Nat) (w:World),(∀j,o≤j→j<o+vs.length→(w.cell? ⟨r,j,none⟩).isSome=true)→∀(i:Nat) (v:Value),vs[i]?=some v→(w.setCells r o vs).cell? ⟨r,o+i,none⟩=some v
 | [],_,_,_,i,v,h=>by simp at h
 | u :: vs,o,w,hs,i,v,h=>by
  rw[World.setCells]
  cases i with
  | zero =>
   simp at h;subst h
   rw[cF r vs (o+1) _ r _ (by omega)]
   obtain⟨x,hx⟩:=Option.isSome_iff_exists.1 (hs o (Nat.le_refl _) (by simp))
   exact World.cell?_setCell_same w ⟨r,o,none⟩ u hx
  | succ i =>
   have:=cI r vs (o+1) (w.setCell ⟨r,o,none⟩ u) (fun j h1 h2=>by
    rw[World.cell?_setCell_other _ _ _ _ (by simp;omega)]
    exact hs j (by omega) (by simp;omega)) i v (by simpa using h)
   rwa[show o+(i+1)=o+1+i by omega]
theorem dB (r:Nat):∀(vs:List Value) (o:Nat) (w:World),(w.setCells r o vs).heap.size=w.heap.size
 | [],_,_=>rfl
 | v :: vs,o,w=>by rw[World.setCells,dB r vs,World.size_setCell]
theorem ma (r:Nat):∀(vs:List Value) (o:Nat) (w:World) (r':Nat),r'≠r→(w.setCells r o vs).heap[r']?=w.heap[r']?
 | [],_,_,_,_=>rfl
 | v :: vs,o,w,r',h=>by
  rw[World.setCells,ma r vs _ _ r' h]
  simp only[World.setCell,Array.getElem?_modify];rw[if_neg (fun e=>h e.symm)]
theorem ng (r:Nat):∀(vs:List Value) (o:Nat) (w:World) (r':Nat) (x:Obj),fp x=true→w.heap[r']?=some x→(w.setCells r o vs).heap[r']?=some x
 | [],_,_,_,_,_,h=>h
 | v :: vs,o,w,r',x,hs,h=>by
  rw[World.setCells]
  refine ng r vs _ _ r' x hs ?_
  simp only[World.setCell,Array.getElem?_modify]
  split
  ·rename_i e;rw[h];cases x<;>simp[fp]at hs<;>rfl
  ·exact h
theorem ni (r:Nat):∀(vs:List Value) (o:Nat) (w:World),(w.setCells r o vs).os=w.os∧(w.setCells r o vs).output=w.output
 | [],_,_=>⟨rfl,rfl⟩
 | v :: vs,o,w=>by rw[World.setCells];exact ni r vs _ _
def vK (r o n:Nat):Nat→Nat→Prop:=fun r' j=>r'=r∧o≤j∧j<o+n
theorem Tr.setCells (w:World)(r o:Nat)(vs:List Value)(hs:∀j,o≤j→j<o+vs.length→(w.cell? ⟨r,j,none⟩).isSome=true):Tr w (w.setCells r o vs) (vK r o vs.length) iC where
 size:=by rw[dB];exact Nat.le_refl _
 cell r' j _ h:=cF r vs o w r' j h
 pE r' j _:=World.frozen?_setCells r vs o w _
 dF r' j _ h:=by
  by_cases e:r'=r∧o≤j∧j<o+vs.length
  ·obtain⟨rfl,e1,e2⟩:=e
   have hi:j-o<vs.length:=by omega
   have:=cI r' vs o w hs (j-o) _ (List.getElem?_eq_getElem hi)
   rw[show o+(j-o)=j by omega]at this
   rw[this];rfl
  ·rw[cF r vs o w r' j e];exact h
 maps r' x _ hs h:=ng r vs o w r' x hs h
 jz r' _ _ h:=by
  by_cases e:r'=r
  ·cases vs with
   | nil=>rfl
   | cons v vs=>exact absurd ⟨e,Nat.le_refl _,by simp⟩ (h o)
  ·exact ma r vs o w r' e
 xO r' j hr:=by rw[World.frozen?_setCells];exact dn hr
 env:=ni r vs o w
def Ctx.row (g:Ctx)(r:Nat)(f:Nat→Ow):Ctx:={ g with κ:=fun r' j=>if r'=r then f j else g.κ r' j }
def Ctx.at (g:Ctx)(b:Nat)(x:Nat×Nat×Nat):Ctx:={ g with φ:=fun b'=>if b'=b then some x else g.φ b' }
def Ctx.tok (g:Ctx)(t e:Nat)(x:Nat×Nat×Nat):Ctx:={ g with π:=fun t' e'=>if t'=t∧e'=e then some x else g.π t' e' }
theorem Le.gO {w':World}{g':Ctx}{S:Nat→Nat→Prop}{M:Nat→Prop}(tr:Tr w w' S M)(hφ:∀b x,g.φ b=some x→g'.φ b=some x)(hκ:∀r o,g.κ r o=.lU→g'.κ r o=.lU)(hπ:∀t e x,g.π t e=some x→g'.π t e=some x)
  (hS:∀r j,S r j→g.κ r j≠.lU) (hck:g'.ck=g.ck:=by rfl):Le g w g' w' :=
 ⟨hφ,hκ,hπ,fun r o v hk hc=>by rw[tr.cell r o (jA hc) (fun hs=>hS r o hs hk)];exact hc,hck⟩
theorem SR.lU {c:Array Value}{ty:TypeId}{w1:World}(h:SR w0 g H w)(tr:Tr w w1 gu iC)(hz:w1.heap.size=w.heap.size) :
  Le g w (g.row w.heap.size fun _=>.lU) (w1.alloc (.cells c ty))∧SR w0 (g.row w.heap.size fun _=>.lU) H (w1.alloc (.cells c ty))∧Fr g H (g.row w.heap.size fun _=>.lU) H ∧
  ∀(j:Nat) (v:Value),c[j]?=some v→AX (g.row w.heap.size fun _=>.lU) (w1.alloc (.cells c ty)) w.heap.size j v:=by
 have vL:=tr.trans (Tr.alloc w1 (.cells c ty) (.inr ⟨_,_,rfl⟩))
 have le:Le g w (g.row w.heap.size fun _=>.lU) (w1.alloc (.cells c ty)):=Le.gO vL (fun _ _ h=>h) (fun r o hk=>by simp only[Ctx.row];split;rfl;exact hk) (fun _ _ _ h=>h) (fun _ _ hs=>hs.elim)
 refine⟨le,?_,⟨Nat.le_refl _,fun _ _ a _ b=>⟨a,b⟩⟩,fun j v hj=>⟨by simp[Ctx.row],?_⟩⟩
 ·refine h.step (fun _=>False) vL le (fun _ _ hs=>hs.elim) (fun _ hm=>hm.elim) (fun r o hr=>?_) h.rP h.iQ (fun _ _ _=>rfl) (fun r j b _=>?_) (fun _ _ _ _=>rfl) (fun b x hx=>.inl ⟨fun hf=>hf,hx⟩)
  ·simp at hr
   simp only[Ctx.row];rw[if_neg (by omega)];exact h.fresh r o (by omega)
  ·have bG:∀ow,g.κ r j=ow→ow≠.free→r≠w.heap.size:=by rintro ow e hn rfl;exact hn (e▸h.fresh _ j (Nat.le_refl _))
   constructor<;>intro e<;>simp only[Ctx.row]<;>rw[if_neg (bG _ e (by simp))]<;>exact e
 ·rw[←hz,World.cell?_alloc_new];exact hj
theorem SR.mut {c:Array Value}{ty:TypeId}{w1:World}{H':af}{b:Nat}{cs:List T}(h:SR w0 g H w)(tr:Tr w w1 gu iC)(hz:w1.heap.size=w.heap.size)
  (hb:H'[b]?=some (.cells cs)) (hn:g.φ b=none) (hH:∀b' x,b'≠b→H'[b']?=some x→H[b']?=some x∨x=.dead) (hl:H.length≤H'.length) (aq:∀b' x,H[b']?=some x→(∀e,x≠.tok e)→g.φ b'=none→b'≠b→H'[b']?=some x)
  (hc:∀(i:Nat) (t:T),cs[i]?=some t→t.one=true∧∃v,c[i]?=some v∧VR g w t v) :
  Le g w ((g.row w.heap.size fun _=>.mut b).at b (w.heap.size,0,c.size)) (w1.alloc (.cells c ty))∧SR w0 ((g.row w.heap.size fun _=>.mut b).at b (w.heap.size,0,c.size)) H' (w1.alloc (.cells c ty)) ∧
  (∀b' x,H[b']?=some x→(∀e,x≠.tok e)→g.φ b'=none→b'≠b→H'[b']?=some x∧((g.row w.heap.size fun _=>.mut b).at b (w.heap.size,0,c.size)).φ b'=none):=by
 have vL:=tr.trans (Tr.alloc w1 (.cells c ty) (.inr ⟨_,_,rfl⟩))
 have bG:∀r j ow,g.κ r j=ow→ow≠.free→r≠w.heap.size:=by rintro r j ow e hn rfl;exact hn (e▸h.fresh _ j (Nat.le_refl _))
 have le:Le g w ((g.row w.heap.size fun _=>.mut b).at b (w.heap.size,0,c.size)) (w1.alloc (.cells c ty)):=Le.gO vL
  (fun b' x hx=>by simp only[Ctx.at,Ctx.row];split;rename_i e;subst e;rw[hn]at hx;simp at hx;exact hx)
  (fun r o hk=>by simp only[Ctx.row,Ctx.at];rw[if_neg (bG r o _ hk (by simp))];exact hk) (fun _ _ _ h=>h) (fun _ _ hs=>hs.elim)
 refine⟨le,?_,fun b' x a a' d e=>⟨aq b' x a a' d e,by simp only[Ctx.at,Ctx.row];rw[if_neg e];exact d⟩⟩
 refine h.step (fun b'=>b'=b) vL le (fun _ _ hs=>hs.elim) (fun _ hm=>hm.elim) (fun r o hr=>?_) (fun b' x hx=>?_) (fun t e x hx=>Nat.lt_of_lt_of_le (h.iQ t e x hx) hl) (fun b' _ iY=>?_) (fun r j b' iY=>?_) (fun _ _ _ _=>rfl) (fun b' x hx=>?_)
 ·simp at hr
  simp only[Ctx.row,Ctx.at];rw[if_neg (by omega)];exact h.fresh r o (by omega)
 ·simp only[Ctx.at,Ctx.row]at hx
  split at hx
  ·rename_i e;subst e;exact(List.getElem?_eq_some_iff.1 hb).1
  ·exact Nat.lt_of_lt_of_le (h.rP b' x hx) hl
 ·simp only[Ctx.at,Ctx.row];rw[if_neg iY]
 ·constructor<;>intro e<;>simp only[Ctx.row,Ctx.at]<;>rw[if_neg (bG r j _ e (by simp))]<;>exact e
 ·by_cases e:b'=b
  ·subst e
   right
   rw[hb]at hx;cases hx
   intro r o q hq
   simp only[Ctx.at,if_true,Option.some.injEq,Prod.mk.injEq]at hq
   obtain⟨rfl,rfl,rfl⟩:=hq
   have uc:∀i,i<cs.length→i<c.size:=fun i hi=>by
    obtain⟨_,v,hv,_⟩:=hc i _ (List.getElem?_eq_getElem hi)
    exact(Array.getElem?_eq_some_iff.1 hv).1
   refine⟨?_,fun j _ hj=>⟨by simp[Ctx.row,Ctx.at],by rw[←hz];simp,by rw[←hz,World.cell?_alloc_new,Array.getElem?_eq_getElem hj];rfl⟩,fun i t hi=>?_⟩
   ·cases lq:cs.length with
    | zero=>omega
    | succ n=>have:=uc n (by omega);omega
   ·obtain⟨h1,v,h2,h3⟩:=hc i t hi
    exact⟨h1,v,by rw[←hz,World.cell?_alloc_new,Nat.zero_add];exact h2,h3.mono le⟩
  ·rcases hH b' x e hx with jh|rfl
   ·exact .inl ⟨e,jh⟩
   ·right;trivial
theorem fq (H:af)(x:B):(H++[x])[H.length]?=some x:=by simp
theorem cT {H:af}{x y:B}{b:Nat}(hb:b≠H.length)(h:(H++[x])[b]?=some y):H[b]?=some y:=by
 rw[List.getElem?_append]at h
 split at h
 ·exact h
 ·rename_i au
  have:b-H.length≠0:=by omega
  cases hk:b-H.length with
  | zero=>omega
  | succ n=>simp[hk]at h
theorem iD {H:af}{x y:B}{b:Nat}(h:H[b]?=some y):(H++[x])[b]?=some y:=by
 rw[List.getElem?_append_left (List.getElem?_eq_some_iff.1 h).1];exact h
theorem SR.HX (h:SR w0 g H w){b:Nat}(hb:H.length≤b):g.φ b=none:=by
 cases e:g.φ b with
 | none=>rfl
 | some x=>have:=h.rP b x e;omega
theorem SR.VV (h:SR w0 g H w){t e:Nat}(hb:H.length≤t):g.π t e=none:=by
 cases e':g.π t e with
 | none=>rfl
 | some x=>have:=h.iQ t e x e';omega
theorem SR.gH {c:Array Value}{ty:TypeId}{w1:World}{cs:List T}(h:SR w0 g H w)(tr:Tr w w1 gu iC)(hz:w1.heap.size=w.heap.size)
  (hc:∀(i:Nat) (t:T),cs[i]?=some t→t.one=true∧∃v,c[i]?=some v∧VR g w t v) :
  ∃g',Le g w g' (w1.alloc (.cells c ty))∧SR w0 g' (H++[.cells cs]) (w1.alloc (.cells c ty))∧Fr g H g' (H++[.cells cs])∧g'.φ H.length=some (w.heap.size,0,c.size):=by
 obtain⟨le,sr,fr⟩:=h.mut (H':=H++[.cells cs]) (b:=H.length) (ty:=ty) tr hz (fq _ _) (h.HX (Nat.le_refl _)) (fun b' x e hx=>.inl (cT e hx)) (by simp) (fun b' x hx _ _ _=>iD hx) hc
 exact⟨_,le,sr,⟨by simp,fun b x a a' d=>fr b x a a' d (by have:=(List.getElem?_eq_some_iff.1 a).1;omega)⟩,by simp[Ctx.at]⟩
theorem bC.Mg {cs:List T}{vs:List Value}(h:bC g w cs vs)(ho:cA cs):∀(i:Nat) (t:T),cs[i]?=some t→t.one=true∧∃v,vs.toArray[i]?=some v∧VR g w t v :=
 fun i t hi=>⟨ho t (List.mem_of_getElem? hi),h.fP i t hi⟩
theorem A8 {ty:TypeId}{i:TypeInfo}{zv:Value}{z:List T}(hi:P.info? ty=some i)(hz:i.zero=some zv)(hc:eX zv.cells.toList=some z)(h:SR w0 g H w) :
  b7 P w0 g H w (Instr.alloc ty true (.tuple #[])) (.ptr H.length 0) (H++[.cells z]):=by
 obtain⟨hv,ho⟩:=dA (g:=g) (w:=w) _ _ hc
 obtain⟨g',le,sr,fr,hφ⟩:=h.gH (c:=zv.cells) (ty:=ty) (w1:=w) (Tr.refl w) rfl (by simpa using hv.Mg ho)
 refine⟨.pointer (some ⟨w.heap.size,0,none⟩),_,g',?_,le,sr,.ptr hφ,fr⟩
 simp[Instr.alloc,zeroValue,bn hi,hz,newVar,newRow]
theorem HY {ty:TypeId}{x:T}{cs:List T}{vx:Value}(h:SR w0 g H w)(hx:VR g w x vx)(hc:x.cells?=some cs) :
  b7 P w0 g H w (Instr.box ty vx) (.ptr H.length 0) (H++[.cells cs]):=by
 obtain⟨hv,ho⟩:=jg hx hc
 obtain⟨g',le,sr,fr,hφ⟩:=h.gH (c:=vx.cells) (ty:=ty) (w1:=w) (Tr.refl w) rfl (by simpa using hv.Mg ho)
 refine⟨.pointer (some ⟨w.heap.size,0,none⟩),_,g',?_,le,sr,.ptr hφ,fr⟩
 simp[Instr.box,newVar,newRow]
theorem SR.C3 {b:Nat}{H':af}(h:SR w0 g H w)(hb:H'[b]?=some (.map []))(hn:g.φ b=none)(hH:∀b' x,b'≠b→H'[b']?=some x→H[b']?=some x)(hl:H.length≤H'.length) :
  Le g w ((g.row w.heap.size fun _=>.mut b).at b (w.heap.size,0,0)) (w.alloc (.map #[] 0))∧SR w0 ((g.row w.heap.size fun _=>.mut b).at b (w.heap.size,0,0)) H' (w.alloc (.map #[] 0)):=by
 have vL:=Tr.alloc w (.map #[] 0) (.inl rfl)
 have bG:∀r j ow,g.κ r j=ow→ow≠.free→r≠w.heap.size:=by rintro r j ow e hn rfl;exact hn (e▸h.fresh _ j (Nat.le_refl _))
 have le:Le g w ((g.row w.heap.size fun _=>.mut b).at b (w.heap.size,0,0)) (w.alloc (.map #[] 0)):=Le.gO vL
  (fun b' x hx=>by simp only[Ctx.at,Ctx.row];split;rename_i e;subst e;rw[hn]at hx;simp at hx;exact hx)
  (fun r o hk=>by simp only[Ctx.row,Ctx.at];rw[if_neg (bG r o _ hk (by simp))];exact hk) (fun _ _ _ h=>h) (fun _ _ hs=>hs.elim)
 refine⟨le,?_⟩
 refine h.step (fun b'=>b'=b) vL le (fun _ _ hs=>hs.elim) (fun _ hm=>hm.elim) (fun r o hr=>?_) (fun b' x hx=>?_) (fun t e x hx=>Nat.lt_of_lt_of_le (h.iQ t e x hx) hl) (fun b' _ iY=>?_) (fun r j b' iY=>?_) (fun _ _ _ _=>rfl) (fun b' x hx=>?_)
 ·simp at hr
  simp only[Ctx.row,Ctx.at];rw[if_neg (by omega)];exact h.fresh r o (by omega)
 ·simp only[Ctx.at,Ctx.row]at hx
  split at hx
  ·rename_i e;subst e;exact(List.getElem?_eq_some_iff.1 hb).1
  ·exact Nat.lt_of_lt_of_le (h.rP b' x hx) hl
 ·simp only[Ctx.at,Ctx.row];rw[if_neg iY]
 ·constructor<;>intro e<;>simp only[Ctx.row,Ctx.at]<;>rw[if_neg (bG r j _ e (by simp))]<;>exact e
 ·by_cases e:b'=b
  ·subst e
   right
   rw[hb]at hx;cases hx
   intro r o q hq
   simp only[Ctx.at,if_true,Option.some.injEq,Prod.mk.injEq]at hq
   obtain⟨rfl,rfl,rfl⟩:=hq
   exact⟨by simp[Ctx.row,Ctx.at],#[],0,by show(w.heap.push _)[w.heap.size]?=_;simp,⟨rfl,by simp⟩,by simp[fo]⟩
  ·exact .inl ⟨e,hH b' x e hx⟩
theorem HZ {ty:TypeId}(h:SR w0 g H w):b7 P w0 g H w (Instr.makeMap ty none) (.map H.length) (H++[.map []]):=by
 obtain⟨le,sr⟩:=h.C3 (H':=H++[.map []]) (b:=H.length) (fq _ _) (h.HX (Nat.le_refl _)) (fun b' x e hx=>cT e hx) (by simp)
 refine⟨.map (some w.heap.size),_,_,?_,le,sr,.map (r:=w.heap.size) (o:=0) (q:=0) (by simp[Ctx.at]),by simp,fun b x a _ d=>⟨iD a,?_⟩⟩
 ·simp[Instr.makeMap]
 ·have:=(List.getElem?_eq_some_iff.1 a).1
  simp only[Ctx.at,Ctx.row];rw[if_neg (by omega)];exact d
end
section
variable {P:Program} {w0 w:World} {g:Ctx} {H:af}
theorem eo {H:af}{b b':Nat}{x y:B}(au:b<H.length)(h:(H.set b x)[b']?=some y):(b'=b∧y=x)∨(b'≠b∧H[b']?=some y):=by
 rw[List.getElem?_set]at h
 split at h
 ·rename_i e;subst e;simp[au]at h;exact .inl ⟨rfl,h.symm⟩
 ·rename_i e;exact .inr ⟨fun e'=>e e'.symm,h⟩
theorem ft {H:af}{b b':Nat}{x y:B}(h:H[b']?=some y)(bG:b'≠b):(H.set b x)[b']?=some y:=by
 rw[List.getElem?_set,if_neg (fun e=>bG e.symm)];exact h
theorem SR.store {b off r o q:Nat}{cs ts:List T}{vs:List Value}(h:SR w0 g H w)(hb:H[b]?=some (.cells cs))(hφ:g.φ b=some (r,o,q))(hle:off+ts.length≤cs.length)(hv:bC g w ts vs)(ho:cA ts) :
  Le g w g (w.setCells r (o+off) vs)∧SR w0 g (H.set b (.cells (cs.take off++ts++cs.drop (off+ts.length)))) (w.setCells r (o+off) vs):=by
 have kc:b<H.length:=(List.getElem?_eq_some_iff.1 hb).1
 obtain⟨h1,h2,h3⟩:=h.dQ b _ hb r o q hφ
 have hl:=hv.1
 have hs:∀j,o+off≤j→j<o+off+vs.length→(w.cell? ⟨r,j,none⟩).isSome=true:=fun j a c=>(h2 j (by omega) (by omega)).2.2
 have tr:=Tr.setCells w r (o+off) vs hs
 have hS:∀r' j,vK r (o+off) vs.length r' j→g.κ r' j=.mut b:=by
  rintro r' j⟨rfl,a,c⟩;exact(h2 j (by omega) (by omega)).1
 have le:Le g w g (w.setCells r (o+off) vs):=Le.gO tr (fun _ _ h=>h) (fun _ _ h=>h) (fun _ _ _ h=>h) (fun r' j eI e=>by rw[hS r' j eI]at e;cases e)
 refine⟨le,h.step (fun b'=>b'=b) tr le (fun r' j eI=>.inr (.inl ⟨b,hS r' j eI,rfl⟩)) (fun _ hm=>hm.elim) (fun r' j hr=>h.fresh r' j (by rwa[dB]at hr)) (fun b' x hx=>by rw[List.length_set];exact h.rP b' x hx)
  (fun t e x hx=>by rw[List.length_set];exact h.iQ t e x hx) (fun _ _ _=>rfl) (fun _ _ _ _=>⟨id,id⟩) (fun _ _ _ _=>rfl) (fun b' x hx=>?_)⟩
 rcases eo kc hx with⟨rfl,rfl⟩|⟨bG,jh⟩
 ·right
  intro r' o' q' kj
  rw[hφ]at kj;cases kj
  have hlen:(cs.take off++ts++cs.drop (off+ts.length)).length=cs.length:=by simp;omega
  refine⟨by rw[hlen];exact h1,fun j a c=>⟨(h2 j a c).1,by rw[World.frozen?_setCells];exact(h2 j a c).2.1,tr.dF r j ?_ (h2 j a c).2.2⟩,fun i t hi=>?_⟩
  ·obtain⟨x,hx⟩:=Option.isSome_iff_exists.1 (h2 j a c).2.2;exact jA hx
  ·have ka:i<cs.length:=by rw[←hlen];exact(List.getElem?_eq_some_iff.1 hi).1
   by_cases iE:off≤i∧i<off+ts.length
   ·have ht:ts[i-off]?=some t:=by
     rw[List.append_assoc,List.getElem?_append_right (by simp;omega),List.getElem?_append_left (by simp;omega)]at hi
     rw[←hi];congr 1;simp;omega
    have au:i-off<vs.length:=by omega
    refine⟨ho t (List.mem_of_getElem? ht),vs[i-off],?_,(hv.2 _ t _ ht (List.getElem?_eq_getElem au)).mono le⟩
    have:=cI r vs (o+off) w hs (i-off) _ (List.getElem?_eq_getElem au)
    rwa[show o+off+(i-off)=o+i by omega]at this
   ·have ht:cs[i]?=some t:=by
     by_cases au:i<off
     ·rw[List.append_assoc,List.getElem?_append_left (by simp;omega),List.getElem?_take,if_pos au]at hi;exact hi
     ·rw[List.getElem?_append_right (by simp;omega),List.getElem?_drop]at hi
      rw[←hi];congr 1;simp;omega
    obtain⟨a,v,Mh,Mi⟩:=h3 i t ht
    refine⟨a,v,?_,Mi.mono le⟩
    rw[cF r vs (o+off) w r (o+i) (by omega)];exact Mh
 ·exact .inl ⟨bG,jh⟩
theorem ud {ty:TypeId}{i:TypeInfo}{v:Value}{r o:Nat}(hi:P.info? ty=some i)(a6:v.cells.size=i.size)(hc:∀j,j<v.cells.toList.length→(w.cell? ⟨r,o+j,none⟩).isSome=true)
  (hf:∀j,j<v.cells.toList.length→w.frozen? ⟨r,o+j,none⟩=false) (h1:∀x∈v.cells.toList,x.oneCell'=true) :
  (storeVar ty ⟨r,o,none⟩ v).run P w=.ok () (w.setCells r o v.cells.toList):=by
 have:=run_storeCells_cells (P:=P) r o v.cells.toList 0 w (by simpa using hc) (by simpa using hf) h1
 simp[storeVar,sizeOf,bn hi,a6]
 simpa using this
theorem Mj {ty:TypeId}{i:TypeInfo}{p x:T}{vp vx:Value}{ts:List T}{H':af}(hi:P.info? ty=some i)(h:SR w0 g H w)(hp:VR g w p vp)(hx:VR g w x vx)(hc:x.cells?=some ts)(hn:ts.length=i.size)(he:P6 H ts p=some H') :
  ∃w' g',(Instr.storeAt ty vp vx).run P w=.ok () w'∧Le g w g' w'∧SR w0 g' H' w'∧Fr g H g' H':=by
 obtain⟨hv,ho⟩:=jg hx hc
 cases hp<;>simp only[P6]at he<;>(try (simp at he;done))
 rename_i b off r o q hφ
 cases hb:H[b]? with
 | none=>simp[hb]at he
 | some y =>
  cases y<;>simp only[hb]at he<;>(try (simp at he;done))
  rename_i cs
  split at he
  ·rename_i hle
   simp only[Option.some.injEq]at he;subst he
   have kc:b<H.length:=(List.getElem?_eq_some_iff.1 hb).1
   obtain⟨h1,h2,h3⟩:=h.dQ b _ hb r o q hφ
   obtain⟨le,sr⟩:=h.store hb hφ hle hv ho
   have hl:=hv.1
   refine⟨_,g,?_,le,sr,by simp,fun b' y' a _ d=>⟨ft a ?_,d⟩⟩
   ·have:=ud (P:=P) (w:=w) (ty:=ty) (r:=r) (o:=o+off) hi (v:=vx) (by rw[←hn,hl];simp) (fun j hj=>(h2 _ (by omega) (by omega)).2.2) (fun j hj=>(h2 _ (by omega) (by omega)).2.1) (hv.iz ho)
    simpa[Instr.storeAt,Instr.sureAddr]using this
   ·rintro rfl;rw[hφ]at d;cases d
  ·simp at he
def World.b9 (w:World)(r:Nat)(o:Obj):World:={ w with heap:=w.heap.setIfInBounds r o }
theorem qj (w:World){r r':Nat}(o:Obj)(h:r'≠r):(World.b9 w r o).heap[r']?=w.heap[r']?:=by
 unfold World.b9;simp only[Array.getElem?_setIfInBounds];rw[if_neg (fun e=>h e.symm)]
theorem qk (w:World){r:Nat}(o:Obj)(h:r<w.heap.size):(World.b9 w r o).heap[r]?=some o:=by
 unfold World.b9;simp[h]
theorem vM (w:World){r:Nat}{x x':Obj}(hs:fp x=true)(eI:fp x'=true)(h:w.heap[r]?=some x)(a:Addr):(World.b9 w r x').cell? a=w.cell? a:=by
 have au:r<w.heap.size:=(Array.getElem?_eq_some_iff.1 h).1
 unfold World.cell?
 by_cases e:a.block=r
 ·rw[e,qk w _ au,h]
  cases x<;>simp[fp]at hs<;>cases x'<;>simp[fp]at eI<;>rfl
 ·rw[qj w _ e]
theorem ql (w:World){r:Nat}{x x':Obj}(hs:fp x=true)(eI:fp x'=true)(h:w.heap[r]?=some x)(a:Addr):(World.b9 w r x').frozen? a=w.frozen? a:=by
 have au:r<w.heap.size:=(Array.getElem?_eq_some_iff.1 h).1
 unfold World.frozen?
 by_cases e:a.block=r
 ·rw[e,qk w _ au,h]
  cases x<;>simp[fp]at hs<;>cases x'<;>simp[fp]at eI<;>rfl
 ·rw[qj w _ e]
theorem Tr.xU (w:World)(r:Nat){x x':Obj}(hs:fp x=true)(eI:fp x'=true)(h:w.heap[r]?=some x):Tr w (World.b9 w r x') gu (fun r'=>r'=r) where
 size:=by simp[World.b9]
 cell r' j _ _:=vM w hs eI h _
 pE r' j _:=ql w hs eI h _
 dF r' j _ hk:=by rw[vM w hs eI h];exact hk
 maps r' x hm _ hk:=by rw[qj w _ hm];exact hk
 jz r' _ hm _:=qj w _ hm
 xO r' j hr:=by rw[ql w hs eI h];exact dn hr
 env:=⟨rfl,rfl⟩
theorem SR.ue {b r o q:Nat}{es Qf:List (T×T)}{aw qm:Array MapEntry}{c c':Nat}(h:SR w0 g H w)(hb:H[b]?=some (.map es))(hφ:g.φ b=some (r,o,q))(hr:w.heap[r]?=some (.map aw c))(hE:dV g w Qf qm)(hB:fo qm c') :
  Le g w g (World.b9 w r (.map qm c'))∧SR w0 g (H.set b (.map Qf)) (World.b9 w r (.map qm c'))∧Fr g H g (H.set b (.map Qf)):=by
 have kc:b<H.length:=(List.getElem?_eq_some_iff.1 hb).1
 obtain⟨h1,_⟩:=h.dQ b _ hb r o q hφ
 have tr:=Tr.xU w r (x:=.map aw c) (x':=.map qm c') rfl rfl hr
 have le:Le g w g (World.b9 w r (.map qm c')):=Le.gO tr (fun _ _ h=>h) (fun _ _ h=>h) (fun _ _ _ h=>h) (fun _ _ hs=>hs.elim)
 refine⟨le,h.step (fun b'=>b'=b) tr le (fun _ _ hs=>hs.elim) (fun r' hm=>⟨b,by rw[hm];exact h1,rfl⟩) (fun r' j n6=>h.fresh r' j (by simpa[World.b9]using n6)) (fun b' x hx=>by rw[List.length_set];exact h.rP b' x hx)
  (fun t e x hx=>by rw[List.length_set];exact h.iQ t e x hx) (fun _ _ _=>rfl) (fun _ _ _ _=>⟨id,id⟩) (fun _ _ _ _=>rfl) (fun b' x hx=>?_),by simp,fun b' x a _ d=>⟨ft a (by rintro rfl;rw[hφ]at d;cases d),d⟩⟩
 rcases eo kc hx with⟨rfl,rfl⟩|⟨bG,jh⟩
 ·right
  intro r' o' q' kj
  rw[hφ]at kj;cases kj
  refine⟨h1,qm,c',?_,hE.mono le,hB⟩
  have au:r<w.heap.size:=(Array.getElem?_eq_some_iff.1 hr).1
  simp[World.b9,au]
 ·exact .inl ⟨bG,jh⟩
theorem og {n:Nat}{a b:T}{va vb:Value}(ha:VR g w a va)(hb:VR g w b vb)(he:ik a b=some true):Instr.sameBits n va vb=true:=by
 cases ha<;>cases hb<;>simp[ik]at he
 ·obtain⟨rfl,rfl⟩:=he;cases n<;>simp[Instr.sameBits]
 ·subst he;cases n<;>simp[Instr.sameBits]
 ·rename_i s1 s2
  have e:(s1==s2)=true:=by rw[beq_toListBytes];exact he
  cases n<;>exact e
theorem nj {n:Nat}:∀(as bs:List T) (xs ys:List Value),bC g w as xs→bC g w bs ys→bT as bs=some true→xs.length=ys.length∧(xs.zip ys).all (fun (x,y)=>Instr.sameBits n x y)=true
 | [],[],xs,ys,hx,hy,_=>by
  have a:=hx.1;have b:=hy.1
  simp at a b
  have e1:xs=[]:=List.eq_nil_of_length_eq_zero (by omega)
  have e2:ys=[]:=List.eq_nil_of_length_eq_zero (by omega)
  subst e1;subst e2;simp
 | a :: as,b :: bs,xs,ys,hx,hy,he=>by
  cases xs with
  | nil=>have:=hx.1;simp at this
  | cons x xs =>
   cases ys with
   | nil=>have:=hy.1;simp at this
   | cons y ys =>
    simp only[bT]at he
    cases e1:ik a b with
    | none=>simp[e1]at he
    | some r1 =>
     cases e2:bT as bs with
     | none=>simp[e1,e2]at he
     | some r2 =>
      simp[e1,e2]at he
      obtain⟨rfl,rfl⟩:=he
      obtain⟨h1,h2⟩:=nj as bs xs ys hx.tail hy.tail e2
      exact⟨by simp[h1],by simp[og hx.head hy.head e1];simpa using h2⟩
 | [],_ :: _,_,_,_,_,he=>by simp[bT]at he
 | _ :: _,[],_,_,_,_,he=>by simp[bT]at he
theorem qn {a b:T}{va vb:Value}(ha:VR g w a va)(hb:VR g w b vb)(he:gL a b=some true):Instr.sameBits 10000 va vb=true:=by
 by_cases h:∃as bs,a=.agg as∧b=.agg bs
 ·obtain⟨as,bs,rfl,rfl⟩:=h
  obtain⟨xs,rfl,hx,_⟩:=ha.fO
  obtain⟨ys,rfl,hy,_⟩:=hb.fO
  obtain⟨h1,h2⟩:=nj (n:=9999) as bs xs ys hx hy he
  show Instr.sameBits (9999+1) _ _=true
  rw[Instr.sameBits]
  simp[h1]
  simpa using h2
 ·have:ik a b=some true:=by
   cases a<;>first|exact he|(cases b<;>first|exact he|exact absurd ⟨_,_,rfl,rfl⟩ h)
  exact og ha hb this
theorem qo:∀(k:T) (es:List (T×T)) (i:Nat),da k es=some (some i)→∃e,es[i]?=some e∧gL k e.1=some true
 | k,[],i,h=>by simp[da]at h
 | k,e :: es,i,h=>by
  simp only[da]at h
  cases hk:gL k e.1 with
  | none=>simp[hk]at h
  | some b =>
   cases b with
   | true=>simp[hk]at h;subst h;exact⟨e,rfl,hk⟩
   | false =>
    simp only[hk,Option.map_eq_some_iff]at h
    obtain⟨r,h1,h2⟩:=h
    cases r with
    | none=>simp at h2
    | some j =>
     simp at h2;subst h2
     obtain⟨e',h3,h4⟩:=qo k es j h1
     exact⟨e',by simpa using h3,h4⟩
theorem dV.set {es:List (T×T)}{aw:Array MapEntry}(h:dV g w es aw){k v:T}{vk vv:Value}(hk:VR g w k vk)(hv:VR g w v vv)(i:Nat) :
  dV g w (es.set i (k,v)) (aw.modify i fun e=>{ e with key:=vk,val:=vv }):=by
 refine⟨by simp[h.1],fun j e m a b=>?_⟩
 rw[List.getElem?_set]at a
 rw[Array.getElem?_modify]at b
 split at a
 ·rename_i e'
  rw[if_pos e']at b
  subst e'
  split at a
  ·simp at a b
   obtain⟨m',_,rfl⟩:=b
   subst a
   exact⟨hk,hv⟩
  ·cases a
 ·rename_i e'
  rw[if_neg e']at b
  exact h.2 j e m a b
theorem dV.push {es:List (T×T)}{aw:Array MapEntry}(h:dV g w es aw){k v:T}{vk vv:Value}(hk:VR g w k vk)(hv:VR g w v vv)(c:Nat) :
  dV g w (es++[(k,v)]) (aw.push { key:=vk,val:=vv,born:=c }):=by
 refine⟨by simp[h.1],fun j e m a b=>?_⟩
 rw[Array.getElem?_push,h.1]at b
 rw[List.getElem?_append]at a
 split at b
 ·rename_i e'
  subst e'
  simp at a b
  subst a;subst b
  exact⟨hk,hv⟩
 ·rename_i e'
  split at a
  ·exact h.2 j e m a b
  ·have:j<aw.size:=(Array.getElem?_eq_some_iff.1 b).1
   rw[h.1]at this;omega
theorem dV.erase {es:List (T×T)}{aw:Array MapEntry}(h:dV g w es aw)(i:Nat)(hi:i<es.length):dV g w (es.eraseIdx i) (aw.eraseIdxIfInBounds i):=by
 have a6:i<aw.size:=by rw[h.1];exact hi
 have e1:(aw.eraseIdxIfInBounds i).toList=aw.toList.eraseIdx i:=by simp[Array.eraseIdxIfInBounds,a6]
 refine⟨by rw[←Array.length_toList,e1,List.length_eraseIdx,List.length_eraseIdx,if_pos hi,Array.length_toList,if_pos a6,h.1],fun j e m a b=>?_⟩
 have b':(aw.toList.eraseIdx i)[j]?=some m:=by rw[←e1,Array.getElem?_toList];exact b
 rw[List.getElem?_eraseIdx]at a b'
 split at a
 ·rename_i au;rw[if_pos au]at b';exact h.2 j e m a (by simpa using b')
 ·rename_i au;rw[if_neg au]at b';exact h.2 _ e m a (by simpa using b')
theorem fo.set {aw:Array MapEntry}{c:Nat}(h:fo aw c)(k v:Value)(i:Nat):fo (aw.modify i fun e=>{ e with key:=k,val:=v }) c:=by
 have e:(aw.modify i fun e=>{ e with key:=k,val:=v }).toList.map (·.born)=aw.toList.map (·.born):=by
  apply List.ext_getElem?
  intro j
  simp only[List.getElem?_map,Array.getElem?_toList,Array.getElem?_modify]
  split
  ·cases aw[j]?<;>rfl
  ·rfl
 refine⟨fun m hm=>?_,by rw[e];exact h.2⟩
 have:=List.mem_map_of_mem (f:=fun m:MapEntry=>m.born) hm
 rw[e]at this
 obtain⟨m',h1,h2⟩:=List.mem_map.1 this
 rw[←h2];exact h.1 m' h1
theorem fo.push {aw:Array MapEntry}{c:Nat}(h:fo aw c)(k v:Value):fo (aw.push { key:=k,val:=v,born:=c }) (c+1):=by
 refine⟨fun m hm=>?_,?_⟩
 ·rw[Array.toList_push,List.mem_append]at hm
  rcases hm with hm|hm
  ·exact Nat.lt_succ_of_lt (h.1 m hm)
  ·simp at hm;subst hm;exact Nat.lt_succ_self _
 ·rw[Array.toList_push,List.map_append,List.nodup_append]
  refine⟨h.2,by simp,fun a ha b hb=>?_⟩
  simp at hb
  subst hb
  obtain⟨m,hm,rfl⟩:=List.mem_map.1 ha
  exact Nat.ne_of_lt (h.1 m hm)
theorem fo.erase {aw:Array MapEntry}{c:Nat}(h:fo aw c)(i:Nat):fo (aw.eraseIdxIfInBounds i) c:=by
 by_cases a6:i<aw.size
 ·have e1:(aw.eraseIdxIfInBounds i).toList=aw.toList.eraseIdx i:=by simp[Array.eraseIdxIfInBounds,a6]
  exact⟨fun m hm=>h.1 m (by rw[e1]at hm;exact(List.eraseIdx_sublist _ _).subset hm),by rw[e1];exact h.2.sublist ((List.eraseIdx_sublist _ _).map _)⟩
 ·have e1:aw.eraseIdxIfInBounds i=aw:=by simp[Array.eraseIdxIfInBounds,a6]
  rw[e1];exact h
theorem Ia {ty key elem:TypeId}{kt:KT}{b:Nat}{k v:T}{vm vk vv:Value}{es:List (T×T)}{r:Option Nat}(hu:P.underlying ty=some (.map key elem))(jC:my P key kt=true)
  (h:SR w0 g H w) (hm:VR g w (.map b) vm) (hk:VR g w k vk) (hv:VR g w v vv) (xS:k.iP kt=true) (hb:H[b]?=some (.map es)) (hr:da k es=some r) :
  ∃w' g',(Instr.mapUpdate ty vm vk vv).run P w=.ok () w'∧Le g w g' w'∧SR w0 g' (H.set b (.map (match r with|some i=>es.set i (k,v)|none=>es++[(k,v)]))) w'∧Fr g H g' (H.set b (.map (match r with|some i=>es.set i (k,v)|none=>es++[(k,v)]))):=by
 cases hm with
 | @map _ rr o q hφ =>
  obtain⟨h1,aw,c,h2,hE,hB⟩:=h.dQ b _ hb rr o q hφ
  have hf:=ub jC hk xS es aw.toList (by simpa using hE.1) (fun i e m a b=>hE.2 i e m a (by simpa using b)) hr
  have hc:=ky (P:=P) (w:=w) (e:=false) jC hk xS
  cases r with
  | none =>
   obtain⟨le,sr,fr⟩:=h.ue (c':=c+1) hb hφ h2 (hE.push hk hv c) (hB.push _ _)
   refine⟨_,g,?_,le,sr,fr⟩
   simp at hf
   simp[Instr.mapUpdate,run_underlying hu,getObj,setObj,Sem.run,h2,hc,hf,World.b9]
  | some i =>
   obtain⟨e,he,KM⟩:=qo k es i hr
   have au:i<aw.size:=by rw[hE.1];exact(List.getElem?_eq_some_iff.1 he).1
   have qi:aw[i]?=some aw[i]:=Array.getElem?_eq_getElem au
   have bN:=(hE.2 i e _ he qi).1
   have UQ:=qn hk bN KM
   have VW:Instr.sameBits 10000 aw[i].key vk=true:=by
    have:gL e.1 k=some true∨True:=.inr trivial
    by_cases h':∃as bs,k=.agg as∧e.1=.agg bs
    ·obtain⟨as,bs,rfl,e2⟩:=h'
     have eqc:∀(as bs:List T),bT as bs=some true→bT bs as=some true:=by
      intro as
      induction as with
      | nil=>intro bs G9;cases bs<;>simp[bT]at G9 ⊢
      | cons a as ih =>
       intro bs G9
       cases bs with
       | nil=>simp[bT]at G9
       | cons b bs =>
        simp only[bT]at G9 ⊢
        cases e1:ik a b with
        | none=>simp[e1]at G9
        | some r1 =>
         cases e2:bT as bs with
         | none=>simp[e1,e2]at G9
         | some r2 =>
          simp[e1,e2]at G9
          obtain⟨rfl,rfl⟩:=G9
          have:ik b a=some true:=by
           cases a<;>cases b<;>simp[ik,jc]at e1 ⊢
           ·exact⟨e1.1.symm,e1.2.symm⟩
           ·exact e1.symm
           ·exact e1.symm
          simp[this,ih bs e2]
     rw[e2]at bN KM
     exact qn bN hk (eqc _ _ KM)
    ·have e1:ik k e.1=some true:=by
      generalize e.1=d at *
      cases k<;>first|exact KM|(cases d<;>first|exact KM|exact absurd ⟨_,_,rfl,rfl⟩ h')
     have e2:ik e.1 k=some true:=by
      generalize e.1=d at *
      cases k<;>cases d<;>simp[ik,jc]at e1 ⊢
      ·exact⟨e1.1.symm,e1.2.symm⟩
      ·exact e1.symm
      ·exact e1.symm
     exact og bN hk e2
   obtain⟨le,sr,fr⟩:=h.ue (c':=c) hb hφ h2 (hE.set hk hv i) (hB.set _ _ i)
   refine⟨_,g,?_,le,sr,fr⟩
   have hx:((some i:Option Nat).bind fun i=>(aw.toList[i]?).map fun m=>(i,m.val))=some (i,aw[i].val):=by simp[au]
   rw[hx]at hf
   have Px:(Instr.keyThatStays aw[i].key vk).run P w=.ok vk w:=by simp[Instr.keyThatStays,VW]
   simp[Instr.mapUpdate,run_underlying hu,getObj,setObj,Sem.run,h2,hc,hf,au,Px,World.b9]
theorem Ib {ty key elem xt rt:TypeId}{kt:KT}{b:Nat}{k:T}{vm vk:Value}{es:List (T×T)}{r:Option Nat}(hu:P.underlying ty=some (.map key elem))(jC:my P key kt=true)
  (h:SR w0 g H w) (hm:VR g w (.map b) vm) (hk:VR g w k vk) (xS:k.iP kt=true) (hb:H[b]?=some (.map es)) (hr:da k es=some r) :
  b7 P w0 g H w (Builtin.delete_ #[ty,xt] rt #[vm,vk]) (.bF []) (match r with|some i=>H.set b (.map (es.eraseIdx i))|none=>H):=by
 cases hm with
 | @map _ rr o q hφ =>
  obtain⟨h1,aw,c,h2,hE,hB⟩:=h.dQ b _ hb rr o q hφ
  have hf:=ub jC hk xS es aw.toList (by simpa using hE.1) (fun i e m a b=>hE.2 i e m a (by simpa using b)) hr
  have hc:=ky (P:=P) (w:=w) (e:=aw.isEmpty) jC hk xS
  cases r with
  | none =>
   obtain⟨le,sr,fr⟩:=h.ue (c':=c) hb hφ h2 hE hB
   have hH:H.set b (.map es)=H:=by
    apply List.ext_getElem?
    intro j
    rw[List.getElem?_set]
    split
    ·rename_i e;subst e;rw[if_pos (List.getElem?_eq_some_iff.1 hb).1,hb]
    ·rfl
   rw[hH]at sr fr
   refine⟨.tuple #[],_,g,?_,le,sr,.bF rfl (by simp),fr⟩
   simp at hf
   simp[Builtin.delete_,run_underlying hu,getObj,setObj,Sem.run,h2,hc,hf,World.b9]
  | some i =>
   obtain⟨e,he,KM⟩:=qo k es i hr
   have UR:i<es.length:=(List.getElem?_eq_some_iff.1 he).1
   have au:i<aw.size:=by rw[hE.1];exact UR
   obtain⟨le,sr,fr⟩:=h.ue (c':=c) hb hφ h2 (hE.erase i UR) (hB.erase i)
   refine⟨.tuple #[],_,g,?_,le,sr,.bF rfl (by simp),fr⟩
   have hx:((some i:Option Nat).bind fun i=>(aw.toList[i]?).map fun m=>(i,m.val))=some (i,aw[i].val):=by simp[au]
   rw[hx]at hf
   simp[Builtin.delete_,run_underlying hu,getObj,setObj,Sem.run,h2,hc,hf,World.b9]
end
section
variable {P:Program} {w0 w:World} {g:Ctx} {H:af}
theorem kz {n:Nat}:∀(es:List (List T)),(∀c∈es,c.length=n)→∀(i j:Nat) (c:List T) (t:T),es[i]?=some c→c[j]?=some t→es.flatten[i*n+j]?=some t
 | [],_,i,j,c,t,h,_=>by simp at h
 | d :: es,hn,i,j,c,t,h,hj=>by
  have hd:=hn d (by simp)
  cases i with
  | zero =>
   simp at h;subst h
   have au:j<d.length:=(List.getElem?_eq_some_iff.1 hj).1
   simp only[List.flatten_cons,Nat.zero_mul,Nat.zero_add]
   rw[List.getElem?_append_left au];exact hj
  | succ i =>
   have ih:=kz es (fun c hc=>hn c (by simp[hc])) i j c t (by simpa using h) hj
   simp only[List.flatten_cons]
   rw[List.getElem?_append_right (by rw[hd,Nat.succ_mul];omega)]
   rw[show(i+1)*n+j-d.length=i*n+j by rw[hd,Nat.succ_mul];omega];exact ih
theorem fT {n:Nat}(es:List (List T))(hn:∀c∈es,c.length=n):es.flatten.length=es.length*n:=by
 induction es with
 | nil=>simp
 | cons d es ih=>simp only[List.flatten_cons,List.length_append,List.length_cons,Nat.succ_mul,hn d (by simp),ih (fun c hc=>hn c (by simp[hc]))];omega
theorem VR.uf {k:SK}{es:List (List T)}{r o cap n:Nat}{vs:List Value}(hn:∀c∈es,c.length=n)(hv:bC g w es.flatten vs)(ho:cA es.flatten)(hc:es.length≤cap)(hk:gz g k r o es.length cap n)
  (hi:∀(j:Nat) (v:Value),vs[j]?=some v→AX g w r (o+j) v):VR g w (.sl k es) (.slice (some ⟨r,o,none⟩) es.length cap):=by
 have key:∀(i j:Nat) (c:List T) (t:T),es[i]?=some c→c[j]?=some t→es.flatten[i*n+j]?=some t∧vs[i*n+j]?=some (vs.getD (i*n+j) undef):=by
  intro i j c t a b
  have h1:=kz es hn i j c t a b
  have au:i*n+j<vs.length:=by rw[←hv.1];exact(List.getElem?_eq_some_iff.1 h1).1
  exact⟨h1,by rw[List.getElem?_eq_getElem au,List.getD_eq_getElem?_getD,List.getElem?_eq_getElem au,Option.getD_some]⟩
 refine .sl (n:=n) (fun i j=>vs.getD (i*n+j) undef) hk hc hn (fun i j c t a b=>?_) (fun i j c t a b=>?_)
 ·obtain⟨h1,h2⟩:=key i j c t a b
  exact⟨ho t (List.mem_of_getElem? h1),by rw[Nat.add_assoc];exact hi _ _ h2⟩
 ·obtain⟨h1,h2⟩:=key i j c t a b
  exact hv.2 _ t _ h1 h2
theorem nk (es:List (List T)):(es.map (·.map T.erase)).flatten=es.flatten.map T.erase:=by
 induction es with
 | nil=>rfl
 | cons c es ih=>simp only[List.map_cons,List.flatten_cons,List.map_append,ih]
theorem bC.erase {ts:List T}{vs:List Value}(h:bC g w ts vs):bC g w (ts.map T.erase) vs :=
 ⟨by simp[h.1],fun i t v a b=>by
  rw[List.getElem?_map]at a
  obtain⟨t',h1,rfl⟩:=Option.map_eq_some_iff.1 a
  exact(h.2 i t' v h1 b).erase⟩
theorem qp {ts:List T}(h:cA ts):cA (ts.map T.erase):=by
 intro t ht
 obtain⟨t',h1,rfl⟩:=List.mem_map.1 ht
 rw[AY];exact h t' h1
theorem Ml {n:Nat}{y:T}{vy:Value}{new:List (List T)}(h:SR w0 g H w)(hy:VR g w y vy)(he:bK H n y=some new) :
  ∃vs:List Value,(Builtin.lenOf vy).run P w=.ok new.length w∧(Builtin.firstCells n new.length vy).run P w=.ok vs.toArray w∧bC g w new.flatten vs∧cA new.flatten∧(∀c∈new,c.length=n)∧vs.length=new.length*n:=by
 by_cases hs:∃s,y=.str s
 ·obtain⟨s,rfl⟩:=hs
  cases hy
  simp only[bK]at he
  split at he
  ·rename_i hn
   subst hn
   simp at he
   have hlen:new.length=s.size:=by rw[←he,List.length_map];exact Array.length_toList
   have rF:new.flatten=s.data.toList.map fun c=>T.int .u8 c.toNat:=by
    rw[←he]
    generalize s.data.toList=l
    induction l with
    | nil=>rfl
    | cons c l ih=>simp only[List.map_cons,List.flatten_cons,ih];rfl
   have hex:s.extract 0 s.size=s:=by simp
   refine⟨s.data.toList.map fun c=>.int .u8 c.toNat,by simp[Builtin.lenOf,hlen],?_,?_,?_,?_,?_⟩
   ·rw[hlen]
    simp only[Builtin.firstCells,hex,Sem.run_pure]
    congr 1
    apply Array.ext';simp
   ·rw[rF]
    refine⟨by simp,fun i t v a b=>?_⟩
    rw[List.getElem?_map]at a b
    obtain⟨c,h1,rfl⟩:=Option.map_eq_some_iff.1 a
    rw[h1]at b;simp at b;subst b
    exact .int _ _
   ·rw[rF];intro t ht
    obtain⟨c,_,rfl⟩:=List.mem_map.1 ht;rfl
   ·rw[←he];intro c hc
    obtain⟨_,_,rfl⟩:=List.mem_map.1 hc;rfl
   ·rw[hlen,List.length_map,Nat.mul_one];exact Array.length_toList
  ·simp at he
 ·obtain⟨a,cap,vs,rfl,_,h1,h2,h3,h4,h5,h6⟩:=m9 h hy he (fun s e=>hs ⟨s,e⟩)
  refine⟨vs,by simp[Builtin.lenOf],?_,h3,h5,h6,h4⟩
  cases a with
  | none =>
   have:=(h1 rfl).1
   subst this
   simp at h4
   simp[Builtin.firstCells,h4]
  | some a =>
   obtain⟨_,h7⟩:=h2 a rfl
   have:=run_loadCells_list (P:=P) w a vs h7
   rw[h4]at this
   simpa[Builtin.firstCells]using this
theorem zo (jx:Nat):∀(k c:Nat),c≤jx+(jx+768)/4→Builtin.growBy jx k c≤jx+(jx+768)/4
 | 0,c,h=>h
 | k+1,c,h=>by
  rw[Builtin.growBy]
  split
  ·exact h
  ·exact zo jx k _ (by omega)
theorem Ic {jx cap:Nat}(h:cap<jx):Builtin.nextslicecap jx cap≤jx+jx/4+512:=by
 unfold Builtin.nextslicecap
 split
 ·omega
 ·split
  ·omega
  ·have:=zo jx 4 cap (by omega)
   omega
theorem zp {jx cap bytes:Nat}(h:cap<jx)(hr:db jx bytes=true):¬Builtin.nextslicecap jx cap*bytes>2^48:=by
 have h1:=Nat.mul_le_mul_right bytes (Ic h)
 simp only[db,decide_eq_true_eq]at hr
 omega
structure oh (P:Program)(sT xT elem:TypeId)(ei:TypeInfo)(zv:Value)(n bytes:Nat):Prop where
 hu:P.underlying sT=some (.slice elem)
 hi:P.info? elem=some ei
 hx:∃d,P.underlying xT=some d∧∀k,d≠.int k
 hn:ei.size=n
 hz:ei.zero=some zv
 Ie:zv.cells.size=n
 hb:ei.bytes=bytes
 Ha:bytes≠0
theorem mc {sT xT elem rt:TypeId}{ei:TypeInfo}{zv x:Value}{n bytes r o len cap m:Nat}{vs:List Value}(E:oh P sT xT elem ei zv n bytes)(hl:(Builtin.lenOf x).run P w=.ok m w)(hf:(Builtin.firstCells n m x).run P w=.ok vs.toArray w)
  (kC:len+m≤cap) (hs:(storeCells ⟨r,o+len*n,none⟩ vs).run P w=.ok () (w.setCells r (o+len*n) vs)) :
  (Builtin.append_ #[sT,xT] rt #[.slice (some ⟨r,o,none⟩) len cap,x]).run P w=.ok (.slice (some ⟨r,o,none⟩) (len+m) cap) (w.setCells r (o+len*n) vs):=by
 obtain⟨d,h1,h2⟩:=E.hx
 have hz:(match d with | .int _=>true|_=>false)=false:=by cases d<;>first|rfl|exact absurd rfl (h2 _)
 simp[Builtin.append_,run_underlying E.hu,run_underlying h1,hz,sizeOf,bn E.hi,E.hn,hl,hf,kC,dc,hs]
theorem kD {sT xT elem rt:TypeId}{ei:TypeInfo}{zv x:Value}{n bytes:Nat}{base:Option Addr}{len cap:Nat}(E:oh P sT xT elem ei zv n bytes)(hl:(Builtin.lenOf x).run P w=.ok 0 w)(hf:(Builtin.firstCells n 0 x).run P w=.ok #[] w)(kC:len≤cap) :
  (Builtin.append_ #[sT,xT] rt #[.slice base len cap,x]).run P w=.ok (.slice base len cap) w:=by
 obtain⟨d,h1,h2⟩:=E.hx
 have hz:(match d with | .int _=>true|_=>false)=false:=by cases d<;>first|rfl|exact absurd rfl (h2 _)
 cases base<;>simp[Builtin.append_,run_underlying E.hu,run_underlying h1,hz,sizeOf,bn E.hi,E.hn,hl,hf,kC,storeCells]
theorem kE (zc:Array Value)(n:Nat):(Builtin.zeroCells zc n).size=n*zc.size:=by simp[Builtin.zeroCells]
theorem gP {sT xT elem rt:TypeId}{ei:TypeInfo}{zv x:Value}{n bytes:Nat}{base:Option Addr}{len cap m:Nat}{jz vs:List Value}(E:oh P sT xT elem ei zv n bytes)(hl:(Builtin.lenOf x).run P w=.ok m w)(hf:∀w':World,w'.heap=w.heap→(Builtin.firstCells n m x).run P w'=.ok vs.toArray w')
  (ho:∀w':World,w'.heap=w.heap→(Builtin.firstCells n len (.slice base len cap)).run P w'=.ok jz.toArray w') (xV:cap<len+m) (hr:db (len+m) bytes=true) :
  ∃(eA:Nat) (rest:List Value),len+m≤eA∧rest.length=(eA-(len+m))*n ∧
   (Builtin.append_ #[sT,xT] rt #[.slice base len cap,x]).run P w=.ok (.slice (some ⟨w.heap.size,0,none⟩) (len+m) eA) (w.drew.alloc (.cells (jz++vs++rest).toArray elem)):=by
 obtain⟨d,h1,h2⟩:=E.hx
 have hz:(match d with | .int _=>true|_=>false)=false:=by cases d<;>first|rfl|exact absurd rfl (h2 _)
 have gQ:=zp xV hr
 have kC:¬len+m≤cap:=by omega
 let eA:=Question.cut (.appendCap (len+m) cap elem) (w.tape w.drawn (.appendCap (len+m) cap elem))
 have na:len+m≤eA:=by simp only[eA,Question.cut];omega
 refine⟨eA,(Builtin.zeroCells zv.cells (eA-(len+m))).toList,na,?_,?_⟩
 ·rw[Array.length_toList,kE,E.Ie]
 ·have pI:=hf w.drew rfl
  have mz:=ho w.drew rfl
  have Ha:ei.bytes≠0:=by rw[E.hb];exact E.Ha
  simp only[gt_iff_lt,Nat.not_lt]at gQ
  have C4:Builtin.nextslicecap (len+m) cap*ei.bytes≤2^48:=by rw[E.hb];exact gQ
  simp only[Builtin.append_,List.getElem?_toArray,List.getElem?_cons_zero,List.getElem?_cons_succ,Sem.run_bind,run_underlying E.hu,run_underlying h1,Result.andThen_ok,sizeOf,bn E.hi,E.hn,hl,Sem.run_pure,kC,if_false]
  cases d<;>first
   | exact absurd rfl (h2 _)
   | (simp[hl,kC,bn E.hi,Ha,C4,Nat.not_lt.2 C4,run_choose,Question.forced,mz,pI,zeroValue,E.hz,newRow,eA];congr 2;apply Array.ext';simp)
theorem SR.Qg {t e r p q m:Nat}{vs:List Value}(h:SR w0 g H w)(ht:H[t]?=some (.tok e))(hp:g.π t e=some (r,p,q))(hm:0<m)(kC:p+vs.length≤q) :
  let g':=((g.row r fun j=>if p≤j∧j<p+vs.length then .lU else g.κ r j).tok t (e+m) (r,p+vs.length,q))
  Le g w g' (w.setCells r p vs)∧SR w0 g' (H.set t (.tok (e+m))) (w.setCells r p vs)∧Fr g H g' (H.set t (.tok (e+m)))∧∀(i:Nat) (v:Value),vs[i]?=some v→AX g' (w.setCells r p vs) r (p+i) v:=by
 intro g'
 have Qh:t<H.length:=(List.getElem?_eq_some_iff.1 ht).1
 obtain⟨r1,p1,q1,e1,h2,h3,h4⟩:=h.dQ t _ ht
 rw[hp]at e1;cases e1
 have hs:∀j,p≤j→j<p+vs.length→(w.cell? ⟨r,j,none⟩).isSome=true:=fun j a c=>(h3 j a (by omega)).2.2
 have tr:=Tr.setCells w r p vs hs
 have hS:∀r' j,vK r p vs.length r' j→g.κ r' j=.spare t:=by
  rintro r' j⟨rfl,a,c⟩;exact(h3 j a (by omega)).1
 have hκ:∀r' j,g'.κ r' j=if r'=r∧p≤j∧j<p+vs.length then .lU else g.κ r' j:=by
  intro r' j
  simp only[g',Ctx.tok,Ctx.row]
  by_cases e:r'=r
  ·subst e;simp
  ·simp[e]
 have hπ:∀t' e',g'.π t' e'=if t'=t∧e'=e+m then some (r,p+vs.length,q)else g.π t' e':=fun t' e'=>rfl
 have le:Le g w g' (w.setCells r p vs):=Le.gO tr (fun _ _ h=>h) (fun r' o hk=>by rw[hκ];split;rfl;exact hk)
  (fun t' e' x hx=>by rw[hπ];split;rename_i c;obtain⟨rfl,rfl⟩:=c;rw[h4 _ (by omega)]at hx;cases hx;exact hx)
  (fun r' j eI e=>by rw[hS r' j eI]at e;cases e)
 have lU:∀(i:Nat) (v:Value),vs[i]?=some v→AX g' (w.setCells r p vs) r (p+i) v:=fun i v hi=>by
  have au:i<vs.length:=(List.getElem?_eq_some_iff.1 hi).1
  exact⟨by rw[hκ];simp;omega,cI r vs p w hs i v hi⟩
 refine⟨le,h.step (fun b'=>b'=t) tr le (fun r' j eI=>.inr (.inr ⟨t,hS r' j eI,rfl⟩)) (fun _ hm=>hm.elim) (fun r' j hr=>?_) (fun b' x hx=>by rw[List.length_set];exact h.rP b' x hx)
  (fun t' e' x hx=>?_) (fun _ _ _=>rfl) (fun r' j b' iY=>?_) (fun t' e' _ iY=>?_) (fun b' x hx=>?_),⟨by simp,fun b' x a c d=>⟨ft a (by rintro rfl;rw[ht]at a;cases a;exact absurd rfl (c e)),d⟩⟩,lU⟩
 ·rw[dB]at hr
  rw[hκ];split
  ·rename_i c;obtain⟨rfl,a,c⟩:=c
   have:=h.fresh r' j hr
   rw[(h3 j a (by omega)).1]at this;cases this
  ·exact h.fresh r' j hr
 ·rw[List.length_set]
  rw[hπ]at hx
  split at hx
  ·rename_i c;rw[c.1];exact Qh
  ·exact h.iQ t' e' x hx
 ·constructor<;>intro e'<;>rw[hκ]<;>split
  ·rename_i c;obtain⟨rfl,a,c⟩:=c;rw[(h3 j a (by omega)).1]at e';cases e'
  ·exact e'
  ·rename_i c;obtain⟨rfl,a,c⟩:=c;rw[(h3 j a (by omega)).1]at e';cases e';exact absurd rfl iY
  ·exact e'
 ·rw[hπ,if_neg (fun c=>iY c.1)]
 ·rcases eo Qh hx with⟨rfl,rfl⟩|⟨bG,jh⟩
  ·right
   refine⟨r,p+vs.length,q,by rw[hπ];simp,kC,fun j a c=>⟨?_,?_,?_⟩,fun e' he=>by rw[hπ,if_neg (by omega)];exact h4 e' (by omega)⟩
   ·rw[hκ,if_neg (by omega)];exact(h3 j (by omega) c).1
   ·rw[World.frozen?_setCells];exact(h3 j (by omega) c).2.1
   ·rw[cF r vs p w r j (by omega)];exact(h3 j (by omega) c).2.2
  ·exact .inl ⟨bG,jh⟩
theorem SR.C5 {c:Array Value}{ty:TypeId}{w1:World}{H':af}{t e k:Nat}(h:SR w0 g H w)(tr:Tr w w1 gu iC)(hz:w1.heap.size=w.heap.size)(ht:H'[t]?=some (.tok e))(hk:k≤c.size)
  (ir:∀e',e≤e'→g.π t e'=none) (hH:∀b' x,b'≠t→H'[b']?=some x→H[b']?=some x) (hl:H.length≤H'.length) (aq:∀(b':Nat) (x:B),H[b']?=some x→(∀e:Nat,x≠.tok e)→H'[b']?=some x) :
  let g':=((g.row w.heap.size fun j=>if j<k then .lU else .spare t).tok t e (w.heap.size,k,c.size))
  Le g w g' (w1.alloc (.cells c ty))∧SR w0 g' H' (w1.alloc (.cells c ty))∧Fr g H g' H'∧(∀(j:Nat) (v:Value),j<k→c[j]?=some v→AX g' (w1.alloc (.cells c ty)) w.heap.size j v)∧g'.π t e=some (w.heap.size,k,c.size):=by
 intro g'
 have vL:=tr.trans (Tr.alloc w1 (.cells c ty) (.inr ⟨_,_,rfl⟩))
 have bG:∀r j ow,g.κ r j=ow→ow≠.free→r≠w.heap.size:=by rintro r j ow e hn rfl;exact hn (e▸h.fresh _ j (Nat.le_refl _))
 have hπ:∀t' e',g'.π t' e'=if t'=t∧e'=e then some (w.heap.size,k,c.size)else g.π t' e':=fun t' e'=>rfl
 have hκ:∀r j,g'.κ r j=if r=w.heap.size then(if j<k then .lU else .spare t)else g.κ r j:=fun r j=>rfl
 have le:Le g w g' (w1.alloc (.cells c ty)):=Le.gO vL (fun _ _ h=>h) (fun r o hk=>by rw[hκ,if_neg (bG r o _ hk (by simp))];exact hk)
  (fun t' e' x hx=>by rw[hπ];split;rename_i c;obtain⟨rfl,rfl⟩:=c;rw[ir _ (Nat.le_refl _)]at hx;cases hx;exact hx) (fun _ _ hs=>hs.elim)
 refine⟨le,?_,⟨hl,fun b' x a c d=>⟨aq b' x a c,d⟩⟩,fun j v hj hv=>⟨by rw[hκ];simp[hj],by rw[←hz,World.cell?_alloc_new];exact hv⟩,by rw[hπ];simp⟩
 refine h.step (fun b'=>b'=t) vL le (fun _ _ hs=>hs.elim) (fun _ hm=>hm.elim) (fun r o hr=>?_) (fun b' x hx=>Nat.lt_of_lt_of_le (h.rP b' x hx) hl) (fun t' e' x hx=>?_) (fun _ _ _=>rfl) (fun r j b' iY=>?_) (fun t' e' _ iY=>?_) (fun b' x hx=>?_)
 ·simp at hr
  rw[hκ,if_neg (by omega)];exact h.fresh r o (by omega)
 ·rw[hπ]at hx
  split at hx
  ·rename_i c;rw[c.1];exact(List.getElem?_eq_some_iff.1 ht).1
  ·exact Nat.lt_of_lt_of_le (h.iQ t' e' x hx) hl
 ·constructor<;>intro e'<;>rw[hκ,if_neg (bG r j _ e' (by simp))]<;>exact e'
 ·rw[hπ,if_neg (fun c=>iY c.1)]
 ·by_cases e':b'=t
  ·subst e'
   right
   rw[ht]at hx;cases hx
   refine⟨w.heap.size,k,c.size,by rw[hπ];simp,hk,fun j a b=>⟨by rw[hκ];simp;omega,by rw[←hz];simp,by rw[←hz,World.cell?_alloc_new,Array.getElem?_eq_getElem b];rfl⟩,fun Ig he=>by rw[hπ,if_neg (by omega)];exact ir Ig (by omega)⟩
  ·exact .inl ⟨e',hH b' x e' hx⟩
theorem pK (w:World):Tr w w.drew gu iC:=Tr.drew w
theorem oj {w w':World}(h:w'.heap=w.heap)(a:Addr):w'.cell? a=w.cell? a:=by unfold World.cell?;rw[h]
theorem zq {n:Nat}{y:T}{vy:Value}{new:List (List T)}(h:SR w0 g H w)(hy:VR g w y vy)(he:bK H n y=some new) :
  ∃vs:List Value,(Builtin.lenOf vy).run P w=.ok new.length w∧(∀w':World,w'.heap=w.heap→(Builtin.firstCells n new.length vy).run P w'=.ok vs.toArray w')∧bC g w new.flatten vs∧cA new.flatten∧(∀c∈new,c.length=n)∧vs.length=new.length*n:=by
 obtain⟨vs,h1,h2,h3,h4,h5,h6⟩:=Ml (P:=P) h hy he
 refine⟨vs,h1,fun w' A9=>?_,h3,h4,h5,h6⟩
 by_cases hs:∃s,y=.str s
 ·obtain⟨s,rfl⟩:=hs
  cases hy
  simp only[Builtin.firstCells,Sem.run_pure,Result.ok.injEq,and_true]at h2 ⊢
  exact h2
 ·obtain⟨a,cap,Pt,rfl,_,k1,k2,k3,k4,k5,k6⟩:=m9 h hy he (fun s e=>hs ⟨s,e⟩)
  cases a with
  | none =>
   simp only[Builtin.firstCells,Sem.run_pure,Result.ok.injEq,and_true]at h2 ⊢
   exact h2
  | some a =>
   obtain⟨_,h7⟩:=k2 a rfl
   have a1:=run_loadCells_list (P:=P) w a Pt h7
   have a2:=run_loadCells_list (P:=P) w' a Pt (fun j v hj=>by rw[oj A9];exact h7 j v hj)
   rw[k4]at a1 a2
   simp only[Builtin.firstCells]at h2 ⊢
   rw[a1]at h2
   rw[a2]
   simp at h2
   rw[h2]
theorem Ih {sT xT elem rt:TypeId}{ei:TypeInfo}{zv:Value}{n bytes:Nat}{k:SK}{es new:List (List T)}{y t:T}{vx vy:Value}{H':af}(E:oh P sT xT elem ei zv n bytes)
  (h:SR w0 g H w) (hx:VR g w (.sl k es) vx) (hy:VR g w y vy) (cr:es.all (·.length==n)=true) (rQ:bK H n y=some new) (he:gM H bytes k es new=some (t,H')) :
  b7 P w0 g H w (Builtin.append_ #[sT,xT] rt #[vx,vy]) t H':=by
 obtain⟨vs,s1,s2,s3,s4,s5,s6⟩:=zq (P:=P) h hy rQ
 obtain⟨a,cap,jz,rfl,na,x1,x2,x3,x4,x5,x6⟩:=m9 (n:=n) (es:=es) h hx (by simp only[bK,cr,if_true]) (fun s e=>by cases e)
 have na:es.length≤cap:=na
 cases ir:new with
 | nil =>
  subst ir
  simp only[gM,Option.some.injEq,Prod.mk.injEq]at he
  obtain⟨rfl,rfl⟩:=he
  have iq:vs=[]:=by simpa using s6
  subst iq
  exact b7.same h (kD E s1 (s2 w rfl) na) hx
 | cons c0 VX =>
  have hlen:0<new.length:=by rw[ir];simp
  rw[ir]at he
  simp only[gM]at he
  rw[←ir]at he
  split at he
  ·rename_i gQ
   have KL:∀c∈es++new.map (·.map T.erase),c.length=n:=by
    intro c hc
    rcases List.mem_append.1 hc with hc|hc
    ·exact x6 c hc
    ·obtain⟨c',h1,rfl⟩:=List.mem_map.1 hc
     rw[List.length_map];exact s5 c' h1
   have rF:(es++new.map (·.map T.erase)).flatten=es.flatten++new.flatten.map T.erase:=by rw[List.flatten_append,nk]
   have rR:(es++new.map (·.map T.erase)).length=es.length+new.length:=by simp
   have ho:cA (es++new.map (·.map T.erase)).flatten:=by
    rw[rF];intro t ht
    rcases List.mem_append.1 ht with ht|ht
    ·exact x5 t ht
    ·exact qp s4 t ht
   have mV:(jz++vs).length=(es.length+new.length)*n:=by rw[List.length_append,x4,s6,Nat.add_mul]
   have grow:∀(t' e':Nat) (Hn:af),cap<es.length+new.length→Hn[t']?=some (.tok e')→(∀Ig,e'≤Ig→g.π t' Ig=none)→(∀b' x,b'≠t'→Hn[b']?=some x→H[b']?=some x)→H.length≤Hn.length →
     (∀(b':Nat) (x:B),H[b']?=some x→(∀e:Nat,x≠.tok e)→Hn[b']?=some x)→b7 P w0 g H w (Builtin.append_ #[sT,xT] rt #[.slice a es.length cap,vy]) (.sl (.own t' e') (es++new.map (·.map T.erase))) Hn:=by
    intro t' e' Hn xV k1 k2 k3 k4 k5
    have Pu:∀w':World,w'.heap=w.heap→(Builtin.firstCells n es.length (.slice a es.length cap)).run P w'=.ok jz.toArray w':=by
     intro w' A9
     cases a with
     | none =>
      have:=(x1 rfl).1
      subst this
      have:jz=[]:=by simpa using x4
      subst this
      simp[Builtin.firstCells]
     | some a =>
      obtain⟨_,h7⟩:=x2 a rfl
      have:=run_loadCells_list (P:=P) w' a jz (fun j v hj=>by rw[oj A9];exact h7 j v hj)
      rw[x4]at this
      simpa[Builtin.firstCells]using this
    obtain⟨eA,rest,jw,po,cw⟩:=gP (rt:=rt) (w:=w) E s1 s2 Pu xV gQ
    have a6:(jz++vs++rest).toArray.size=eA*n:=by
     simp only[List.size_toArray]
     rw[List.length_append,mV,po,←Nat.add_mul];congr 1;omega
    obtain⟨le,sr,fr,lU,hp⟩:=h.C5 (c:=(jz++vs++rest).toArray) (ty:=elem) (k:=(es.length+new.length)*n) (pK w) rfl k1 (by rw[a6];exact Nat.mul_le_mul_right _ jw) k2 k3 k4 k5
    refine⟨_,_,_,cw,le,sr,?_,fr⟩
    have hv:bC g w (es++new.map (·.map T.erase)).flatten (jz++vs):=by rw[rF];exact bC.append x3 s3.erase
    have:=VR.uf (k:=.own t' e') (r:=w.heap.size) (o:=0) (cap:=eA) KL (hv.mono le) ho (by rw[rR];exact jw) ⟨by rw[hp,rR,a6];simp,by rw[rR];omega⟩ (fun j v hj=>?_)
    ·rw[rR]at this;exact this
    ·have au:j<(jz++vs).length:=(List.getElem?_eq_some_iff.1 hj).1
     rw[Nat.zero_add]
     refine lU j v (by omega) ?_
     rw[List.getElem?_toArray,List.getElem?_append_left au];exact hj
   cases k with
   | nil =>
    simp only[Option.some.injEq,Prod.mk.injEq]at he
    obtain⟨rfl,rfl⟩:=he
    have mr:cap<es.length+new.length:=by
     cases hx with
     | slnil=>simpa using hlen
     | sl cR hk=>exact hk.elim
    exact grow H.length _ _ mr (fq _ _) (fun Ig _=>h.VV (Nat.le_refl _)) (fun b' x e hx=>cT e hx) (by simp) (fun b' x hx _=>iD hx)
   | full =>
    simp only[Option.some.injEq,Prod.mk.injEq]at he
    obtain⟨rfl,rfl⟩:=he
    have mr:cap<es.length+new.length:=by
     cases hx with
     | sl cR hk=>simp only[gz]at hk;omega
    exact grow H.length _ _ mr (fq _ _) (fun Ig _=>h.VV (Nat.le_refl _)) (fun b' x e hx=>cT e hx) (by simp) (fun b' x hx _=>iD hx)
   | arg=>cases he
   | own t0 e0 =>
    cases ht:H[t0]? with
    | none=>simp[ht]at he
    | some bt =>
     cases bt with
     | tok e1 =>
      simp only[ht]at he
      split at he
      ·rename_i hee
       subst hee
       simp only[Option.some.injEq,Prod.mk.injEq]at he
       obtain⟨rfl,rfl⟩:=he
       have Qh:t0<H.length:=(List.getElem?_eq_some_iff.1 ht).1
       obtain⟨r1,p1,q1,lu,Qi,zm,gv⟩:=h.dQ t0 _ ht
       by_cases kC:es.length+new.length≤cap
       ·-- in place
        cases hx with
        | @sl _ _ r o _ n' cR hk hc hn h3 h4 =>
         simp only[gz]at hk
         obtain⟨om,xW⟩:=hk
         have tV:n'=n:=by
          cases es with
          | nil=>simp at xW
          | cons c es=>rw[←hn c (by simp),x6 c (by simp)]
         subst tV
         rw[lu]at om
         simp only[Option.some.injEq,Prod.mk.injEq]at om
         obtain⟨rfl,rfl,rfl⟩:=om
         have Mm:o+es.length*n'+vs.length≤o+cap*n':=by
          rw[s6,Nat.add_assoc,←Nat.add_mul]
          exact Nat.add_le_add_left (Nat.mul_le_mul_right _ kC) _
         obtain⟨le,sr,fr,lU⟩:=h.Qg (m:=new.length) (vs:=vs) ht lu hlen Mm
         have dG:=run_storeCells_cells (P:=P) r1 (o+es.length*n') vs 0 w (fun j hj=>by simpa using (zm (o+es.length*n'+j) (by omega) (by omega)).2.2) (fun j hj=>by simpa using (zm (o+es.length*n'+j) (by omega) (by omega)).2.1) (s3.iz s4)
         rw[Nat.add_zero]at dG
         have cw:=mc (rt:=rt) (cap:=cap) E s1 (s2 w rfl) kC dG
         refine⟨_,_,_,cw,le,sr,?_,fr⟩
         have hv:bC g w (es++new.map (·.map T.erase)).flatten (jz++vs):=by rw[rF];exact bC.append x3 s3.erase
         have Qj:∀(j:Nat) (v:Value),jz[j]?=some v→AX g w r1 (o+j) v:=by
          intro j v hj
          have au:j<es.length*n':=by rw[←x4];exact(List.getElem?_eq_some_iff.1 hj).1
          obtain⟨_,h7⟩:=x2 _ rfl
          have kF:=h7 j v hj
          rw[dc]at kF
          have Qk:0<n':=by
           rcases Nat.eq_zero_or_pos n' with e|e
           ·subst e;simp at au
           ·exact e
          have hi:j/n'<es.length:=Nat.div_lt_of_lt_mul (by rw[Nat.mul_comm];exact au)
          have e1:es[j/n']?=some es[j/n']:=List.getElem?_eq_getElem hi
          have hm:j%n'<(es[j/n']).length:=by rw[x6 _ (List.getElem_mem hi)];exact Nat.mod_lt _ Qk
          have:=(h3 (j/n') (j%n') _ _ e1 (List.getElem?_eq_getElem hm)).2
          have ee:o+j/n'*n'+j%n'=o+j:=by rw[Nat.add_assoc,Nat.mul_comm,Nat.div_add_mod]
          rw[ee]at this
          exact⟨this.1,kF⟩
         have:=VR.uf (k:=.own t0 (e0+new.length)) (r:=r1) (o:=o) (cap:=cap) KL (hv.mono le) ho (by rw[rR];exact kC) ⟨by rw[rR];simp[Ctx.tok,s6,Nat.add_mul,Nat.add_assoc],by rw[rR];omega⟩ (fun j v hj=>?_)
         ·rw[rR]at this;exact this
         ·rw[List.getElem?_append]at hj
          split at hj
          ·exact(Qj j v hj).mono le
          ·rename_i dY
           have:=lU _ v hj
           rw[x4]at this dY
           rwa[show o+es.length*n'+(j-es.length*n')=o+j by omega]at this
       ·exact grow t0 (e0+new.length) _ (by omega) (by simp[Qh]) (fun Ig he=>gv Ig (by omega)) (fun b' x bG hx=>by
          rcases eo Qh hx with⟨e,_⟩|⟨_,jh⟩
          ·exact absurd e bG
          ·exact jh) (by simp) (fun b' x VY bG=>ft VY (by rintro rfl;rw[ht]at VY;cases VY;exact absurd rfl (bG e0)))
      ·cases he
     | cells _=>simp[ht]at he
     | map _=>simp[ht]at he
     | _=>simp[ht]at he
  ·cases he
end
section
variable {P:Program} {w0 w:World} {g:Ctx} {H:af}
theorem SR.Ql {b r o q:Nat}{cs ts:List T}{vs:List Value}(h:SR w0 g H w)(hb:H[b]?=some (.cells cs))(hφ:g.φ b=some (r,o,q))(hv:bC g w ts vs)(ho:cA ts)(kC:o+cs.length+ts.length≤q) :
  let g':=((g.row r fun j=>if o≤j∧j<q then .mut H.length else g.κ r j).at H.length (r,o,q))
  Le g w g' (w.setCells r (o+cs.length) vs)∧SR w0 g' (H.set b .dead++[.cells (cs++ts)]) (w.setCells r (o+cs.length) vs)∧Fr g H g' (H.set b .dead++[.cells (cs++ts)]):=by
 intro g'
 have kc:b<H.length:=(List.getElem?_eq_some_iff.1 hb).1
 obtain⟨h1,h2,h3⟩:=h.dQ b _ hb r o q hφ
 have hl:=hv.1
 have hs:∀j,o+cs.length≤j→j<o+cs.length+vs.length→(w.cell? ⟨r,j,none⟩).isSome=true:=fun j a c=>(h2 j (by omega) (by omega)).2.2
 have tr:=Tr.setCells w r (o+cs.length) vs hs
 have hS:∀r' j,vK r (o+cs.length) vs.length r' j→g.κ r' j=.mut b:=by
  rintro r' j⟨rfl,a,c⟩;exact(h2 j (by omega) (by omega)).1
 have hκ:∀r' j,g'.κ r' j=if r'=r∧o≤j∧j<q then .mut H.length else g.κ r' j:=by
  intro r' j
  simp only[g',Ctx.at,Ctx.row]
  by_cases e:r'=r
  ·subst e;simp
  ·simp[e]
 have kj:∀b',g'.φ b'=if b'=H.length then some (r,o,q)else g.φ b':=fun b'=>rfl
 have le:Le g w g' (w.setCells r (o+cs.length) vs):=Le.gO tr
  (fun b' x hx=>by rw[kj];split;rename_i e;rw[e,h.HX (Nat.le_refl _)]at hx;cases hx;exact hx)
  (fun r' j hk=>by rw[hκ];split;rename_i c;obtain⟨rfl,a,c⟩:=c;rw[(h2 j a c).1]at hk;cases hk;exact hk) (fun _ _ _ h=>h) (fun r' j eI e=>by rw[hS r' j eI]at e;cases e)
 refine⟨le,h.step (fun b'=>b'=b∨b'=H.length) tr le (fun r' j eI=>.inr (.inl ⟨b,hS r' j eI,.inl rfl⟩)) (fun _ hm=>hm.elim) (fun r' j hr=>?_) (fun b' x hx=>?_) (fun t e x hx=>?_) (fun b' iY hn=>?_) (fun r' j b' hn=>?_) (fun _ _ _ _=>rfl) (fun b' x hx=>?_),?_,fun b' x a c d=>?_⟩
 ·rw[dB]at hr
  rw[hκ];split
  ·rename_i c;obtain⟨rfl,a,c⟩:=c
   have:=h.fresh r' j hr
   rw[(h2 j a c).1]at this;cases this
  ·exact h.fresh r' j hr
 ·rw[kj]at hx
  simp only[List.length_append,List.length_set,List.length_singleton]
  split at hx
  ·omega
  ·have:=h.rP b' x hx;omega
 ·simp only[List.length_append,List.length_set,List.length_singleton]
  have:=h.iQ t e x hx;omega
 ·rw[kj,if_neg (by omega)]
 ·constructor<;>intro e<;>rw[hκ]<;>split
  ·rename_i c;obtain⟨rfl,a,c⟩:=c;rw[(h2 j a c).1]at e;cases e;exact absurd (.inl rfl) hn
  ·exact e
  ·rename_i c;obtain⟨rfl,a,c⟩:=c;rw[(h2 j a c).1]at e;cases e
  ·exact e
 ·by_cases e:b'=H.length
  ·right
   subst e
   have jh:x=.cells (cs++ts):=by
    have:(H.set b B.dead++[.cells (cs++ts)])[H.length]?=some (.cells (cs++ts)):=by
     rw[List.getElem?_append_right (by simp)];simp
    rw[this]at hx;cases hx;rfl
   subst jh
   intro r' o' q' hq
   rw[kj,if_pos rfl]at hq
   simp only[Option.some.injEq,Prod.mk.injEq]at hq
   obtain⟨rfl,rfl,rfl⟩:=hq
   refine⟨by rw[List.length_append];omega,fun j a c=>⟨by rw[hκ];simp[a,c],by rw[World.frozen?_setCells];exact(h2 j a c).2.1,tr.dF r j ?_ (h2 j a c).2.2⟩,fun i t hi=>?_⟩
   ·obtain⟨x,hx⟩:=Option.isSome_iff_exists.1 (h2 j a c).2.2;exact jA hx
   ·rw[List.getElem?_append]at hi
    split at hi
    ·rename_i au
     obtain⟨a,v,Mh,Mi⟩:=h3 i t hi
     exact⟨a,v,by rw[cF r vs _ w r (o+i) (by omega)];exact Mh,Mi.mono le⟩
    ·rename_i dY
     have au:i-cs.length<vs.length:=by rw[←hl];exact(List.getElem?_eq_some_iff.1 hi).1
     refine⟨ho t (List.mem_of_getElem? hi),_,?_,(hv.2 _ t _ hi (List.getElem?_eq_getElem au)).mono le⟩
     have:=cI r vs (o+cs.length) w hs (i-cs.length) _ (List.getElem?_eq_getElem au)
     rwa[show o+cs.length+(i-cs.length)=o+i by omega]at this
  ·have gw:(H.set b B.dead)[b']?=some x:=cT (by simpa using e) hx
   rcases eo kc gw with⟨rfl,rfl⟩|⟨bG,jh⟩
   ·right;trivial
   ·exact .inl ⟨by rintro (h|h);exact bG h;exact e h,jh⟩
 ·simp
 ·have au:b'<H.length:=(List.getElem?_eq_some_iff.1 a).1
  have bG:b'≠b:=by rintro rfl;rw[hφ]at d;cases d
  exact⟨iD (ft a bG),by rw[kj,if_neg (by omega)];exact d⟩
theorem C6 {x:T}{vx:Value}(hx:VR g w x vx)(hk:CH x=true):∃(a:Option Addr) (l c:Nat),vx=.slice a l c∧l≤c:=by
 cases hx with
 | slnil=>exact⟨_,_,_,rfl,Nat.le_refl _⟩
 | iw=>exact⟨_,_,_,rfl,Nat.le_refl _⟩
 | sl cR kx hc hn h1 h2=>exact⟨_,_,_,rfl,hc⟩
 | ax h hc hq=>exact⟨_,_,_,rfl,hc⟩
 | _=>simp[CH]at hk
theorem C7 {sT xT elem rt:TypeId}{ei:TypeInfo}{zv:Value}{n bytes:Nat}{x y t:T}{new:List (List T)}{vx vy:Value}{H':af}(E:oh P sT xT elem ei zv n bytes)
  (h:SR w0 g H w) (hx:VR g w x vx) (hy:VR g w y vy) (rQ:bK H n y=some new) (he:m3 H n bytes x new=some (t,H')) :
  b7 P w0 g H w (Builtin.append_ #[sT,xT] rt #[vx,vy]) t H':=by
 obtain⟨vs,s1,s2,s3,s4,s5,s6⟩:=zq (P:=P) h hy rQ
 have mV:=fT new s5
 cases ir:new with
 | nil =>
  subst ir
  simp only[m3]at he
  split at he
  case isFalse=>cases he
  rename_i hk
  simp only[Option.some.injEq,Prod.mk.injEq]at he
  obtain⟨rfl,rfl⟩:=he
  have iq:vs=[]:=by simpa using s6
  subst iq
  have:∃a l c,vx=.slice a l c∧l≤c:=C6 hx hk
  obtain⟨a,l,c,rfl,Mn⟩:=this
  exact b7.same h (kD E s1 (s2 w rfl) Mn) hx
 | cons c0 VX =>
  have hlen:0<new.length:=by rw[ir];simp
  rw[ir]at he
  simp only[m3]at he
  rw[←ir]at he
  have empty:∀(a:Option Addr),vx=.slice a 0 0→db (0+new.length) bytes=true→t=.ax H.length 0 new.length n→H'=H++[.cells new.flatten]→b7 P w0 g H w (Builtin.append_ #[sT,xT] rt #[vx,vy]) t H':=by
   rintro a rfl gQ rfl rfl
   have Qm:∀w':World,w'.heap=w.heap→(Builtin.firstCells n 0 (.slice a 0 0)).run P w'=.ok ([]:List Value).toArray w':=by
    intro w' _
    cases a with
    | none=>simp[Builtin.firstCells]
    | some a=>simpa[Builtin.firstCells]using run_loadCells_list (P:=P) w' a [] (by simp)
   obtain⟨eA,rest,jw,po,cw⟩:=gP (rt:=rt) (w:=w) E s1 s2 Qm (by omega) gQ
   have a6:(([]:List Value)++vs++rest).toArray.size=eA*n:=by
    simp only[List.size_toArray,List.nil_append]
    rw[List.length_append,s6,po,←Nat.add_mul];congr 1;omega
   have kF:∀(i:Nat) (t:T),new.flatten[i]?=some t→t.one=true∧∃v,(([]:List Value)++vs++rest).toArray[i]?=some v∧VR g w t v:=by
    intro i t hi
    obtain⟨v,h1,h2⟩:=s3.fP i t hi
    refine⟨s4 t (List.mem_of_getElem? hi),v,?_,h2⟩
    simp only[List.nil_append,List.getElem?_toArray]at h1 ⊢
    rw[List.getElem?_append_left (List.getElem?_eq_some_iff.1 h1).1];exact h1
   obtain⟨g',le,sr,fr,hφ⟩:=h.gH (c:=([]++vs++rest).toArray) (ty:=elem) (cs:=new.flatten) (pK w) rfl kF
   refine⟨_,_,g',cw,le,sr,?_,fr⟩
   rw[Nat.zero_add]at jw ⊢
   exact .ax (r:=w.heap.size) (o:=0) (off:=0) hφ jw (by rw[a6];simp)
  cases x with
  | sl k es =>
   cases k with
   | nil =>
    simp only at he
    split at he
    ·rename_i hc
     obtain⟨gQ,rfl⟩:=hc
     simp only[Option.some.injEq,Prod.mk.injEq]at he
     cases hx with
     | slnil=>exact empty none rfl (by simpa using gQ) he.1.symm he.2.symm
     | sl cR hk=>exact hk.elim
    ·cases he
   | full =>
    simp only at he
    split at he
    ·rename_i hc
     obtain⟨gQ,rfl⟩:=hc
     simp only[Option.some.injEq,Prod.mk.injEq]at he
     cases hx with
     | sl cR hk =>
      simp only[gz,List.length_nil]at hk
      subst hk
      exact empty _ rfl (by simpa using gQ) he.1.symm he.2.symm
    ·cases he
   | arg=>cases he
   | own _ _=>cases he
  | ax b off len n' =>
   simp only at he
   cases hb:H[b]? with
   | none=>simp[hb]at he
   | some z =>
    cases z with
    | cells cs =>
     simp only[hb]at he
     split at he
     ·rename_i hc
      obtain⟨rfl,rfl,uc,gQ⟩:=hc
      simp only[Option.some.injEq,Prod.mk.injEq]at he
      obtain⟨rfl,rfl⟩:=he
      cases hx with
      | @ax _ _ _ _ r o q cap hφ na hq =>
       obtain⟨h1,h2,h3⟩:=h.dQ b _ hb r o q hφ
       have kc:b<H.length:=(List.getElem?_eq_some_iff.1 hb).1
       by_cases kC:len+new.length≤cap
       ·have Qn:o+cs.length+new.flatten.length≤q:=by
         rw[mV,←uc,←hq,Nat.add_assoc,←Nat.add_mul]
         have:=Nat.mul_le_mul_right n' kC
         omega
        obtain⟨le,sr,fr⟩:=h.Ql hb hφ s3 s4 Qn
        have iq:vs.length=new.flatten.length:=by rw[s6,mV]
        have dG:=run_storeCells_cells (P:=P) r (o+0+len*n') vs 0 w (fun j hj=>by simpa using (h2 (o+len*n'+j) (by omega) (by omega)).2.2) (fun j hj=>by simpa using (h2 (o+len*n'+j) (by omega) (by omega)).2.1) (s3.iz s4)
        rw[Nat.add_zero]at dG
        have cw:=mc (rt:=rt) (cap:=cap) E s1 (s2 w rfl) kC dG
        rw[uc]at cw
        refine⟨_,_,_,cw,le,sr,?_,fr⟩
        exact .ax (off:=0) (r:=r) (o:=o) (q:=q) (by simp[Ctx.at]) kC (by rw[←hq])
       ·have hp:nZ H (len*n') (.ptr b 0)=some cs:=by simp[nZ,hb,uc]
        obtain⟨r',o',jz,e1,e2,e3,e4,e5⟩:=oc h (.ptr hφ) hp
        cases e1
        have Pu:∀w':World,w'.heap=w.heap→(Builtin.firstCells n' len (.slice (some ⟨r,o+0,none⟩) len cap)).run P w'=.ok jz.toArray w':=by
         intro w' A9
         have:=run_loadCells_list (P:=P) w' ⟨r,o+0,none⟩ jz (fun j v hj=>by rw[oj A9,dc];exact e3 j v hj)
         rw[e2]at this
         simpa[Builtin.firstCells]using this
        obtain⟨eA,rest,jw,po,cw⟩:=gP (rt:=rt) (w:=w) E s1 s2 Pu (by omega) gQ
        have a6:(jz++vs++rest).toArray.size=eA*n':=by
         simp only[List.size_toArray]
         rw[List.length_append,List.length_append,e2,s6,po,←Nat.add_mul,←Nat.add_mul];congr 1;omega
        have C8:bC g w (cs++new.flatten) (jz++vs):=bC.append e4 s3
        obtain⟨le,sr,fr⟩:=h.mut (c:=(jz++vs++rest).toArray) (ty:=elem) (H':=H.set b .dead++[.cells (cs++new.flatten)]) (b:=H.length) (cs:=cs++new.flatten) (pK w) rfl
         (by rw[List.getElem?_append_right (by simp)];simp) (h.HX (Nat.le_refl _))
         (fun b' x bG hx=>by
          have gw:(H.set b B.dead)[b']?=some x:=cT (by simpa using bG) hx
          rcases eo kc gw with⟨_,rfl⟩|⟨_,jh⟩
          ·exact .inr rfl
          ·exact .inl jh) (by simp)
         (fun b' x a _ d _=>iD (ft a (by rintro rfl;rw[hφ]at d;cases d)))
         (fun i t hi=>by
          obtain⟨v,k1,k2⟩:=C8.fP i t hi
          refine⟨?_,v,?_,k2⟩
          ·rcases List.mem_append.1 (List.mem_of_getElem? hi)with hm|hm
           ·exact e5 t hm
           ·exact s4 t hm
          ·simp only[List.getElem?_toArray]at k1 ⊢
           rw[List.getElem?_append_left (List.getElem?_eq_some_iff.1 k1).1];exact k1)
        refine⟨_,_,_,cw,le,sr,.ax (r:=w.heap.size) (o:=0) (off:=0) (q:=(jz++vs++rest).toArray.size) (by simp[Ctx.at]) jw (by rw[a6];simp),by simp,fun b' x a c d=>fr b' x a c d (by have:=(List.getElem?_eq_some_iff.1 a).1;omega)⟩
     ·cases he
    | map _=>simp[hb]at he
    | tok _=>simp[hb]at he
    | _=>simp[hb]at he
  | _=>simp at he
theorem sE:∀(vs:List Value) (k off:Nat) (cells:Array Value),off+k+vs.length≤cells.size →
  ((vs.zipIdx k).foldl (fun (cs:Array Value) (x:Value×Nat)=>cs.setIfInBounds (off+x.2) x.1) cells).toList=cells.toList.take (off+k)++vs++cells.toList.drop (off+k+vs.length)
 | [],k,off,cells,_=>by simp
 | v :: vs,k,off,cells,h=>by
  simp only[List.length_cons]at h
  rw[List.zipIdx_cons,List.foldl_cons,sE vs (k+1) off _ (by simp;omega)]
  simp only[Array.toList_setIfInBounds,List.length_cons]
  have au:off+k<cells.toList.length:=by simp;omega
  rw[show off+(k+1)=off+k+1 by omega,List.take_add_one]
  rw[show off+k+1+vs.length=off+k+(vs.length+1) by omega]
  rw[List.take_set_of_le (Nat.le_refl _),List.getElem?_set_self au,List.drop_set_of_lt (by omega)]
  simp
theorem oq {off size:Nat}{v:Value}{cells:Array Value}(hs:v.cells.size=size)(hle:off+size≤cells.size) :
  (v.cells.zipIdx.foldl (fun (cs:Array Value) (x:Value×Nat)=>cs.setIfInBounds (off+x.2) x.1) cells).toList=cells.toList.take off++v.cells.toList++cells.toList.drop (off+size):=by
 have:=sE v.cells.toList 0 off cells (by simp[hs];omega)
 rw[←Array.foldl_toList,Array.toList_zipIdx]
 simpa[hs]using this
def placesOf (P:Program):List Field→List (Nat×Nat)
 | []=>[]
 | f :: fs=>(f.offset,P.cellsOf f.type) :: placesOf P fs
theorem run_places {fs:List Field}(hi:∀f∈fs,∃i,P.info? f.type=some i):(fs.mapM fun f=>do pure (f.offset,←sizeOf f.type):Sem (List (Nat×Nat))).run P w=.ok (placesOf P fs) w:=by
 induction fs with
 | nil=>simp[placesOf]
 | cons f fs ih =>
  obtain⟨i,hf⟩:=hi f (by simp)
  have ih:=ih (fun f' h'=>hi f' (by simp[h']))
  have h0:(sizeOf f.type).run P w=.ok i.size w:=by simp[sizeOf,bn hf]
  rw[List.mapM_cons]
  simp only[Sem.run_bind,h0,Result.andThen_ok,Sem.run_pure,ih]
  simp[placesOf,Program.cellsOf,hf]
inductive PV (g:Ctx)(w:World)(R:ar):List (Nat×X)→List (Nat×Value)→Prop
 | nil:PV g w R [] []
 | cons {i:Nat} {x:X} {v:Value} {ps:List (Nat×X)} {pv:List (Nat×Value)} (h:VR g w (x.ev R) v) (hs:PV g w R ps pv):PV g w R ((i,x) :: ps) ((i,v) :: pv)
theorem Ii {R:ar}{place:Nat→Option (Nat×Nat)}{ps:List (Nat×X)}{pv:List (Nat×Value)}(hv:PV g w R ps pv):∀(l:List (Nat×List T)) (z cs:List T) (cells:Array Value),(∀p∈ps,(place p.1).isSome=true) →
  fm R (ps.map fun p=>(((place p.1).getD (0,0)).1,((place p.1).getD (0,0)).2,p.2))=some l→l8 z l=some cs→bC g w z cells.toList→cA z →
  ∃cS,Instr.fill place cells pv=some cS∧bC g w cs cS.toList∧cA cs∧cS.size=cells.size:=by
 induction hv with
 | nil =>
  intro l z cs cells hp hl hf hz ho
  simp[fm]at hl;subst hl
  simp[l8]at hf;subst hf
  exact⟨cells,rfl,hz,ho,rfl⟩
 | @cons i x v ps pv Qo _ ih =>
  intro l z cs cells hp hl hf hz ho
  have US:=hp (i,x) (by simp)
  cases xG:place i with
  | none=>simp[xG]at US
  | some os =>
   obtain⟨off,size⟩:=os
   simp only[List.map_cons,xG,Option.getD_some]at hl
   simp only[fm]at hl
   cases hc:(x.ev R).cells? with
   | none=>simp[hc]at hl
   | some c =>
    cases hr:fm R (ps.map fun p=>(((place p.1).getD (0,0)).1,((place p.1).getD (0,0)).2,p.2))with
    | none=>simp[hc,hr]at hl
    | some l' =>
     simp only[hc,hr]at hl
     split at hl
     ·rename_i lq
      simp at hl;subst hl
      simp only[l8]at hf
      split at hf
      ·rename_i hle
       obtain⟨Hb,Qp⟩:=jg Qo hc
       have a6:v.cells.size=size:=by have:=Hb.1;simp at this;omega
       have vN:z.length=cells.size:=by have:=hz.1;simpa using this
       have VZ:off+size≤cells.size:=by omega
       have bS:=oq a6 VZ
       have pJ:bC g w (z.take off++c++z.drop (off+c.length)) (v.cells.zipIdx.foldl (fun (cs:Array Value) (x:Value×Nat)=>cs.setIfInBounds (off+x.2) x.1) cells).toList:=by
        rw[bS,lq]
        exact bC.append (bC.append (hz.take off) Hb) (hz.drop (off+size))
       have mz:cA (z.take off++c++z.drop (off+c.length)):=by
        intro t ht
        rcases List.mem_append.1 ht with ht|ht
        ·rcases List.mem_append.1 ht with ht|ht
         ·exact ho t (List.mem_of_mem_take ht)
         ·exact Qp t ht
        ·exact ho t (List.mem_of_mem_drop ht)
       obtain⟨cS,k1,k2,k3,k4⟩:=ih l' _ cs _ (fun x hx=>hp x (by simp[hx])) hr hf pJ mz
       refine⟨cS,?_,k2,k3,?_⟩
       ·simp only[Instr.fill,xG]
        rw[if_neg]
        ·exact k1
        ·simp[a6];omega
       ·rw[k4]
        have:=congrArg List.length bS
        simp only[Array.length_toList,List.length_append,List.length_take,List.length_drop]at this
        omega
      ·cases hf
     ·cases hl
theorem Ba {ty:TypeId}{fs:Array Field}{i:TypeInfo}{zv:Value}{R:ar}{ps:List (Nat×X)}{pv:List (Nat×Value)}{z cs:List T}{l:List (Nat×List T)}(hu:P.underlying ty=some (.struct fs))(hi:P.info? ty=some i)(hz:i.zero=some zv)(C9:eX zv.cells.toList=some z)
  (hfs:∀f∈fs.toList,∃i,P.info? f.type=some i) (hp:∀p∈ps,p.1<fs.size) (h:SR w0 g H w) (hv:PV g w R ps pv)
  (hl:fm R (ps.map fun p=>((((placesOf P fs.toList)[p.1]?).getD (0,0)).1,(((placesOf P fs.toList)[p.1]?).getD (0,0)).2,p.2))=some l) (hf:l8 z l=some cs) :
  b7 P w0 g H w (Instr.build ty pv.toArray) (.agg cs) H:=by
 obtain⟨Bb,Cp⟩:=dA (g:=g) (w:=w) _ _ C9
 have hlen:∀l:List Field,(placesOf P l).length=l.length:=by
  intro l;induction l with
  | nil=>rfl
  | cons f l ih=>simp[placesOf,ih]
 have vj:∀p∈ps,((placesOf P fs.toList)[p.1]?).isSome=true:=fun p rS=>by
  have:=hp p rS
  rw[List.getElem?_eq_getElem (by rw[hlen];simpa using this)];rfl
 obtain⟨cS,k1,k2,k3,_⟩:=Ii (place:=fun (i:Nat)=>(placesOf P fs.toList)[i]?) hv l z cs zv.cells vj hl hf Bb Cp
 refine b7.same h (v:=.agg cS) ?_ (by have:=k2.agg k3;simpa using this)
 have xG:(fs.mapM fun f=>do pure (f.offset,←sizeOf f.type):Sem (Array (Nat×Nat))).run P w=.ok (placesOf P fs.toList).toArray w:=by
  rw[Array.mapM_eq_mapM_toList]
  simp only[Sem.run_map,run_places hfs,Result.andThen_ok]
 simp only[Instr.build,zeroValue,Sem.run_bind,bn hi,hz,Result.andThen_ok,Sem.run_pure,run_underlying hu,xG]
 have e:(fun (x:Nat)=>(placesOf P fs.toList).toArray[x]?)=fun (i:Nat)=>(placesOf P fs.toList)[i]?:=by funext x;simp
 simp[e,k1]
end
section
variable {P:Program} {w0 w:World} {g:Ctx} {H:af}
theorem kG {n:Nat}:∀(es:List (List T)) (i:Nat) (c:List T),(∀c∈es,c.length=n)→i<es.length→(es.set i c).flatten=es.flatten.take (i*n)++c++es.flatten.drop (i*n+n)
 | [],i,c,_,h=>by simp at h
 | d :: es,0,c,hn,_=>by
  have hd:=hn d (by simp)
  simp[←hd]
 | d :: es,i+1,c,hn,h=>by
  have hd:=hn d (by simp)
  have ih:=kG es i c (fun c hc=>hn c (by simp[hc])) (by simpa using h)
  simp only[List.set_cons_succ,List.flatten_cons,ih]
  have e1:(d++es.flatten).take ((i+1)*n)=d++es.flatten.take (i*n):=by
   rw[List.take_append,hd,Nat.succ_mul]
   rw[List.take_of_length_le (by omega)]
   congr 2;omega
  have e2:(d++es.flatten).drop ((i+1)*n+n)=es.flatten.drop (i*n+n):=by
   rw[List.drop_append,hd,Nat.succ_mul]
   rw[List.drop_of_length_le (by omega)]
   simp only[List.nil_append]
   congr 1;omega
  rw[e1,e2];simp
theorem Da {R:ar}{n:Nat}{ps:List (Nat×X)}{pv:List (Nat×Value)}(hv:PV g w R ps pv):∀(es fs:List (List T)) (cells:Array Value),jd n es R ps=some fs→(∀c∈es,c.length=n)→bC g w es.flatten cells.toList→cA es.flatten →
  ∃cS,Instr.fill (fun i=>some (i*n,n)) cells pv=some cS∧bC g w fs.flatten cS.toList∧cA fs.flatten∧(∀c∈fs,c.length=n)∧fs.length=es.length:=by
 induction hv with
 | nil =>
  intro es fs cells he hn hz ho
  simp[jd]at he;subst he
  exact⟨cells,rfl,hz,ho,hn,rfl⟩
 | @cons i x v ps pv Qo _ ih =>
  intro es fs cells he hn hz ho
  simp only[jd]at he
  cases hc:(x.ev R).cells? with
  | none=>simp[hc]at he
  | some c =>
   simp only[hc]at he
   split at he
   ·rename_i cE
    obtain⟨lq,hi⟩:=cE
    obtain⟨Hb,Qp⟩:=jg Qo hc
    have a6:v.cells.size=n:=by have:=Hb.1;simp at this;omega
    have rF:=fT es hn
    have vN:es.flatten.length=cells.size:=by have:=hz.1;simpa using this
    have hle:i*n+n≤cells.size:=by
     rw[←vN,rF,←Nat.succ_mul];exact Nat.mul_le_mul_right _ hi
    have bS:=oq a6 hle
    have kH:=kG es i (c.map T.erase) hn hi
    have pJ:bC g w (es.set i (c.map T.erase)).flatten (v.cells.zipIdx.foldl (fun (cs:Array Value) (x:Value×Nat)=>cs.setIfInBounds (i*n+x.2) x.1) cells).toList:=by
     rw[bS,kH]
     exact bC.append (bC.append (hz.take _) Hb.erase) (hz.drop _)
    have mz:cA (es.set i (c.map T.erase)).flatten:=by
     rw[kH]
     intro t ht
     rcases List.mem_append.1 ht with ht|ht
     ·rcases List.mem_append.1 ht with ht|ht
      ·exact ho t (List.mem_of_mem_take ht)
      ·exact qp Qp t ht
     ·exact ho t (List.mem_of_mem_drop ht)
    obtain⟨cS,k1,k2,k3,k4,k5⟩:=ih _ fs _ he (fun c' iA=>by
     rcases List.mem_or_eq_of_mem_set iA with h|h
     ·exact hn c' h
     ·rw[h,List.length_map];exact lq) pJ mz
    refine⟨cS,?_,k2,k3,k4,by simpa using k5⟩
    simp only[Instr.fill]
    rw[if_neg]
    ·exact k1
    ·simp[a6];omega
   ·cases he
theorem kJ {n:Nat}{z:List T}{zc:Array Value}(hz:bC g w z zc.toList)(hn:z.length=n)(m:Nat):bC g w (List.replicate m z).flatten ((Array.range (m*n)).map (fun i=>zc[i%zc.size]!)).toList:=by
 have Ie:zc.size=n:=by have:=hz.1;simp at this;omega
 refine⟨by simp[hn],fun i t v a b=>?_⟩
 have hi:i<m*n:=by
  have:=(List.getElem?_eq_some_iff.1 b).1
  simpa using this
 have ji:0<n:=by
  rcases Nat.eq_zero_or_pos n with e|e
  ·subst e;simp at hi
  ·exact e
 have hdm:i/n<m:=Nat.div_lt_of_lt_mul (by rw[Nat.mul_comm];exact hi)
 have Qq:i%n<z.length:=by rw[hn];exact Nat.mod_lt _ ji
 have e1:(List.replicate m z)[i/n]?=some z:=by simp[hdm]
 have:=kz (n:=n) (List.replicate m z) (fun c hc=>by rw[List.eq_of_mem_replicate hc];exact hn) (i/n) (i%n) z _ e1 (List.getElem?_eq_getElem Qq)
 rw[show i/n*n+i%n=i by rw[Nat.mul_comm,Nat.div_add_mod]]at this
 rw[this]at a
 simp at a;subst a
 have au:i%zc.size<zc.toList.length:=by rw[Ie];simp[Ie];exact Nat.mod_lt _ ji
 have e2:zc.toList[i%zc.size]?=some v:=by
  simp[hi]at b
  rw[←b,List.getElem?_eq_getElem au]
  have:i%zc.size<zc.size:=by simpa using au
  simp[this]
 rw[Ie]at e2
 exact hz.2 (i%n) _ v (List.getElem?_eq_getElem Qq) e2
theorem jj {z:List T}(ho:cA z)(m:Nat):cA (List.replicate m z).flatten:=by
 intro t ht
 obtain⟨c,h1,h2⟩:=List.mem_flatten.1 ht
 rw[List.eq_of_mem_replicate h1]at h2
 exact ho t h2
theorem Db (w:World):Tr w w gu iC:=Tr.refl w
theorem Ij {ty elem:TypeId}{ei:TypeInfo}{zv:Value}{R:ar}{ps:List (Nat×X)}{pv:List (Nat×Value)}{z:List T}{len:Nat}{fs:List (List T)}(hu:P.underlying ty=some (.slice elem))(hi:P.info? elem=some ei)(hz:ei.zero=some zv)(C9:eX zv.cells.toList=some z)
  (xX:z.length=ei.size) (a6:len*ei.size≤2^24) (h:SR w0 g H w) (hv:PV g w R ps pv) (he:jd z.length (List.replicate len z) R ps=some fs) :
  b7 P w0 g H w (Instr.buildSlice ty len pv.toArray) (.sl .full fs) H:=by
 obtain⟨Bb,Cp⟩:=dA (g:=g) (w:=w) _ _ C9
 have V0:=kJ Bb xX len
 have Qm:=jj Cp len
 rw[xX]at he
 obtain⟨cS,k1,k2,k3,k4,k5⟩:=Da hv _ fs ((Array.range (len*ei.size)).map (fun i=>zv.cells[i%zv.cells.size]!)) he (fun c hc=>by rw[List.eq_of_mem_replicate hc];exact xX) V0 Qm
 have hlen:fs.length=len:=by rw[k5];simp
 obtain⟨le,sr,fr,lU⟩:=h.lU (c:=cS) (ty:=elem) (Db w) rfl
 refine⟨.slice (some ⟨w.heap.size,0,none⟩) len len,_,_,?_,le,sr,?_,fr⟩
 ·have ug:¬len*ei.size>2^24:=by omega
  by_cases h0:len*ei.size=0
  ·have e0:((Array.range (len*ei.size)).map (fun i=>zv.cells[i%zv.cells.size]!))=((Array.range (len*ei.size)).map (fun i=>(#[]:Array Value)[i%(#[]:Array Value).size]!)):=by
    rw[h0];simp
   rw[e0]at k1
   simp only[Instr.buildSlice,Sem.run_bind,run_underlying hu,Result.andThen_ok,sizeOf,bn hi,Sem.run_pure,ug,if_false,h0,if_true]
   rw[h0]at k1
   simp at k1
   simp[k1,newRow]
  ·simp only[Instr.buildSlice,Sem.run_bind,run_underlying hu,Result.andThen_ok,sizeOf,bn hi,Sem.run_pure,ug,if_false,h0,zeroValue,hz]
   simp[k1,newRow]
 ·have:=VR.uf (k:=.full) (r:=w.heap.size) (o:=0) (cap:=fs.length) k4 (k2.mono le) k3 (Nat.le_refl _) rfl (fun j v hj=>by rw[Nat.zero_add];exact lU j v (by simpa using hj))
  rw[hlen]at this;exact this
theorem wrap_i64 {n:Int}(h0:0≤n)(h1:n≤9223372036854775807):IntKind.i64.wrap n=n:=IntWalk.i64_in n (by omega)
theorem run_makeSlice {ty elem:TypeId}{ei:TypeInfo}{zv:Value}{k1 k2:IntKind}{l c:Int}(hu:P.underlying ty=some (.slice elem))(hi:P.info? elem=some ei)(hz:ei.zero=some zv)(h0:0≤l)(Mn:l≤c)(hc:c*ei.bytes≤281474976710656)(iA:c≤9223372036854775807) :
  (Instr.makeSlice ty (.int k1 l) (.int k2 c)).run P w=.ok (.slice (some ⟨w.heap.size,0,none⟩) l.toNat c.toNat)
   (w.alloc (.cells ((Array.range (c.toNat*ei.size)).map (fun i=>(if c.toNat*ei.size=0 then(#[]:Array Value)else zv.cells)[i%(if c.toNat*ei.size=0 then(#[]:Array Value)else zv.cells).size]!)) elem)):=by
 have e1:=wrap_i64 h0 (by omega:l≤9223372036854775807)
 have e2:=wrap_i64 (by omega:0≤c) iA
 have t1:((decide (c<0)||decide ((ei.bytes:Int)*c>2^48))||decide (l<0)||decide (l>c))=false:=by
  have:(ei.bytes:Int)*c=c*ei.bytes:=Int.mul_comm _ _
  simp[this];omega
 simp only[Instr.makeSlice,Sem.run_bind,run_underlying hu,Result.andThen_ok,asInt,asIntOf,Sem.run_pure,bn hi,e1,e2,t1]
 by_cases hn:c.toNat*ei.size=0
 ·simp[sizeOf,bn hi,hn,newRow]
 ·simp[sizeOf,bn hi,hn,zeroValue,hz,newRow]
theorem Ik {ty elem:TypeId}{ei:TypeInfo}{zv:Value}{mu:Bool}{z:List T}{x y t:T}{l c:Nat}{vx vy:Value}{H':af}(hu:P.underlying ty=some (.slice elem))(hi:P.info? elem=some ei)(hz:ei.zero=some zv)(C9:eX zv.cells.toList=some z)(xX:z.length=ei.size)(ji:ei.size≠0)
  (h:SR w0 g H w) (hx:VR g w x vx) (hy:VR g w y vy) (hl:cq x=some l) (hc:cq y=some c) (Mn:l≤c) (hb:c*ei.bytes≤281474976710656) (Py:c≤9223372036854775807)
  (he:(if mu then(T.ax H.length 0 l z.length,H++[.cells (List.replicate l z).flatten])else if l=0 then(.sl .arg [],H)else(.sl (.own H.length l) (List.replicate l z),H++[.tok l]))=(t,H')) :
  b7 P w0 g H w (Instr.makeSlice ty vx vy) t H':=by
 obtain⟨Bb,Cp⟩:=dA (g:=g) (w:=w) _ _ C9
 obtain⟨k1,n1,rfl,a1,b1⟩:=dZ hx hl
 obtain⟨k2,n2,rfl,a2,b2⟩:=dZ hy hc
 have cw:=run_makeSlice (P:=P) (w:=w) (k1:=k1) (k2:=k2) hu hi hz a1 (by omega:n1≤n2) (by
  have:(n2.toNat:Int)=n2:=Int.toNat_of_nonneg a2
  rw[←this,b2];omega) (by omega)
 rw[b1,b2]at cw
 have rT:=kJ Bb xX c
 have fA:=jj Cp c
 have xY:(List.replicate c z).flatten=(List.replicate l z).flatten++(List.replicate (c-l) z).flatten:=by
  rw[←List.flatten_append,List.replicate_append_replicate];congr 2;omega
 have aaU:(List.replicate l z).flatten.length=l*ei.size:=by rw[fT (n:=ei.size) _ (fun c hc=>by rw[List.eq_of_mem_replicate hc];exact xX),List.length_replicate]
 have nn:(Array.range (c*ei.size)).map (fun i=>(if c*ei.size=0 then(#[]:Array Value)else zv.cells)[i%(if c*ei.size=0 then(#[]:Array Value)else zv.cells).size]!)=(Array.range (c*ei.size)).map (fun i=>zv.cells[i%zv.cells.size]!):=by
  by_cases h0:c*ei.size=0
  ·rw[h0];simp
  ·simp only[h0,if_false]
 rw[nn]at cw
 generalize hA:(Array.range (c*ei.size)).map (fun i=>zv.cells[i%zv.cells.size]!)=A at cw rT
 have a6:A.size=c*ei.size:=by rw[←hA];simp
 have kF:∀(i:Nat) (t:T),(List.replicate l z).flatten[i]?=some t→t.one=true∧∃v,A[i]?=some v∧VR g w t v:=by
  intro i t ka
  have e:(List.replicate c z).flatten[i]?=some t:=by
   rw[xY,List.getElem?_append_left (List.getElem?_eq_some_iff.1 ka).1];exact ka
  obtain⟨v,h1,h2⟩:=rT.fP i t e
  exact⟨fA t (List.mem_of_getElem? e),v,by simpa using h1,h2⟩
 cases mu with
 | true =>
  simp only[if_true,Prod.mk.injEq]at he
  obtain⟨rfl,rfl⟩:=he
  obtain⟨g',le,sr,fr,hφ⟩:=h.gH (c:=A) (ty:=elem) (Db w) rfl kF
  exact⟨_,_,g',cw,le,sr,.ax (r:=w.heap.size) (o:=0) (off:=0) hφ Mn (by rw[a6,xX];simp),fr⟩
 | false =>
  simp only[Bool.false_eq_true,if_false]at he
  split at he
  ·rename_i xF
   subst xF
   simp only[Prod.mk.injEq]at he
   obtain⟨rfl,rfl⟩:=he
   obtain⟨le,sr,fr,lU⟩:=h.lU (c:=A) (ty:=elem) (Db w) rfl
   exact⟨_,_,_,cw,le,sr,.sl (n:=0) (fun _ _=>.nilIface) trivial (by simp) (by simp) (by simp) (by simp),fr⟩
  ·rename_i xF
   simp only[Prod.mk.injEq]at he
   obtain⟨rfl,rfl⟩:=he
   obtain⟨le,sr,fr,lU,hp⟩:=h.C5 (c:=A) (ty:=elem) (t:=H.length) (e:=l) (k:=l*ei.size) (H':=H++[.tok l]) (Db w) rfl (fq _ _) (by rw[a6];exact Nat.mul_le_mul_right _ Mn) (fun Ig _=>h.VV (Nat.le_refl _))
    (fun b' x e hx=>cT e hx) (by simp) (fun b' x hx _=>iD hx)
   refine⟨_,_,_,cw,le,sr,?_,fr⟩
   have hv:bC g w (List.replicate l z).flatten (A.toList.take (l*ei.size)):=by
    have:=rT.take (l*ei.size)
    rwa[xY,List.take_append_of_le_length (by omega),List.take_of_length_le (by omega)]at this
   have:=VR.uf (k:=.own H.length l) (r:=w.heap.size) (o:=0) (cap:=c) (n:=ei.size) (es:=List.replicate l z) (fun c hc=>by rw[List.eq_of_mem_replicate hc];exact xX) (hv.mono le) (jj Cp l) (by simpa using Mn)
    ⟨by rw[hp,a6];simp,by simp;omega⟩ (fun j v hj=>by
     rw[Nat.zero_add]
     rw[List.getElem?_take]at hj
     split at hj
     ·rename_i au;exact lU j v au (by simpa using hj)
     ·cases hj)
   simpa using this
theorem Il {f:Nat}{ku:List T}{vs:List Value}(h:SR w0 g H w)(hv:bC g w ku vs):b7 P w0 g H w (Instr.makeFunc (.func f) #[] vs.toArray) (.fn f ku) H :=
 b7.same h rfl (.fn (by simp[hv.1]) (fun i t v a b=>hv.2 i t v a (by simpa using b)))
end
section
variable {P:Program} {w0 w:World} {g:Ctx} {H:af}
theorem VR.zg {t:T}{v:Value}(h:VR g w t v):VR g w (zg t) v:=by
 cases h with
 | dS h hc hq=>exact .ax h hc hq
 | ax h hc hq=>exact .ax h hc hq
 | int k n=>exact .int k n
 | bool b=>exact .bool b
 | str s=>exact .str s
 | b0=>exact .b0
 | ptr h=>exact .ptr h
 | cP cR h1 h2=>exact .cP cR h1 h2
 | gk=>exact .gk
 | map h=>exact .map h
 | slnil=>exact .slnil
 | iw a=>exact .iw a
 | sl cR hk hc hn h1 h2=>exact .sl cR hk hc hn h1 h2
 | mq=>exact .mq
 | fn hl h=>exact .fn hl h
 | mR h=>exact .mR h
 | gl=>exact .gl
 | agg hl h1 h2=>exact .agg hl h1 h2
 | bF hl h2=>exact .bF hl h2
theorem Im {ty rt:TypeId}{e:TypeId}{b off len n c:Nat}{vx:Value}(hu:P.underlying ty=some (.slice e))(h:SR w0 g H w)(hx:VR g w (.dS b off len n c) vx) :
  b7 P w0 g H w (Builtin.cap_ #[ty] rt #[vx]) (.int .i64 (c:Nat)) H:=by
 cases hx with
 | dS hφ hc hq=>exact b7.same h (v:=.int .i64 c) (by simp[Builtin.cap_,run_underlying hu,goInt]) (.int _ _)
theorem qq (cs:List T)(off n:Nat):∀k,off+k*n≤cs.length→((List.range k).map fun i=>(cs.drop (off+i*n)).take n).flatten=(cs.drop off).take (k*n)
 | 0,_=>by simp
 | k+1,h=>by
  have h':off+k*n≤cs.length:=by rw[Nat.succ_mul]at h;omega
  rw[List.range_succ,List.map_append,List.flatten_append,qq cs off n k h',Nat.succ_mul,List.take_add]
  simp[List.drop_drop]
theorem sF {n k:Nat}{y:T}{vy:Value}{new:List (List T)}(h:SR w0 g H w)(hy:VR g w y vy)(he:gN H n k y=some new) :
  ∃r o ly cap vs,vy=.slice (some ⟨r,o,none⟩) ly cap∧CI y=some ly∧(∀(j:Nat) (v:Value),vs[j]?=some v→w.cell? ⟨r,o+j,none⟩=some v)∧bC g w new.flatten vs∧vs.length=k*n∧cA new.flatten∧new.flatten.length=k*n:=by
 have key:∀(b off:Nat) (r o q:Nat),g.φ b=some (r,o,q)→(match H[b]? with|some (.cells cs)=>if off+k*n≤cs.length then some ((List.range k).map fun i=>(cs.drop (off+i*n)).take n)else none|_=>none)=some new →
   ∃vs,(∀(j:Nat) (v:Value),vs[j]?=some v→w.cell? ⟨r,o+off+j,none⟩=some v)∧bC g w new.flatten vs∧vs.length=k*n∧cA new.flatten∧new.flatten.length=k*n:=by
  intro b off r o q hφ he
  cases hb:H[b]? with
  | none=>simp[hb]at he
  | some z =>
   cases z<;>simp only[hb]at he<;>(try (cases he;done))
   rename_i cs
   split at he
   ·rename_i hle
    simp only[Option.some.injEq]at he
    have rF:=qq cs off n k hle
    rw[he]at rF
    have hp:nZ H (k*n) (.ptr b off)=some new.flatten:=by simp[nZ,hb,hle,rF]
    obtain⟨r',o',vs,e1,e2,e3,e4,e5⟩:=oc h (.ptr hφ) hp
    cases e1
    exact⟨vs,e3,e4,e2,e5,by rw[rF,List.length_take,List.length_drop];omega⟩
   ·cases he
 cases hy<;>simp only[gN]at he<;>(try (cases he;done))
 ·rename_i b off len n' r o q cap hφ hc hq
  obtain⟨vs,a1,a2,a3,a4,a5⟩:=key b off r o q hφ (by
   cases hb:H[b]? with
   | none=>simp[hb]at he
   | some z =>
    cases z<;>simp only[hb]at he ⊢<;>(try (cases he;done))
    split at he
    ·rename_i uh;rw[if_pos uh.2];exact he
    ·cases he)
  exact⟨r,o+off,len,cap,vs,rfl,rfl,a1,a2,a3,a4,a5⟩
 ·rename_i b off len n' r o q cap hφ hc hq
  obtain⟨vs,a1,a2,a3,a4,a5⟩:=key b off r o q hφ (by
   cases hb:H[b]? with
   | none=>simp[hb]at he
   | some z =>
    cases z<;>simp only[hb]at he ⊢<;>(try (cases he;done))
    split at he
    ·rename_i uh;rw[if_pos uh.2];exact he
    ·cases he)
  exact⟨r,o+off,len,cap,vs,rfl,rfl,a1,a2,a3,a4,a5⟩
theorem SR.Mo {b off r o q:Nat}{cs ts:List T}{vs:List Value}(h:SR w0 g H w)(hb:H[b]?=some (.cells cs))(hφ:g.φ b=some (r,o,q))(A2:off≤cs.length)(hle:o+off+ts.length≤q)(hv:bC g w ts vs)(ho:cA ts) :
  Le g w g (w.setCells r (o+off) vs)∧SR w0 g (H.set b (.cells (cs.take off++ts++cs.drop (off+ts.length)))) (w.setCells r (o+off) vs):=by
 have kc:b<H.length:=(List.getElem?_eq_some_iff.1 hb).1
 obtain⟨h1,h2,h3⟩:=h.dQ b _ hb r o q hφ
 have hl:=hv.1
 have hs:∀j,o+off≤j→j<o+off+vs.length→(w.cell? ⟨r,j,none⟩).isSome=true:=fun j a c=>(h2 j (by omega) (by omega)).2.2
 have tr:=Tr.setCells w r (o+off) vs hs
 have hS:∀r' j,vK r (o+off) vs.length r' j→g.κ r' j=.mut b:=by
  rintro r' j⟨rfl,a,c⟩;exact(h2 j (by omega) (by omega)).1
 have le:Le g w g (w.setCells r (o+off) vs):=Le.gO tr (fun _ _ h=>h) (fun _ _ h=>h) (fun _ _ _ h=>h) (fun r' j eI e=>by rw[hS r' j eI]at e;cases e)
 refine⟨le,h.step (fun b'=>b'=b) tr le (fun r' j eI=>.inr (.inl ⟨b,hS r' j eI,rfl⟩)) (fun _ hm=>hm.elim) (fun r' j hr=>h.fresh r' j (by rwa[dB]at hr)) (fun b' x hx=>by rw[List.length_set];exact h.rP b' x hx)
  (fun t e x hx=>by rw[List.length_set];exact h.iQ t e x hx) (fun _ _ _=>rfl) (fun _ _ _ _=>⟨id,id⟩) (fun _ _ _ _=>rfl) (fun b' x hx=>?_)⟩
 rcases eo kc hx with⟨rfl,rfl⟩|⟨bG,jh⟩
 ·right
  intro r' o' q' kj
  rw[hφ]at kj;cases kj
  have hlen:(cs.take off++ts++cs.drop (off+ts.length)).length=max cs.length (off+ts.length):=by simp;omega
  refine⟨by rw[hlen];omega,fun j a c=>⟨(h2 j a c).1,by rw[World.frozen?_setCells];exact(h2 j a c).2.1,tr.dF r j ?_ (h2 j a c).2.2⟩,fun i t hi=>?_⟩
  ·obtain⟨x,hx⟩:=Option.isSome_iff_exists.1 (h2 j a c).2.2;exact jA hx
  ·have ka:i<max cs.length (off+ts.length):=by rw[←hlen];exact(List.getElem?_eq_some_iff.1 hi).1
   by_cases iE:off≤i∧i<off+ts.length
   ·have ht:ts[i-off]?=some t:=by
     rw[List.append_assoc,List.getElem?_append_right (by simp;omega),List.getElem?_append_left (by simp;omega)]at hi
     rw[←hi];congr 1;simp;omega
    have au:i-off<vs.length:=by omega
    refine⟨ho t (List.mem_of_getElem? ht),vs[i-off],?_,(hv.2 _ t _ ht (List.getElem?_eq_getElem au)).mono le⟩
    have:=cI r vs (o+off) w hs (i-off) _ (List.getElem?_eq_getElem au)
    rwa[show o+off+(i-off)=o+i by omega]at this
   ·have ht:cs[i]?=some t:=by
     by_cases au:i<off
     ·rw[List.append_assoc,List.getElem?_append_left (by simp;omega),List.getElem?_take,if_pos au]at hi;exact hi
     ·rw[List.getElem?_append_right (by simp;omega),List.getElem?_drop]at hi
      rw[←hi];congr 1;simp;omega
    obtain⟨a,v,Mh,Mi⟩:=h3 i t ht
    refine⟨a,v,?_,Mi.mono le⟩
    rw[cF r vs (o+off) w r (o+i) (by omega)];exact Mh
 ·exact .inl ⟨bG,jh⟩
theorem Bc (w:World)(dT sT ty elem:TypeId){ei:TypeInfo}(b o Mp V1:Nat)(a:Addr)(Mq V2:Nat)(cs:List Value)
  (hu:P.underlying dT=some (.slice elem)) (hi:P.info? elem=some ei) (hn:cs.length=Nat.min Mq Mp*ei.size)
  (rQ:∀(j:Nat) v,cs[j]?=some v→w.cell? (a.add j)=some v) (hc:∀j,j<cs.length→(w.cell? ⟨b,o+j,none⟩).isSome=true) (hf:∀j,j<cs.length→w.frozen? ⟨b,o+j,none⟩=false) (h1:∀v∈cs,v.oneCell'=true) :
  (Builtin.copy_ #[dT,sT] ty #[.slice (some ⟨b,o,none⟩) Mp V1,.slice (some a) Mq V2]).run P w=.ok (goInt (Nat.min Mq Mp:Nat)) (w.setCells b o cs):=by
 have hl:=run_loadCells_list (P:=P) w a cs rQ
 have dG:=run_storeCells_cells (P:=P) b o cs 0 w (by simpa using hc) (by simpa using hf) h1
 rw[hn]at hl
 have hq:(typeInfo elem).run P w=.ok ei w:=bn hi
 simp[Builtin.copy_,run_underlying hu,Builtin.lenOf,Builtin.firstCells,sizeOf,hq,hl,dG]
theorem Ip {dT sT rt elem:TypeId}{ei:TypeInfo}{x y t:T}{vx vy:Value}{H':af}(hu:P.underlying dT=some (.slice elem))(hi:P.info? elem=some ei)
  (h:SR w0 g H w) (hx:VR g w x vx) (hy:VR g w y vy) (he:AP H ei.size x y=some (t,H')):b7 P w0 g H w (Builtin.copy_ #[dT,sT] rt #[vx,vy]) t H':=by
 have key:∀b off len n' r o q cap,g.φ b=some (r,o,q)→len≤cap→o+off+cap*n'=q→vx=.slice (some ⟨r,o+off,none⟩) len cap →
   (∀ly,CI y=some ly→∀cs new,H[b]?=some (.cells cs)→gN H ei.size (min ly len) y=some new→n'=ei.size∧ei.size≠0∧off≤cs.length →
    t=.int .i64 (min ly len:Nat)→H'=H.set b (.cells (cs.take off++new.flatten++cs.drop (off+(min ly len)*ei.size)))→b7 P w0 g H w (Builtin.copy_ #[dT,sT] rt #[vx,vy]) t H'):=by
  rintro b off len n' r o q cap hφ hc hq rfl ly Iq cs new hb hK⟨rfl,ji,A2⟩ rfl rfl
  obtain⟨r2,o2,ly',ua,vs,rfl,Qr,a1,a2,a3,a4,a5⟩:=sF h hy hK
  rw[Iq]at Qr;cases Qr
  have kc:b<H.length:=(List.getElem?_eq_some_iff.1 hb).1
  obtain⟨h1,h2,h3⟩:=h.dQ b _ hb r o q hφ
  have hmul:min ly len*ei.size≤cap*ei.size:=Nat.mul_le_mul_right _ (by omega)
  have cw:=Bc (P:=P) w dT sT rt elem r (o+off) len cap ⟨r2,o2,none⟩ ly ua vs hu hi (by rw[a3]) (fun j v hj=>by rw[dc];exact a1 j v hj) (fun j hj=>(h2 _ (by omega) (by omega)).2.2) (fun j hj=>(h2 _ (by omega) (by omega)).2.1) (a2.iz a4)
  obtain⟨le,sr⟩:=h.Mo hb hφ A2 (by rw[a5];omega) a2 a4
  rw[a5]at sr
  refine⟨_,_,g,cw,le,sr,by simpa[goInt]using .int _ _,by simp,fun b' y' a _ d=>⟨ft a ?_,d⟩⟩
  rintro rfl;rw[hφ]at d;cases d
 unfold AP at he
 cases hx<;>simp only[]at he<;>(try (cases he;done))
 all_goals
  rename_i b off len n' r o q cap hφ hc hq
  cases Iq:CI y with
  | none=>simp[Iq]at he
  | some ly =>
   simp only[Iq]at he
   cases hb:H[b]? with
   | none=>simp[hb]at he
   | some z =>
    cases hK:gN H ei.size (min ly len) y with
    | none=>cases z<;>simp[hb,hK]at he
    | some new =>
     cases z<;>simp only[hb,hK]at he<;>(try (cases he;done))
     split at he
     ·rename_i uh
      simp only[Option.some.injEq,Prod.mk.injEq]at he
      exact key b off len n' r o q cap hφ hc hq rfl ly Iq _ new hb hK uh he.1.symm he.2.symm
     ·cases he
theorem Dc {R:ar}{n:Nat}{ps:List (Nat×X)}{pv:List (Nat×Value)}(hv:PV g w R ps pv):∀(es fs:List (List T)) (cells:Array Value),je n es R ps=some fs→(∀c∈es,c.length=n)→bC g w es.flatten cells.toList→cA es.flatten →
  ∃cS,Instr.fill (fun i=>some (i*n,n)) cells pv=some cS∧bC g w fs.flatten cS.toList∧cA fs.flatten∧(∀c∈fs,c.length=n)∧fs.length=es.length:=by
 induction hv with
 | nil =>
  intro es fs cells he hn hz ho
  simp[je]at he;subst he
  exact⟨cells,rfl,hz,ho,hn,rfl⟩
 | @cons i x v ps pv Qo _ ih =>
  intro es fs cells he hn hz ho
  simp only[je]at he
  cases hc:(x.ev R).cells? with
  | none=>simp[hc]at he
  | some c =>
   simp only[hc]at he
   split at he
   ·rename_i cE
    obtain⟨lq,hi⟩:=cE
    obtain⟨Hb,Qp⟩:=jg Qo hc
    have a6:v.cells.size=n:=by have:=Hb.1;simp at this;omega
    have rF:=fT es hn
    have vN:es.flatten.length=cells.size:=by have:=hz.1;simpa using this
    have hle:i*n+n≤cells.size:=by
     rw[←vN,rF,←Nat.succ_mul];exact Nat.mul_le_mul_right _ hi
    have bS:=oq a6 hle
    have kH:=kG es i c hn hi
    have pJ:bC g w (es.set i c).flatten (v.cells.zipIdx.foldl (fun (cs:Array Value) (x:Value×Nat)=>cs.setIfInBounds (i*n+x.2) x.1) cells).toList:=by
     rw[bS,kH]
     exact bC.append (bC.append (hz.take _) Hb) (hz.drop _)
    have mz:cA (es.set i c).flatten:=by
     rw[kH]
     intro t ht
     rcases List.mem_append.1 ht with ht|ht
     ·rcases List.mem_append.1 ht with ht|ht
      ·exact ho t (List.mem_of_mem_take ht)
      ·exact Qp t ht
     ·exact ho t (List.mem_of_mem_drop ht)
    obtain⟨cS,k1,k2,k3,k4,k5⟩:=ih _ fs _ he (fun c' iA=>by
     rcases List.mem_or_eq_of_mem_set iA with h|h
     ·exact hn c' h
     ·rw[h];exact lq) pJ mz
    refine⟨cS,?_,k2,k3,k4,by simpa using k5⟩
    simp only[Instr.fill]
    rw[if_neg]
    ·exact k1
    ·simp[a6];omega
   ·cases he
theorem Is {ty elem:TypeId}{ei:TypeInfo}{zv:Value}{R:ar}{ps:List (Nat×X)}{pv:List (Nat×Value)}{z:List T}{len:Nat}{fs:List (List T)}(hu:P.underlying ty=some (.slice elem))(hi:P.info? elem=some ei)(hz:ei.zero=some zv)(C9:eX zv.cells.toList=some z)
  (xX:z.length=ei.size) (a6:len*ei.size≤2^24) (h:SR w0 g H w) (hv:PV g w R ps pv) (he:je z.length (List.replicate len z) R ps=some fs) :
  b7 P w0 g H w (Instr.buildSlice ty len pv.toArray) (.ax H.length 0 len z.length) (H++[.cells fs.flatten]):=by
 obtain⟨Bb,Cp⟩:=dA (g:=g) (w:=w) _ _ C9
 have V0:=kJ Bb xX len
 have Qm:=jj Cp len
 rw[xX]at he
 obtain⟨cS,k1,k2,k3,k4,k5⟩:=Dc hv _ fs ((Array.range (len*ei.size)).map (fun i=>zv.cells[i%zv.cells.size]!)) he (fun c hc=>by rw[List.eq_of_mem_replicate hc];exact xX) V0 Qm
 have hlen:fs.length=len:=by rw[k5];simp
 have rF:fs.flatten.length=len*ei.size:=by rw[fT fs k4,hlen]
 have uc:cS.size=len*ei.size:=by have:=k2.1;simp only[Array.length_toList]at this;omega
 obtain⟨g',le,sr,fr,hφ⟩:=h.gH (c:=cS) (ty:=elem) (cs:=fs.flatten) (Db w) rfl (fun i t hi=>by
  obtain⟨v,a1,a2⟩:=k2.fP i t hi
  exact⟨k3 t (List.mem_of_getElem? hi),v,by simpa using a1,a2⟩)
 refine⟨.slice (some ⟨w.heap.size,0,none⟩) len len,_,g',?_,le,sr,?_,fr⟩
 ·have ug:¬len*ei.size>2^24:=by omega
  by_cases h0:len*ei.size=0
  ·have e0:((Array.range (len*ei.size)).map (fun i=>zv.cells[i%zv.cells.size]!))=((Array.range (len*ei.size)).map (fun i=>(#[]:Array Value)[i%(#[]:Array Value).size]!)):=by
    rw[h0];simp
   rw[e0]at k1
   simp only[Instr.buildSlice,Sem.run_bind,run_underlying hu,Result.andThen_ok,sizeOf,bn hi,Sem.run_pure,ug,if_false,h0,if_true]
   rw[h0]at k1
   simp at k1
   simp[k1,newRow]
  ·simp only[Instr.buildSlice,Sem.run_bind,run_underlying hu,Result.andThen_ok,sizeOf,bn hi,Sem.run_pure,ug,if_false,h0,zeroValue,hz]
   simp[k1,newRow]
 ·rw[xX]
  exact .ax (r:=w.heap.size) (o:=0) (off:=0) hφ (Nat.le_refl _) (by rw[uc];simp)
theorem Iu {sT xT elem rt:TypeId}{ei:TypeInfo}{zv:Value}{z:List T}{kq kn:IntKind}{x t:T}{vx:Value}{k:Nat}{H':af}(hu:P.underlying sT=some (.slice elem))(Iv:P.underlying xT=some (.int kn))(hi:P.info? elem=some ei)(hz:ei.zero=some zv)(C9:eX zv.cells.toList=some z)
  (hb:ei.bytes≠0) (h:SR w0 g H w) (hx:VR g w x vx) (he:CJ H ei.size ei.bytes z x k=some (t,H')):b7 P w0 g H w (Builtin.append_ #[sT,xT] rt #[vx,.int kq k]) t H':=by
 unfold CJ at he
 cases x<;>simp only[]at he<;>(try (cases he;done))
 rename_i b off len n' c
 cases hK:gN H ei.size len (.dS b off len n' c)with
 | none=>simp[hK]at he
 | some es =>
  simp only[hK]at he
  split at he
  ·rename_i uh
   obtain⟨rfl,ji,Qs,lq,xX,gQ⟩:=uh
   simp only[Option.some.injEq,Prod.mk.injEq]at he
   obtain⟨rfl,rfl⟩:=he
   obtain⟨r,o,ly,cap,vs,rfl,Iq,a1,a2,a3,a4,a5⟩:=sF h hx hK
   cases Iq
   have na:cap=c:=by cases hx;rfl
   subst na
   obtain⟨Bb,Cp⟩:=dA (g:=g) (w:=w) _ _ C9
   have hold:(Builtin.firstCells ei.size len (.slice (some ⟨r,o,none⟩) len cap)).run P w.drew=.ok vs.toArray w.drew:=by
    have:=run_loadCells_list (P:=P) w.drew ⟨r,o,none⟩ vs (fun j v hj=>by rw[dc];exact a1 j v hj)
    rw[a3]at this
    simpa[Builtin.firstCells]using this
   have UT:¬Builtin.nextslicecap (len+k) cap*ei.bytes>2^48:=zp lq gQ
   have hr:=gQ
   simp only[db,decide_eq_true_eq]at hr
   have KN:(len+k)*ei.bytes≤281474976710656:=Nat.le_trans (Nat.mul_le_mul_right _ (by omega)) hr
   have V3:len+k≤281474976710656:=Nat.le_trans (Nat.le_mul_of_pos_right _ (by omega)) KN
   have Be:k*ei.bytes≤281474976710656:=Nat.le_trans (Nat.mul_le_mul_right _ (by omega)) KN
   have cw:=Go.Lib.run_append_grow_zeros (P:=P) w sT xT rt elem ei zv kq kn hu Iv hi hz (some ⟨r,o,none⟩) len cap vs hold k Qs (by omega) lq (by omega) Be (by omega)
   have Ie:zv.cells.toList.length=ei.size:=by have:=Bb.1;omega
   have Qt:zv.cells.size=ei.size:=by simpa using Ie
   have C8:bC g w (es.flatten++(List.replicate k z).flatten) (vs++(Builtin.zeroCells zv.cells k).toList):=by
    refine bC.append a2 ?_
    have:=kJ Bb xX k
    simpa[Builtin.zeroCells,Qt]using this
   have dY:=grownCap_ge w (len+k) cap elem
   generalize grownCap w (len+k) cap elem=nc at cw dY
   have Qu:cA (es.flatten++(List.replicate k z).flatten):=fun t ht=>by
    rcases List.mem_append.1 ht with ht|ht
    ·exact a4 t ht
    ·exact jj Cp k t ht
   have a6:(vs.toArray++Builtin.zeroCells zv.cells k++Builtin.zeroCells zv.cells (nc-(len+k))).size=nc*ei.size:=by
    simp only[Array.size_append,kE,List.size_toArray,a3,Qt]
    rw[←Nat.add_mul,←Nat.add_mul];congr 1;omega
   obtain⟨g',le,sr,fr,hφ⟩:=h.gH (c:=vs.toArray++Builtin.zeroCells zv.cells k++Builtin.zeroCells zv.cells (nc-(len+k))) (ty:=elem) (cs:=es.flatten++(List.replicate k z).flatten) (pK w) rfl (fun i t hi=>by
    obtain⟨v,b1,b2⟩:=C8.fP i t hi
    refine⟨Qu t (List.mem_of_getElem? hi),v,?_,b2⟩
    rw[List.getElem?_toArray]at b1
    have au:=(List.getElem?_eq_some_iff.1 b1).1
    have e:(vs.toArray++Builtin.zeroCells zv.cells k++Builtin.zeroCells zv.cells (nc-(len+k))).toList=(vs++(Builtin.zeroCells zv.cells k).toList)++(Builtin.zeroCells zv.cells (nc-(len+k))).toList:=by simp
    rw[←Array.getElem?_toList,e,List.getElem?_append_left au];exact b1)
   refine⟨_,_,g',cw,le,sr,?_,fr⟩
   exact .ax (r:=w.heap.size) (o:=0) (off:=0) hφ dY (by rw[a6];simp)
  ·cases he
end
section
variable {P:Program} {w0 w:World} {g:Ctx} {H:af}
theorem rU {params results:Array TypeId}(tS e:TypeId)(hp:params[0]?=some tS)(ht:P.underlying tS=some (.slice e))(size:Nat)(hz:(Go.sizeOf e).run P w=.ok size w)
  (a b:Addr) (la ca lb cb:Nat) (bG:a.block≠b.block) (tA tB:TypeId) (kA kB:Nat)
  (V4:w.shape? a.block=some (tA,kA)) (UQ:w.shape? b.block=some (tB,kB)) (V5:kB≠0)
  (hfa:w.frozen? a=false) (hfe:w.frozen? { block:=a.block,off:=kA }=false) :
  (Extern.SlicesOverlaps.overlaps params results #[.slice (some a) la ca,.slice (some b) lb cb]).run P w=.ok (.bool false) w:=by
 have UT:(a.block != b.block)=true:=by simpa using bG
 have Mr:(a.block==b.block)=false:=by simpa using bG
 conv=>lhs;arg 2;whnf
 simp only[hp]
 by_cases h0:la=0∨lb=0∨size=0
 ·simp[run_underlying ht,hz,h0]
 ·cases kB with
  | zero=>exact absurd rfl V5
  | succ kB =>
   simp[run_underlying ht,hz,h0,UT,Mr,frozen,noView,viewAt,mayBeOne,stringish,shape,Sem.run,V4,UQ,hfa,hfe]
theorem ui {params results:Array TypeId}(tS e:TypeId)(hp:params[0]?=some tS)(ht:P.underlying tS=some (.slice e))(size:Nat)(hz:(Go.sizeOf e).run P w=.ok size w)
  (a b:Addr) (la ca lb cb:Nat) (bG:a.block=b.block) (hd:la≠0→lb≠0→size≠0→¬(a.off<b.off+lb*size∧b.off<a.off+la*size)) :
  (Extern.SlicesOverlaps.overlaps params results #[.slice (some a) la ca,.slice (some b) lb cb]).run P w=.ok (.bool false) w:=by
 have UT:(a.block != b.block)=false:=by simpa using bG
 have Mr:(a.block==b.block)=true:=by simpa using bG
 conv=>lhs;arg 2;whnf
 simp only[hp]
 by_cases h0:la=0∨lb=0∨size=0
 ·simp[run_underlying ht,hz,h0]
 ·have h1:=hd (fun h=>h0 (.inl h)) (fun h=>h0 (.inr (.inl h))) (fun h=>h0 (.inr (.inr h)))
  simp[run_underlying ht,hz,h0,UT,Mr]
  intro au
  have:¬b.off<a.off+la*size:=fun h=>h1 ⟨au,h⟩
  omega
theorem nq {params results:Array TypeId}(tS e:TypeId)(hp:params[0]?=some tS)(ht:P.underlying tS=some (.slice e))(size:Nat)(hz:(Go.sizeOf e).run P w=.ok size w)
  (a b:Addr) (la ca lb cb:Nat) (h0:la=0∨size=0) :
  (Extern.SlicesOverlaps.overlaps params results #[.slice (some a) la ca,.slice (some b) lb cb]).run P w=.ok (.bool false) w:=by
 have h0:la=0∨lb=0∨size=0:=by rcases h0 with h|h;exact .inl h;exact .inr (.inr h)
 conv=>lhs;arg 2;whnf
 simp only[hp]
 simp[run_underlying ht,hz,h0]
theorem vO {r j:Nat}(h:(w.cell? ⟨r,j,none⟩).isSome=true):∃t k,w.shape? r=some (t,k)∧k≠0:=by
 unfold World.cell? at h
 unfold World.shape?
 cases hr:w.heap[r]? with
 | none=>simp[hr]at h
 | some x =>
  cases x<;>simp[hr]at h ⊢
  rename_i c t f
  exact⟨_,_,⟨rfl,rfl⟩,by omega⟩
theorem Iw {params results:Array TypeId}{tS e:TypeId}{ei:TypeInfo}{x y t:T}{vx vy:Value}{H':af}(hp:params[0]?=some tS)(ht:P.underlying tS=some (.slice e))(hi:P.info? e=some ei)
  (h:SR w0 g H w) (hx:VR g w x vx) (hy:VR g w y vy) (he:AQ H ei.size x y=some (t,H')):b7 P w0 g H w (Extern.SlicesOverlaps.overlaps params results #[vx,vy]) t H':=by
 have hz:(Go.sizeOf e).run P w=.ok ei.size w:=by simp[sizeOf,bn hi]
 unfold AQ at he
 cases hx<;>(try (simp only[reduceCtorEq]at he;done))<;>(try (cases he;done))
 rename_i bv Ix lv n1 r' o' q' ua kj iA Qn
 cases hy<;>(try (simp only[reduceCtorEq]at he;done))<;>(try (cases he;done))
 rename_i b off len n2 r o q c hφ hc hq
 cases UU:H[bv]? with
 | none=>simp[UU]at he
 | some zv =>
  cases hb:H[b]? with
  | none=>cases zv<;>simp[UU,hb]at he
  | some z =>
   cases zv<;>cases z<;>simp only[UU,hb]at he<;>(try (cases he;done))
   rename_i csv cs
   split at he
   ·rename_i uh
    obtain⟨bG,rfl,Iy,Ms⟩:=uh
    simp only[Option.some.injEq,Prod.mk.injEq]at he
    obtain⟨rfl,rfl⟩:=he
    subst Iy
    obtain⟨a1,a2,a3⟩:=h.dQ _ _ UU r' o' q' kj
    obtain⟨b1,b2,b3⟩:=h.dQ _ _ hb r o q hφ
    by_cases hr:r'=r
    ·subst hr
     refine b7.same h (ui tS e hp ht _ hz _ _ _ _ _ _ rfl fun hl V6 hs hh=>?_) (.bool _)
     obtain⟨h1,h2⟩:=hh
     simp only at h1 h2
     have m1:lv*ei.size≤ua*ei.size:=Nat.mul_le_mul_right _ iA
     have m2:len*ei.size≤c*ei.size:=Nat.mul_le_mul_right _ hc
     have p1:0<lv*ei.size:=Nat.mul_pos (by omega) (by omega)
     have p2:0<len*ei.size:=Nat.mul_pos (by omega) (by omega)
     have k1:=(a2 (max (o'+Ix) (o+off)) (by omega) (by omega)).1
     have k2:=(b2 (max (o'+Ix) (o+off)) (by omega) (by omega)).1
     rw[k1]at k2;cases k2;exact bG rfl
    ·by_cases Qv:lv=0
     ·subst Qv
      refine b7.same h ?_ (.bool _)
      exact nq tS e hp ht _ hz _ _ _ _ _ _ (.inl rfl)
     ·by_cases hs:ei.size=0
      ·refine b7.same h ?_ (.bool _)
       exact nq tS e hp ht _ hz _ _ _ _ _ _ (.inr hs)
      ·have m1:lv*ei.size≤ua*ei.size:=Nat.mul_le_mul_right _ iA
       have p1:0<lv*ei.size:=Nat.mul_pos (by omega) (by omega)
       have rT:=a2 (o'+Ix) (by omega) (by omega)
       have hcb:=b2 o (Nat.le_refl _) (by omega)
       have ir:w0.heap.size≤r':=by
        rcases Nat.lt_or_ge r' w0.heap.size with au|dY
        ·have:=h.AZ r' (o'+Ix) au;rw[rT.1]at this;cases this
        ·exact dY
       obtain⟨tA,kA,V4,_⟩:=vO rT.2.2
       obtain⟨tB,kB,UQ,V5⟩:=vO hcb.2.2
       exact b7.same h (rU tS e hp ht _ hz _ _ _ _ _ _ hr tA tB kA kB V4 UQ V5 (h.pE r' _ ir) (h.pE r' _ ir)) (.bool _)
   ·cases he
end
end Go.Rmp
end

section
namespace Go.Rmp
open Go.ChangeMaps (setBlock)
section
variable {P:Program} {w0 w:World} {g:Ctx} {H:af}
theorem SR.Qw {w':World}(h:SR w0 g H w)(tr:Tr w w' gu iC)(hz:w'.heap.size=w.heap.size):SR w0 g H w'∧Le g w g w':=by
 have le:Le g w g w':=Le.gO tr (fun _ _ h=>h) (fun _ _ h=>h) (fun _ _ _ h=>h) (fun _ _ hs=>hs.elim)
 refine⟨?_,le⟩
 exact h.step (fun _=>False) tr le (fun _ _ hs=>hs.elim) (fun _ hm=>hm.elim) (fun r o hr=>h.fresh r o (by omega)) h.rP h.iQ (fun _ _ _=>rfl) (fun _ _ _ _=>⟨id,id⟩) (fun _ _ _ _=>rfl) (fun b x hx=>.inl ⟨id,hx⟩)
theorem Mt {b:Nat}{vm:Value}{es:List (T×T)}(h:SR w0 g H w)(hm:VR g w (.map b) vm)(ib:gq H (.map b)=some es) :
  ∃r o q,vm=.map (some r)∧g.φ b=some (r,o,q)∧g.κ r 0=.mut b∧b<H.length∧∃aw clock,w.heap[r]?=some (.map aw clock)∧dV g w es aw∧fo aw clock:=by
 cases hm with
 | @map _ r o q hφ =>
  simp only[gq]at ib
  cases hb:H[b]? with
  | none=>simp[hb]at ib
  | some y =>
   have kc:=(List.getElem?_eq_some_iff.1 hb).1
   cases y<;>simp[hb]at ib
   ·subst ib
    obtain⟨h1,aw,c,h2,h3,h4⟩:=h.dQ b _ hb r o q hφ
    exact⟨r,o,q,rfl,hφ,h1,kc,aw,c,h2,h3,h4⟩
   ·subst ib
    obtain⟨r2,o',q',kj,h1,aw,c,h2,h3,h4,_⟩:=h.dQ b _ hb
    rw[hφ]at kj;cases kj
    exact⟨r,o,q,rfl,hφ,h1,kc,aw,c,h2,h3,h4⟩
theorem Iz {ty key elem:TypeId}{b:Nat}{vm:Value}{es:List (T×T)}(hu:P.underlying ty=some (.map key elem))(h:SR w0 g H w)(hm:VR g w (.map b) vm)(ib:gq H (.map b)=some es) :
  b7 P w0 g H w (Instr.range ty vm) (.ptr H.length 0) (H.set b (.cQ es (List.range es.length) H.length none)++[.tR b]):=by
 obtain⟨r,o,q,rfl,hφ,hk,kc,aw,c,h2,h3,h4⟩:=Mt h hm ib
 have V7:fp (.mapIter (some r) c #[] c)=true:=rfl
 have vL:=Tr.alloc w (.mapIter (some r) c #[] c) (.inl V7)
 have bG:∀r j ow,g.κ r j=ow→ow≠.free→r≠w.heap.size:=by rintro r j ow e hn rfl;exact hn (e▸h.fresh _ j (Nat.le_refl _))
 have V8:=h.HX (b:=H.length) (Nat.le_refl _)
 have V9:=bG r 0 _ hk (by simp)
 have le:Le g w ((g.row w.heap.size fun _=>.mut b).at H.length (w.heap.size,0,0)) (w.alloc (.mapIter (some r) c #[] c)):=Le.gO vL
  (fun b' x hx=>by simp only[Ctx.at,Ctx.row];split;rename_i e;subst e;rw[V8]at hx;simp at hx;exact hx)
  (fun r o hk=>by simp only[Ctx.row,Ctx.at];rw[if_neg (bG r o _ hk (by simp))];exact hk) (fun _ _ _ h=>h) (fun _ _ hs=>hs.elim)
 have au:r<w.heap.size:=(Array.getElem?_eq_some_iff.1 h2).1
 refine⟨_,_,_,by simp[Instr.range,run_underlying hu,getObj,Sem.run,h2,newObj],le,?_,.ptr (r:=w.heap.size) (o:=0) (q:=0) (by simp[Ctx.at]),by simp,fun b' x a _ d=>?_⟩
 ·refine h.step (fun b'=>b'=b∨b'=H.length) vL le (fun _ _ hs=>hs.elim) (fun _ hm=>hm.elim) (fun r o hr=>?_) (fun b' x hx=>?_) (fun t e x hx=>by have:=h.iQ t e x hx;simp;omega) (fun b' _ iY=>?_) (fun r j b' iY=>?_) (fun _ _ _ _=>rfl) (fun b' x hx=>?_)
  ·simp at hr
   simp only[Ctx.row,Ctx.at];rw[if_neg (by omega)];exact h.fresh r o (by omega)
  ·simp only[Ctx.at,Ctx.row]at hx
   split at hx
   ·rename_i e;subst e;simp
   ·have:=h.rP b' x hx;simp;omega
  ·simp only[Ctx.at,Ctx.row];rw[if_neg (fun e=>iY (.inr e))]
  ·constructor<;>intro e<;>simp only[Ctx.row,Ctx.at]<;>rw[if_neg (bG r j _ e (by simp))]<;>exact e
  ·by_cases e:b'=H.length
   ·subst e
    rw[List.getElem?_append_right (by simp)]at hx
    simp at hx;subst hx
    exact .inr trivial
   ·have iY:b'<H.length:=by
     have:=(List.getElem?_eq_some_iff.1 hx).1
     simp at this;omega
    rw[List.getElem?_append_left (by simpa using iY)]at hx
    rcases eo kc hx with⟨rfl,rfl⟩|⟨hn,jh⟩
    ·refine .inr ⟨r,o,q,le.φ _ _ hφ,by simp only[Ctx.row,Ctx.at];rw[if_neg V9];exact hk,aw,c,?_,h3.mono le,h4,w.heap.size,0,#[],by simp[Ctx.at],by simp[Ctx.row,Ctx.at],World.alloc_heap_new w _,List.nodup_range,fun i=>?_,fun c hc=>by cases hc⟩
     ·show(w.heap.push _)[r]?=_
      rw[Array.getElem?_push,if_neg (by omega)];exact h2
     ·rw[List.mem_range,←h3.1]
      exact⟨fun hi=>⟨aw[i],Array.getElem?_eq_getElem hi,by simp⟩,fun ⟨m,hm,_⟩=>(Array.getElem?_eq_some_iff.1 hm).1⟩
    ·exact .inl ⟨fun hh=>hh.elim hn e,jh⟩
 ·have hl:=(List.getElem?_eq_some_iff.1 a).1
  refine⟨?_,by simp only[Ctx.at,Ctx.row];rw[if_neg (by omega)];exact d⟩
  rw[List.getElem?_append_left (by simpa using hl)]
  exact ft a (by rintro rfl;rw[hφ]at d;cases d)
theorem IA {ty:TypeId}{b bi:Nat}{v:Value}{es:List (T×T)}{ix:List Nat}{cur:Option Nat}(h:SR w0 g H w)(hx:VR g w (.ptr bi 0) v)(hb:H[b]?=some (.cQ es ix bi cur)) :
  ∃t H',m5 H b bi es ix t H'∧b7 P w0 g H w (Instr.next v false ty) t H':=by
 have kc:b<H.length:=(List.getElem?_eq_some_iff.1 hb).1
 obtain⟨r,o,q,hφ,h1,aw,c,h2,h3,h4,ri,q',seen,h5,h6,h7,h8,h9,aB⟩:=h.dQ b _ hb
 cases hx with
 | @ptr _ _ r2 o2 q2 zr =>
  rw[h5]at zr;cases zr
  have aq:∀y,Fr g H g (H.set b y):=fun y=>⟨by simp,fun b' x a _ d=>⟨ft a (by rintro rfl;rw[hφ]at d;cases d),d⟩⟩
  rcases run_next_at (P:=P) w ty ri r c c seen aw c h7 h2 h4.1 (Nat.le_refl _)with⟨hz,cw⟩|⟨e,he,w1,Pz,cw⟩
  ·have vI:ix=[]:=by
    refine List.eq_nil_iff_forall_not_mem.2 fun i hi=>?_
    obtain⟨m,hm,hn⟩:=(h9 i).1 hi
    have:m∈leftOf aw seen:=by
     simp only[leftOf,Array.mem_filter]
     exact⟨Array.mem_of_getElem? hm,by simpa using hn⟩
    rw[Array.eq_empty_of_size_eq_zero hz]at this
    simp at this
   refine⟨_,_,.inl ⟨vI,rfl,rfl⟩,.tuple #[.bool false],w,g,by simpa using cw,.refl _ _,?_,.bF rfl (fun i t v a b=>?_),aq _⟩
   ·refine h.step (fun b'=>b'=b) (Tr.refl w) (.refl _ _) (fun _ _ hs=>hs.elim) (fun _ hm=>hm.elim) h.fresh (fun b' x hx=>by rw[List.length_set];exact h.rP b' x hx) (fun t e x hx=>by rw[List.length_set];exact h.iQ t e x hx) (fun _ _ _=>rfl) (fun _ _ _ _=>⟨id,id⟩) (fun _ _ _ _=>rfl) (fun b' x hx=>?_)
    rcases eo kc hx with⟨rfl,rfl⟩|⟨hn,jh⟩
    ·refine .inr fun r' o' q' kj=>?_
     rw[hφ]at kj;cases kj
     exact⟨h1,aw,c,h2,h3,h4⟩
    ·exact .inl ⟨hn,jh⟩
   ·cases i with
    | zero=>simp at a b;subst a;subst b;exact .bool _
    | succ i=>simp at a
  ·have Dd:e∈aw∧e.born∉seen:=by
    have:e∈leftOf aw seen:=by simpa using he
    simp only[leftOf,Array.mem_filter]at this
    exact⟨this.1,by simpa using this.2⟩
   obtain⟨i,hi,rV⟩:=Array.getElem_of_mem Dd.1
   have mA:aw[i]?=some e:=by rw[Array.getElem?_eq_getElem hi,rV]
   have kM:i<es.length:=by rw[←h3.1];exact hi
   have vI:i∈ix:=(h9 i).2 ⟨e,mA,Dd.2⟩
   have fI:=h3.2 i es[i] e (List.getElem?_eq_getElem kM) mA
   have trd:Tr w w1 gu iC:=by rcases Pz with rfl|rfl;exact Tr.refl _;exact Tr.drew _
   obtain⟨Mu,eY⟩:=h.Qw trd (by rcases Pz with rfl|rfl<;>rfl)
   have UW:w1.heap[ri]?=some (.mapIter (some r) c seen c):=by rcases Pz with rfl|rfl<;>exact h7
   have IB:w1.heap[r]?=some (.map aw c):=by rcases Pz with rfl|rfl<;>exact h2
   have tr:Tr w1 (World.b9 w1 ri (.mapIter (some r) c (seen.push e.born) c)) gu (fun r'=>r'=ri):=Tr.xU w1 ri rfl rfl UW
   have le:Le g w1 g (World.b9 w1 ri (.mapIter (some r) c (seen.push e.born) c)):=Le.gO tr (fun _ _ h=>h) (fun _ _ h=>h) (fun _ _ _ h=>h) (fun _ _ hs=>hs.elim)
   have hrr:r≠ri:=by rintro rfl;rw[IB]at UW;cases UW
   refine⟨_,_,.inr ⟨i,es[i],vI,List.getElem?_eq_getElem kM,rfl,rfl⟩,.tuple #[.bool true,e.key,e.val],_,g,by simpa[setBlock,World.b9]using cw,eY.trans le,?_,.bF rfl (fun i t v a b=>?_),aq _⟩
   ·show SR w0 g _ (World.b9 w1 ri (.mapIter (some r) c (seen.push e.born) c))
    refine Mu.step (fun b'=>b'=b) tr le (fun _ _ hs=>hs.elim) (fun r' hm=>⟨b,by rw[hm];exact h6,rfl⟩) (fun r' j n6=>Mu.fresh r' j (by simpa[World.b9]using n6)) (fun b' x hx=>by rw[List.length_set];exact h.rP b' x hx) (fun t e x hx=>by rw[List.length_set];exact h.iQ t e x hx) (fun _ _ _=>rfl) (fun _ _ _ _=>⟨id,id⟩) (fun _ _ _ _=>rfl) (fun b' x hx=>?_)
    rcases eo kc hx with⟨rfl,rfl⟩|⟨hn,jh⟩
    ·refine .inr ⟨r,o,q,hφ,h1,aw,c,?_,h3.mono (eY.trans le),h4,ri,q',seen.push e.born,h5,h6,qk _ _ (Array.getElem?_eq_some_iff.1 UW).1,h8.erase _,fun j=>?_,fun c' iA=>?_⟩
     ·rw[qj _ _ hrr];exact IB
     ·rw[h8.mem_erase_iff,h9 j]
      constructor
      ·rintro⟨Qy,m,hm,hn⟩
       refine⟨m,hm,fun iE=>?_⟩
       rcases Array.mem_push.1 iE with iE|iE
       ·exact hn iE
       ·apply Qy
        have hj:=(Array.getElem?_eq_some_iff.1 hm).1
        have fB:=h4.2
        have e1:(aw.toList.map (·.born))[j]?=some m.born:=by simp[hm]
        have e2:(aw.toList.map (·.born))[i]?=some m.born:=by simp[mA,iE]
        have PA:j<(aw.toList.map (·.born)).length:=by simpa using hj
        exact(List.getElem?_inj PA fB).1 (e1.trans e2.symm)
      ·rintro⟨m,hm,hn⟩
       refine⟨fun Qy=>?_,m,hm,fun iE=>hn (Array.mem_push.2 (.inl iE))⟩
       subst Qy
       rw[mA]at hm;cases hm
       exact hn (Array.mem_push.2 (.inr rfl))
     ·cases iA
      exact⟨e,mA,by simp⟩
    ·exact .inl ⟨hn,jh⟩
   ·have Mh:=fI.1.mono (eY.trans le)
    have Mi:=fI.2.mono (eY.trans le)
    match i,a,b with
    | 0,a,b=>simp at a b;subst a;subst b;exact .bool _
    | 1,a,b=>simp at a b;subst a;subst b;exact Mh
    | 2,a,b=>simp at a b;subst a;subst b;exact Mi
    | i+3,a,b=>simp at a
theorem IC {b bi c:Nat}{v:Value}{es:List (T×T)}{ix:List Nat}{e:T×T}(h:SR w0 g H w)(hx:VR g w (.ptr bi 0) v)(hb:H[b]?=some (.cQ es ix bi (some c)))(he:es[c]?=some e) :
  b7 P w0 g H w (Instr.entry v) (.bF [e.1,e.2]) H:=by
 obtain⟨r,o,q,hφ,h1,aw,cl,h2,h3,h4,ri,q',seen,h5,h6,h7,h8,h9,aB⟩:=h.dQ b _ hb
 cases hx with
 | @ptr _ _ r2 o2 q2 zr =>
  rw[h5]at zr;cases zr
  obtain⟨m,hm,hs⟩:=aB c rfl
  have fI:=h3.2 c e m he hm
  have Wa:m∈aw.toList:=by have:=Array.mem_of_getElem? hm;simpa using this
  have hf:aw.find? (·.born==m.born)=some m:=by rw[←Array.find?_toList];exact find_born m aw.toList h4.2 Wa
  refine b7.same h (v:=.tuple #[m.key,m.val]) ?_ (.bF rfl fun i t v a b=>?_)
  ·simp[Instr.entry,getObj,Sem.run,h7,h2,hs,hf]
  ·match i,a,b with
   | 0,a,b=>simp at a b;subst a;subst b;exact fI.1
   | 1,a,b=>simp at a b;subst a;subst b;exact fI.2
   | i+2,a,b=>simp at a
theorem ID {ty rt elem:TypeId}{ei:TypeInfo}{zv:Value}{z:List T}{v:Value}{b off len:Nat}{cs:List T}(hu:P.underlying ty=some (.slice elem))(hi:P.info? elem=some ei)(hz:ei.zero=some zv)(C9:eX zv.cells.toList=some z)
  (h:SR w0 g H w) (hx:VR g w (.ax b off len ei.size) v) (hb:H[b]?=some (.cells cs)) (vN:z.length=ei.size) (hle:off+len*ei.size≤cs.length) :
  b7 P w0 g H w (Builtin.clear_ #[ty] rt #[v]) (.bF []) (H.set b (.cells (cs.take off++(List.replicate len z).flatten++cs.drop (off+len*ei.size)))):=by
 cases hx with
 | @ax _ _ _ _ r o q cap hφ hc hq =>
  obtain⟨h1,h2,h3⟩:=h.dQ b _ hb r o q hφ
  obtain⟨Bb,Cp⟩:=dA (g:=g) (w:=w) _ _ C9
  have fI:=kJ Bb vN len
  have PB:=jj Cp len
  have hlen:(List.replicate len z).flatten.length=len*ei.size:=by simp[List.length_flatten,vN]
  have Ie:zv.cells.size=ei.size:=by have:=Bb.1;simp at this;omega
  have Mv:bC g w (List.replicate len z).flatten (Builtin.zeroCells zv.cells len).toList:=by
   simpa[Builtin.zeroCells,Ie]using fI
  obtain⟨le,sr⟩:=h.store hb hφ (by rw[hlen];exact hle) Mv PB
  rw[hlen]at sr
  refine⟨.tuple #[],_,g,?_,le,sr,.bF rfl (by simp),by simp,fun b' y' a _ d=>⟨ft a (by rintro rfl;rw[hφ]at d;cases d),d⟩⟩
  have hl:=Mv.1
  rw[hlen]at hl
  cases len with
  | zero =>
   have e:(Builtin.zeroCells zv.cells 0).toList=[]:=List.eq_nil_of_length_eq_zero (by rw[←hl];simp)
   rw[e]
   simp[Builtin.clear_,run_underlying hu,World.setCells]
  | succ len =>
   have cw:=run_storeCells_cells (P:=P) r (o+off) (Builtin.zeroCells zv.cells (len+1)).toList 0 w (fun j hj=>(h2 _ (by omega) (by omega)).2.2) (fun j hj=>(h2 _ (by omega) (by omega)).2.1) (Mv.iz PB)
   have Qz:(zeroValue elem).run P w=.ok zv w:=by simp[zeroValue,bn hi,hz]
   simp only[Nat.add_zero]at cw
   simp[Builtin.clear_,run_underlying hu,Qz,cw]
theorem SR.shrink {b:Nat}{cs:List T}(k:Nat)(h:SR w0 g H w)(hb:H[b]?=some (.cells cs))(hφ:∃x,g.φ b=some x):SR w0 g (H.set b (.cells (cs.take k))) w∧Fr g H g (H.set b (.cells (cs.take k))):=by
 have kc:b<H.length:=(List.getElem?_eq_some_iff.1 hb).1
 obtain⟨y,hy⟩:=hφ
 refine⟨?_,by simp,fun b' x a _ d=>⟨ft a (by rintro rfl;rw[hy]at d;cases d),d⟩⟩
 refine h.step (fun b'=>b'=b) (Tr.refl w) (.refl _ _) (fun _ _ hs=>hs.elim) (fun _ hm=>hm.elim) h.fresh (fun b' x hx=>by rw[List.length_set];exact h.rP b' x hx) (fun t e x hx=>by rw[List.length_set];exact h.iQ t e x hx) (fun _ _ _=>rfl) (fun _ _ _ _=>⟨id,id⟩) (fun _ _ _ _=>rfl) (fun b' x hx=>?_)
 rcases eo kc hx with⟨rfl,rfl⟩|⟨hn,jh⟩
 ·refine .inr fun r o q hφ=>?_
  obtain⟨h1,h2,h3⟩:=h.dQ b' _ hb r o q hφ
  refine⟨by simp;omega,h2,fun i t hi=>h3 i t ?_⟩
  rw[List.getElem?_take]at hi
  split at hi
  ·exact hi
  ·cases hi
 ·exact .inl ⟨hn,jh⟩
end
end Go.Rmp
end

section
namespace Go.Rmp
def aK:Operand→Option X
 | .tmp t=>some (.r t)
 | .const v=>(mw v).map .c
 | .func f=>some (.c (.fn f []))
 | .global _=>none
def fJ:List Operand→Option (List X)
 | []=>some []
 | x :: xs=>match aK x,fJ xs with
  | some y,some ys=>some (y :: ys)
  | _,_=>none
def jD:Option Operand→Option (Option X)
 | none=>some none
 | some x=>(aK x).map some
def mB:List (Nat×Operand)→Option (List (Nat×X))
 | []=>some []
 | (i,x) :: xs=>match aK x,mB xs with
  | some y,some ys=>some ((i,y) :: ys)
  | _,_=>none
def ty1:TypeDesc→Option vg
 | .int _=>some .int
 | .string=>some .str
 | .bool=>some .bool
 | _=>none
def kinds (P:Program):List Field→Option (List vg)
 | []=>some []
 | f :: fs=>match (P.underlying f.type).bind ty1,kinds P fs with
  | some k,some ks=>some (k :: ks)
  | _,_=>none
def uj (P:Program)(ty:TypeId):Option KT :=
 match P.underlying ty with
 | some (.struct fs)=>(kinds P fs.toList).map .st
 | some d=>(ty1 d).map .sc
 | none=>none
def zeroOf (P:Program)(ty:TypeId):Option (List T) :=
 match P.info? ty with
 | some i=>match i.zero with
  | some zv=>eX zv.cells.toList
  | none=>none
 | none=>none
def isEq:BinOp→Option Bool
 | .eql=>some false
 | .neq=>some true
 | _=>none
def cls:TypeDesc→Option HC
 | .pointer _=>some .ptr
 | .slice _=>some .slice
 | .map _ _=>some .map
 | .func _ _ _=>some .func
 | _=>none
def De (P:Program)(op:BinOp)(ty:TypeId)(x y:X):Option Bo :=
 match P.underlying ty with
 | some (.int _)|some .string=>some (.bin op x y)
 | some .bool=>(isEq op).map fun n=>.beq n x y
 | some (.struct fs)=>match isEq op,kinds P fs.toList with
  | some n,some ks=>if flat P fs.toList 0 ks&&!P.stoodInHeld ty&&!P.eqGuardType P.depth ty then some (.eqs n ks x y)else none
  | _,_=>none
 | some d=>match isEq op,cls d with
  | some n,some c=>some (.mS n c x y)
  | _,_=>none
 | none=>none
def sG (P:Program)(ty:TypeId)(x:X):Option Bo :=
 match P.underlying ty,P.info? ty with
 | some d,some i=>some (.ld (if dX d then i.size else 1) (dX d) x)
 | _,_=>none
def mC (P:Program)(ty:TypeId)(x:X)(f:Nat)(ad:Bool):Option Bo :=
 match P.underlying ty with
 | some (.struct fs)=>match fs[f]? with
  | some f=>match P.underlying f.type,P.info? f.type with
   | some d,some i=>if ad then(if i.size=0 then none else some (.jZ f.offset x))else some (.P2 f.offset i.size (dX d) x)
   | _,_=>none
  | none=>none
 | _=>none
def xZ (P:Program)(ty:TypeId)(x i:X)(ad:Bool):Option Bo :=
 match P.underlying ty,ad with
 | some (.slice e),true=>(P.info? e).map fun ei=>.eR ei.size x i
 | some (.array n e),true=>(P.info? e).map fun ei=>.L0 n ei.size x i
 | some .string,false=>some (.P3 x i)
 | some (.array n e),false=>match P.info? e,P.underlying e with
  | some ei,some d=>some (.UO n ei.size (dX d) x i)
  | _,_=>none
 | _,_=>none
def ou (P:Program)(ty:TypeId)(x:X)(lo hi mx:Option X):Option Bo :=
 match P.underlying ty with
 | some .string=>if mx.isSome then none else some (.P4 x lo hi)
 | some (.slice e)=>match P.info? e with
  | some ei=>if mx.isSome&&hi.isNone then none else some (.gp ei.size x lo hi mx)
  | none=>none
 | _=>none
def sH (P:Program)(src dst:TypeId)(x:X):Option Bo :=
 match P.underlying src,P.underlying dst with
 | some (.int _),some (.int k)=>some (.iX k x)
 | some .string,some .string=>none
 | some (.slice e),some .string=>match P.underlying e with
  | some (.int .u8)=>some (.AM x)
  | _=>none
 | _,_=>none
def Df:TypeDesc→Bool
 | .int _=>false
 | _=>true
def lx (P:Program)(mu:Bool)(iB:List TypeId)(as:List X):Option Bo :=
 match iB,as with
 | [sT,xT],[x,y]=>match P.underlying sT,P.underlying xT with
  | some (.slice e),some d=>match P.info? e with
   | some ei=>match ei.zero with
    | some zv=>if Df d&&zv.cells.size==ei.size&&ei.bytes != 0 then some (.app ei.size ei.bytes mu x y)else none
    | none=>none
   | none=>none
  | _,_=>none
 | _,_=>none
def vP (P:Program)(iB:List TypeId)(as:List X):Option Bo :=
 match iB,as with
 | [sT,xT],[x,k]=>match P.underlying sT,P.underlying xT with
  | some (.slice e),some (.int _)=>match P.info? e,zeroOf P e with
   | some ei,some z=>if ei.bytes != 0 then some (.P5 ei.size ei.bytes z x k)else none
   | _,_=>none
  | _,_=>none
 | _,_=>none
def jk (P:Program)(mu:Bool)(b:Builtin)(iB:List TypeId)(as:List X):Option Bo :=
 match b,iB,as with
 | .append,iB,as=>match vP P iB as with
  | some b=>some b
  | none=>lx P mu iB as
 | .cap,[t],[x]=>match P.underlying t with
  | some (.slice _)=>some (.cap x)
  | _=>none
 | .copy,[dT,_],[x,y]=>match P.underlying dT with
  | some (.slice e)=>(P.info? e).map fun ei=>.AN ei.size x y
  | _=>none
 | .len,[t],[x]=>match P.underlying t with
  | some .string=>some (.len .str x)
  | some (.slice _)=>some (.len .sl x)
  | some (.map _ _)=>some (.len .map x)
  | _=>none
 | .clear,[t],[x]=>match P.underlying t with
  | some (.slice e)=>match P.info? e,zeroOf P e with
   | some ei,some z=>some (.Pp ei.size z x)
   | _,_=>none
  | _=>none
 | .min,_,[x,y]=>some (.mn x y)
 | .max,_,[x,y]=>some (.mx x y)
 | .delete,[t,_],[m,k]=>match P.underlying t with
  | some (.map key _)=>match uj P key with
   | some kt=>if my P key kt then some (.del kt m k)else none
   | none=>none
  | _=>none
 | _,_,_=>none
def x0 (P:Program)(ty:TypeId)(m k:X):Option (Nat×KT×T) :=
 match P.underlying ty with
 | some (.map key e)=>match uj P key,P.info? e with
  | some kt,some ei=>match ei.zero with
   | some zv=>match mw zv with
    | some z=>if my P key kt then some (e,kt,z)else none
    | none=>none
   | none=>none
  | _,_=>none
 | _=>none
def vQ (P:Program)(fs:List Field):Bool:=fs.all fun f=>(P.info? f.type).isSome
def ov (P:Program)(ty:TypeId)(ps:List (Nat×X)):Option Bo :=
 match P.underlying ty,zeroOf P ty with
 | some (.struct fs),some z=>if vQ P fs.toList&&ps.all (fun p=>p.1<fs.size)then
   some (.build z (ps.map fun p=>((((placesOf P fs.toList)[p.1]?).getD (0,0)).1,(((placesOf P fs.toList)[p.1]?).getD (0,0)).2,p.2)))else none
 | _,_=>none
def Bf (P:Program)(mu:Bool)(ty:TypeId)(n:Nat)(ps:List (Nat×X)):Option Bo :=
 match P.underlying ty with
 | some (.slice e)=>match P.info? e,zeroOf P e with
  | some ei,some z=>if z.length==ei.size&&decide (n*ei.size≤16777216)then some (if mu then .Pq n z ps else .nY n z ps)else none
  | _,_=>none
 | _=>none
def Bg (P:Program)(mu:Bool)(ty:TypeId)(l c:X):Option Bo :=
 match P.underlying ty with
 | some (.slice e)=>match P.info? e,zeroOf P e with
  | some ei,some z=>if z.length==ei.size&&ei.size != 0 then some (.VO mu ei.bytes z l c)else none
  | _,_=>none
 | _=>none
def KO (n:String):Bool:=(Extern.allGenericRows.lookup n).isNone&&(Extern.allTypedRows.lookup n).isNone&&(Extern.allRows.lookup n).isNone
def zs (P:Program)(f:FuncId):Option Nat :=
 match P.funcs[f]? with
 | some fn=>match fn.params[0]? with
  | some t=>match P.underlying t with
   | some (.slice e)=>match P.info? e with
    | some ei=>if fn.name != "runtime.NumGoroutine"&&fn.body.isNone&&(Extern.findNext fn).isNone&&fn.origin=="slices.overlaps"&&KO fn.name then some ei.size else none
    | none=>none
   | _=>none
  | none=>none
 | none=>none
def bD (P:Program)(mu:Bool):Op→Option Bo
 | .move x | .assign x=>(aK x).map .av
 | .pick c a b=>match aK c,aK a,aK b with
  | some c,some a,some b=>some (.pick c a b)
  | _,_,_=>none
 | .binOp op ty x y _=>match aK x,aK y with
  | some x,some y=>De P op ty x y
  | _,_=>none
 | .unOp op _ x=>(aK x).map (.un op)
 | .convert s d x=>(aK x).bind (sH P s d)
 | .alloc ty=>(zeroOf P ty).map .alloc
 | .box _ x=>(aK x).map .box
 | .build ty ps=>(mB ps.toList).bind (ov P ty)
 | .buildSlice ty n ps=>(mB ps.toList).bind (Bf P mu ty n)
 | .load ty x=>(aK x).bind (sG P ty)
 | .store ty a v=>match P.info? ty,aK a,aK v with
  | some i,some a,some v=>some (.st i.size a v)
  | _,_,_=>none
 | .fieldAddr ty x f=>(aK x).bind fun x=>mC P ty x f true
 | .field ty x f=>(aK x).bind fun x=>mC P ty x f false
 | .indexAddr ty x i=>match aK x,aK i with
  | some x,some i=>xZ P ty x i true
  | _,_=>none
 | .index ty x i=>match aK x,aK i with
  | some x,some i=>xZ P ty x i false
  | _,_=>none
 | .slice ty x lo hi mx=>match aK x,jD lo,jD hi,jD mx with
  | some x,some lo,some hi,some mx=>ou P ty x lo hi mx
  | _,_,_,_=>none
 | .makeMap _ none=>some .zd
 | .lookup ty m k ok=>match aK m,aK k with
  | some m,some k=>(x0 P ty m k).map fun (_,kt,z)=>.mT kt z ok m k
  | _,_=>none
 | .mapUpdate ty m k v | .insert ty m k v=>match aK m,aK k,aK v with
  | some m,some k,some v=>(x0 P ty m k).map fun (_,kt,_)=>.ze kt m k v
  | _,_,_=>none
 | .makeSlice ty l c=>match aK l,aK c with
  | some l,some c=>Bg P mu ty l c
  | _,_=>none
 | .makeFunc (.func f) first ku=>if first.size=0 then(fJ ku.toList).map (.HD f)else none
 | .extract x i=>(aK x).map (.ext i)
 | .nilCheck x=>(aK x).map .tQ
 | .range ty m=>match P.underlying ty with
  | some (.map _ _)=>(aK m).map .L1
  | _=>none
 | .next it false=>(aK it).map .pD
 | .entry it=>(aK it).map .L3
 | .call { callee:=.value (.func f),args,.. }=>match zs P f,fJ args.toList with
  | some n,some [x,y]=>some (.Po n x y)
  | _,_=>none
 | .call { callee:=.builtin b,args,argTypes }=>(fJ args.toList).bind (jk P mu b argTypes.toList)
 | _=>none
def IE (P:Program)(w0:World)(g:Ctx)(H:af)(w:World)(s:Sem Next)(t:T)(H':af):Prop :=
 ∃nx v w' g',s.run P w=.ok nx w'∧(nx=.value v∨(nx=.skip∧v=undef))∧Le g w g' w'∧SR w0 g' H' w'∧VR g' w' t v∧Fr g H g' H'
theorem b7.mW {P:Program}{w0 w:World}{g:Ctx}{H H':af}{s:Sem Value}{t:T}(h:b7 P w0 g H w s t H'):IE P w0 g H w (do pure (.value (←s))) t H':=by
 obtain⟨v,w',g',h1,h2⟩:=h
 exact⟨.value v,v,w',g',by simp[h1],.inl rfl,h2⟩
theorem gR {g:Ctx}{w:World}:VR g w bX undef:=.bF rfl (by simp)
section
variable {P:Program} {w0 w:World} {g:Ctx} {H:af} {R:ar} {ρ:Operand→Value}
def RV (g:Ctx)(w:World)(R:ar)(ρ:Operand→Value)(xs:List Operand):Prop:=∀x∈xs,∀y,aK x=some y→VR g w (y.ev R) (ρ x)
theorem fK:∀(xs:List Operand) (ys:List X),fJ xs=some ys→RV g w R ρ xs→bC g w (ys.map (X.ev R)) (xs.map ρ)
 | [],ys,h,_=>by simp[fJ]at h;subst h;exact bC.nil
 | x :: xs,ys,h,hv=>by
  simp only[fJ]at h
  cases h1:aK x with
  | none=>simp[h1]at h
  | some y =>
   cases h2:fJ xs with
   | none=>simp[h1,h2]at h
   | some ys' =>
    simp[h1,h2]at h;subst h
    exact bC.cons (hv x (by simp) y h1) (fK xs ys' h2 (fun z hz=>hv z (by simp[hz])))
theorem oA:∀(ps:List (Nat×Operand)) (qs:List (Nat×X)),mB ps=some qs→RV g w R ρ (ps.map (·.2))→PV g w R qs (ps.map fun p=>(p.1,ρ p.2))
 | [],qs,h,_=>by simp[mB]at h;subst h;exact .nil
 | (i,x) :: ps,qs,h,hv=>by
  simp only[mB]at h
  cases h1:aK x with
  | none=>simp[h1]at h
  | some y =>
   cases h2:mB ps with
   | none=>simp[h1,h2]at h
   | some qs' =>
    simp[h1,h2]at h;subst h
    exact .cons (hv x (by simp) y h1) (oA ps qs' h2 (fun z hz=>hv z (by simp at hz ⊢;exact .inr hz)))
end
section
variable {P:Program} {w0 w:World} {g:Ctx} {H H':af} {R:ar} {ρ:Operand→Value} {t:T}
theorem IG {op:BinOp}{ty:TypeId}{ox oy:Operand}{x y:X}{b:Bo}(hc:De P op ty x y=some b)(h:SR w0 g H w)(hx:VR g w (x.ev R) (ρ ox))(hy:VR g w (y.ev R) (ρ oy))(he:al R H b=some (t,H')) :
  IE P w0 g H w (do pure (Next.value (←(do eqGuard op ty ox oy (ρ ox) (ρ oy);binOp op ty (ρ ox) (ρ oy))))) t H':=by
 refine b7.mW ?_
 unfold De at hc
 cases hu:P.underlying ty with
 | none=>simp[hu]at hc
 | some d =>
  rw[hu]at hc
  have heq:∀n,isEq op=some n→op=if n then .neq else .eql:=by
   intro n hn;cases op<;>simp[isEq]at hn<;>subst hn<;>rfl
  have bin:b=.bin op x y→b7 P w0 g H w (do eqGuard op ty ox oy (ρ ox) (ρ oy);binOp op ty (ρ ox) (ρ oy)) t H':=by
   rintro rfl
   simp only[al,Option.map_eq_some_iff,Prod.mk.injEq]at he
   obtain⟨t',h1,rfl,rfl⟩:=he
   exact HH h hx hy h1
  have ref:(∃n c,isEq op=some n∧cls d=some c∧b=.mS n c x y)→b7 P w0 g H w (do eqGuard op ty ox oy (ρ ox) (ρ oy);binOp op ty (ρ ox) (ρ oy)) t H':=by
   rintro⟨n,c,h1,h2,rfl⟩
   simp only[al,Option.map_eq_some_iff,Prod.mk.injEq]at he
   obtain⟨r,h3,rfl,rfl⟩:=he
   rw[heq n h1]
   exact HJ hu (by cases d<;>simp[cls]at h2<;>subst h2<;>rfl) h hx hy h3
  have oB:(match isEq op,cls d with|some n,some c=>some (Bo.mS n c x y)|_,_=>none)=some b→(∃n c,isEq op=some n∧cls d=some c∧b=.mS n c x y):=by
   intro hh
   cases h1:isEq op with
   | none=>simp[h1]at hh
   | some n =>
    cases h2:cls d with
    | none=>simp[h1,h2]at hh
    | some c=>simp[h1,h2]at hh;exact⟨n,c,rfl,rfl,hh.symm⟩
  cases d with
  | int k=>simp at hc;exact bin hc.symm
  | string=>simp at hc;exact bin hc.symm
  | bool =>
   simp only[Option.map_eq_some_iff]at hc
   obtain⟨n,h1,rfl⟩:=hc
   simp only[al]at he
   rw[heq n h1]
   generalize x.ev R=tx at hx he
   generalize y.ev R=Mw at hy he
   cases tx<;>cases Mw<;>simp at he
   obtain⟨rfl,rfl⟩:=he
   exact HI hu h hx hy
  | struct fs =>
   cases h1:isEq op with
   | none=>simp[h1]at hc
   | some n =>
    cases h2:kinds P fs.toList with
    | none=>simp[h1,h2]at hc
    | some ks =>
     simp only[h1,h2]at hc
     split at hc
     ·rename_i cE
      simp only[Bool.and_eq_true,Bool.not_eq_true']at cE
      simp at hc;subst hc
      simp only[al]at he
      rw[heq n h1]
      generalize x.ev R=tx at hx he
      generalize y.ev R=Mw at hy he
      cases tx<;>cases Mw<;>(try simp only[reduceCtorEq]at he)
      split at he
      ·rename_i hk
       simp only[Option.map_eq_some_iff,Prod.mk.injEq]at he
       obtain⟨r,h3,rfl,rfl⟩:=he
       exact HK hu cE.1.1 cE.1.2 cE.2 h hx hy hk h3
      ·cases he
     ·cases hc
  | pointer _=>exact ref (oB hc)
  | slice _=>exact ref (oB hc)
  | map _ _=>exact ref (oB hc)
  | func _ _ _=>exact ref (oB hc)
  | invalid=>exact ref (oB hc)
  | float _=>exact ref (oB hc)
  | complex _=>exact ref (oB hc)
  | unsafePointer=>exact ref (oB hc)
  | array _ _=>exact ref (oB hc)
  | chan _ _=>exact ref (oB hc)
  | interface _=>exact ref (oB hc)
  | tuple _=>exact ref (oB hc)
  | named _ _=>exact ref (oB hc)
theorem Dg {ty:TypeId}{v:Value}{x:X}{b:Bo}(hc:sG P ty x=some b)(h:SR w0 g H w)(hx:VR g w (x.ev R) v)(he:al R H b=some (t,H')):IE P w0 g H w (do pure (Next.value (←Instr.loadAt ty v))) t H':=by
 refine b7.mW ?_
 unfold sG at hc
 cases hu:P.underlying ty with
 | none=>simp[hu]at hc
 | some d =>
  cases hi:P.info? ty with
  | none=>simp[hu,hi]at hc
  | some i =>
   simp only[hu,hi,Option.some.injEq]at hc
   subst hc
   simp only[al]at he
   cases hl:nZ H (if dX d then i.size else 1) (x.ev R)with
   | none=>simp[hl]at he
   | some cs =>
    simp only[hl,Option.map_eq_some_iff,Prod.mk.injEq]at he
    obtain⟨t',h1,rfl,rfl⟩:=he
    exact L9 hu hi rfl (fun e=>by rw[if_pos e]) h hx hl h1
theorem sI {ty:TypeId}{v:Value}{x:X}{f:Nat}{ad:Bool}{b:Bo}(hc:mC P ty x f ad=some b)(h:SR w0 g H w)(hx:VR g w (x.ev R) v)(he:al R H b=some (t,H')) :
  b7 P w0 g H w (if ad then Instr.fieldAt ty v f else Instr.field ty v f) t H':=by
 unfold mC at hc
 cases hu:P.underlying ty with
 | none=>simp[hu]at hc
 | some d =>
  cases d<;>simp only[hu]at hc<;>(try (cases hc;done))
  rename_i fs
  cases hf:fs[f]? with
  | none=>simp[hf]at hc
  | some fl =>
   simp only[hf]at hc
   cases hd:P.underlying fl.type with
   | none=>simp[hd]at hc
   | some d =>
    cases hi:P.info? fl.type with
    | none=>simp[hd,hi]at hc
    | some i =>
     simp only[hd,hi]at hc
     cases ad with
     | true =>
      simp only[if_true]at hc
      split at hc
      ·cases hc
      ·rename_i hz
       simp at hc;subst hc
       simp only[al]at he
       simp only[Option.map_eq_some_iff,Prod.mk.injEq]at he
       obtain⟨t',h1,rfl,rfl⟩:=he
       exact HO hu hf hi hz h hx h1
     | false =>
      simp only[Bool.false_eq_true,if_false,Option.some.injEq]at hc
      subst hc
      simp only[al]at he
      generalize x.ev R=tx at hx he
      cases tx<;>(try simp only[reduceCtorEq]at he)
      rename_i cs
      split at he
      ·rename_i hle
       simp only[Option.map_eq_some_iff,Prod.mk.injEq]at he
       obtain⟨t',h1,rfl,rfl⟩:=he
       exact HP hu hf hd hi rfl h hx hle h1
      ·cases he
theorem zt {ty:TypeId}{v vi:Value}{x i:X}{ad:Bool}{b:Bo}(hc:xZ P ty x i ad=some b)(h:SR w0 g H w)(hx:VR g w (x.ev R) v)(hi:VR g w (i.ev R) vi)(he:al R H b=some (t,H')) :
  b7 P w0 g H w (if ad then Instr.indexAt ty v vi else Instr.index ty v vi) t H':=by
 unfold xZ at hc
 cases hu:P.underlying ty with
 | none=>simp[hu]at hc
 | some d =>
  cases d<;>cases ad<;>simp only[hu]at hc<;>(try (cases hc;done))
  ·-- string
   simp at hc;subst hc
   simp only[al]at he
   generalize x.ev R=tx at hx he
   cases tx<;>(try simp only[reduceCtorEq]at he)
   cases hn:cq (i.ev R)with
   | none=>simp[hn]at he
   | some n =>
    simp only[hn,Option.map_eq_some_iff,Prod.mk.injEq]at he
    obtain⟨c,h1,rfl,rfl⟩:=he
    exact HS hu h hx hi hn h1
  ·-- slice
   rename_i e
   cases rV:P.info? e with
   | none=>simp[rV]at hc
   | some ei =>
    simp[rV]at hc;subst hc
    simp only[al]at he
    simp only[Option.bind_eq_some_iff,Option.map_eq_some_iff,Prod.mk.injEq]at he
    obtain⟨n,h1,t',h2,rfl,rfl⟩:=he
    exact HQ hu rV h hx hi h1 h2
  ·-- IH value
   rename_i n e
   cases rV:P.info? e with
   | none=>simp[rV]at hc
   | some ei =>
    cases Mx:P.underlying e with
    | none=>simp[rV,Mx]at hc
    | some d =>
     simp[rV,Mx]at hc;subst hc
     simp only[al]at he
     generalize x.ev R=tx at hx he
     cases tx<;>(try simp only[reduceCtorEq]at he)
     cases hn:cq (i.ev R)with
     | none=>simp[hn]at he
     | some m =>
      simp only[hn]at he
      split at he
      ·rename_i iu
       simp only[Option.map_eq_some_iff,Prod.mk.injEq]at he
       obtain⟨t',h1,rfl,rfl⟩:=he
       exact HT hu Mx rV rfl h hx hi hn iu.1 iu.2 h1
      ·cases he
  ·-- IH address
   rename_i n e
   cases rV:P.info? e with
   | none=>simp[rV]at hc
   | some ei =>
    simp[rV]at hc;subst hc
    simp only[al]at he
    generalize x.ev R=tx at hx he
    cases tx<;>(try simp only[reduceCtorEq]at he)
    cases hn:cq (i.ev R)with
    | none=>simp[hn]at he
    | some m =>
     simp only[hn]at he
     split at he
     ·rename_i au
      simp at he
      obtain⟨rfl,rfl⟩:=he
      exact HR hu rV h hx hi hn au
     ·cases he
theorem oC {x:Option Operand}{y:Option X}(h:jD x=some y)(hv:RV g w R ρ x.toList):OV g w R y (x.map ρ):=by
 cases x with
 | none=>simp[jD]at h;subst h;trivial
 | some x =>
  simp only[jD,Option.map_eq_some_iff]at h
  obtain⟨y',h1,rfl⟩:=h
  exact hv x (by simp) y' h1
theorem Bh {ty:TypeId}{v:Value}{x:X}{lo hi mx:Option X}{kv mU My:Option Value}{b:Bo}(hc:ou P ty x lo hi mx=some b)(h:SR w0 g H w)(hx:VR g w (x.ev R) v)(n5:OV g w R lo kv)(zu:OV g w R hi mU)(PC:OV g w R mx My)
  (he:al R H b=some (t,H')):IE P w0 g H w (do pure (Next.value (←Instr.sliceAt ty v kv mU My))) t H':=by
 refine b7.mW ?_
 unfold ou at hc
 cases hu:P.underlying ty with
 | none=>simp[hu]at hc
 | some d =>
  cases d<;>simp only[hu]at hc<;>(try (cases hc;done))
  ·-- string
   cases mx with
   | some _=>simp at hc
   | none =>
    cases My with
    | some _=>exact PC.elim
    | none =>
     simp at hc;subst hc
     simp only[al]at he
     generalize x.ev R=tx at hx he
     cases tx<;>(try simp only[reduceCtorEq]at he)
     rename_i s
     cases hl:gh R 0 lo with
     | none=>simp[hl]at he
     | some l =>
      cases hh:gh R s.size hi with
      | none=>simp[hl,hh]at he
      | some r =>
       simp only[hl,hh]at he
       split at he
       ·rename_i iu
        simp at he
        obtain⟨rfl,rfl⟩:=he
        exact HU hu h hx n5 zu hl hh iu.1 iu.2
       ·cases he
  ·-- slice
   rename_i e
   cases rV:P.info? e with
   | none=>simp[rV]at hc
   | some ei =>
    simp only[rV]at hc
    split at hc
    ·cases hc
    ·rename_i hmh
     simp at hc;subst hc
     simp only[al]at he
     generalize x.ev R=tx at hx he
     cases tx<;>(try simp only[reduceCtorEq]at he)
     ·rename_i k es
      cases hl:gh R 0 lo with
      | none=>simp[hl]at he
      | some l =>
       cases hh:gh R es.length hi with
       | none=>simp[hl,hh]at he
       | some r =>
        simp only[hl,hh]at he
        cases mx with
        | none =>
         cases My with
         | some _=>exact PC.elim
         | none =>
          simp only at he
          split at he
          ·rename_i iu
           simp at he
           obtain⟨rfl,rfl⟩:=he
           exact HV hu rV h hx n5 zu hl hh iu.1 iu.2.1 iu.2.2
          ·cases he
        | some m =>
         cases My with
         | none=>exact PC.elim
         | some vm =>
          cases hi with
          | none=>simp at hmh
          | some hi =>
           cases mU with
           | none=>exact zu.elim
           | some vh =>
            simp only at he
            cases hm:cq (m.ev R)with
            | none=>simp[hm]at he
            | some m' =>
             simp only[hm]at he
             split at he
             ·rename_i iu
              simp only[Option.some.injEq,Prod.mk.injEq]at he
              obtain⟨rfl,rfl⟩:=he
              exact CX hu rV h hx n5 zu PC hl hh hm iu.1 iu.2.1 iu.2.2.1 iu.2.2.2
             ·cases he
     ·rename_i bb off len n'
      cases hl:gh R 0 lo with
      | none=>simp[hl]at he
      | some l =>
       cases hh:gh R len hi with
       | none=>simp[hl,hh]at he
       | some r =>
        simp only[hl,hh]at he
        cases mx with
        | some _=>simp at he
        | none =>
         cases My with
         | some _=>exact PC.elim
         | none =>
          simp only at he
          split at he
          ·rename_i iu
           obtain⟨rfl,h1,h2⟩:=iu
           simp only[Option.some.injEq,Prod.mk.injEq]at he
           obtain⟨rfl,rfl⟩:=he
           exact CY hu rV h hx n5 zu hl hh h1 h2
          ·cases he
     ·rename_i bb off len n' cc
      cases hl:gh R 0 lo with
      | none=>simp[hl]at he
      | some l =>
       cases hh:gh R len hi with
       | none=>simp[hl,hh]at he
       | some r =>
        simp only[hl,hh]at he
        cases mx with
        | some _=>simp at he
        | none =>
         cases My with
         | some _=>exact PC.elim
         | none =>
          simp only at he
          split at he
          ·rename_i iu
           obtain⟨rfl,h1,h2⟩:=iu
           simp only[Option.some.injEq,Prod.mk.injEq]at he
           obtain⟨rfl,rfl⟩:=he
           exact CZ hu rV h hx n5 zu hl hh h1 h2
          ·cases he
theorem Dh {src dst:TypeId}{v:Value}{x:X}{b:Bo}(hc:sH P src dst x=some b)(h:SR w0 g H w)(hx:VR g w (x.ev R) v)(he:al R H b=some (t,H')):IE P w0 g H w (do pure (Next.value (←convert src dst v))) t H':=by
 refine b7.mW ?_
 unfold sH at hc
 cases hs:P.underlying src with
 | none=>simp[hs]at hc
 | some ds =>
  cases hd:P.underlying dst with
  | none=>simp[hs,hd]at hc
  | some dd =>
   rw[hs,hd]at hc
   cases ds<;>cases dd<;>simp only[reduceCtorEq]at hc
   ·rename_i k0 k
    simp at hc;subst hc
    simp only[al]at he
    generalize x.ev R=tx at hx he
    cases tx<;>simp at he
    obtain⟨rfl,rfl⟩:=he
    exact HL hs hd h hx
   ·rename_i e
    cases hu:P.underlying e with
    | none=>simp[hu]at hc
    | some d =>
     have QA:d=.int .u8∧b=.AM x:=by
      rw[hu]at hc
      cases d with
      | int k=>cases k<;>simp at hc;exact⟨rfl,hc.symm⟩
      | _=>simp at hc
     obtain⟨rfl,rfl⟩:=QA
     simp only[al]at he
     cases ib:bK H 1 (x.ev R)with
     | none=>simp[ib]at he
     | some es =>
      have KL:∀s,x.ev R≠.str s:=by
       intro s e;simp only[e]at he;split at he<;>cases he
      have Co:(bytesOf es).map (fun l=>(T.str ⟨l.toArray⟩,H))=some (t,H'):=by
       simp only[ib]at he
       generalize x.ev R=tx at he KL
       cases tx<;>first|exact he|exact absurd rfl (KL _)
      simp only[Option.map_eq_some_iff,Prod.mk.injEq]at Co
      obtain⟨l,h1,rfl,rfl⟩:=Co
      exact HN hs hu hd h hx ib KL h1
end
end Go.Rmp
end
