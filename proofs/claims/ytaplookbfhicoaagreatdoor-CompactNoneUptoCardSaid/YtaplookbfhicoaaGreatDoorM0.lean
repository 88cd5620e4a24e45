/- Part of a proof of a law of this seat: the machine of plain values, its simulation, and the contracts of the functions that the law reaches. Conditions: none beyond the given row. -/
import Derived.OrdersIn
import Derived.RangeFuncIn
import Derived.Laws.Sem
import Derived.Laws.World
import Derived.Laws.IdiomCopy
import Derived.ChangeKeysEq
import Derived.Laws.StructEq
import Derived.Laws.BytesString
import Derived.IntWalk
import Derived.Lib.AppendZerosOnto
import Derived.Lib.Overlaps
import Derived.Maps.RangeRun
import Derived.RangeFuncRecord
open Int renaming reduceLT → q3, reduceLE → q4, reduceBEq → q5, reduceBNe → q6, reduceEq → q7
open Nat renaming reduceAdd → q8, reduceLeDiff → q9, reduceLT → j1, reduceEqDiff → j2
set_option linter.unusedSimpArgs false
set_option linter.unusedVariables false
set_option linter.unnecessarySimpa false
set_option maxHeartbeats 4000000
section
namespace Go.Rmp
inductive SK where
 | nil|arg|full|own (t e:Nat)
 deriving DecidableEq
inductive T where
 | int (k:IntKind) (n:Int)
 | bool (b:Bool)
 | str (s:ByteArray)
 | aF
 | ptr (b off:Nat)
 | cD (cs:List T)
 | b7
 | map (b:Nat)
 | sl (k:SK) (es:List (List T))
 | aQ (b off len n:Nat)
 | bT (b off len n c:Nat)
 | di
 | fn (f:Nat) (er:List T)
 | gY (b:Nat)
 | cE
 | agg (cs:List T)
 | bg (vs:List T)
abbrev ai:=Nat→T
def av:T:=.bg []
def T.one:T→Bool
 | .agg _ | .bg _=>false
 | _=>true
def T.cells?:T→Option (List T)
 | .agg cs=>some cs
 | .bg _=>none
 | v=>some [v]
def T.erase:T→T
 | .sl _ es=>.sl .arg es
 | v=>v
inductive X where
 | r (t:Nat)
 | c (v:T)
def X.ev (R:ai):X→T
 | .r t=>R t
 | .c v=>v
def jc (R:ai)(d:Nat)(v:T):ai:=fun t=>if t=d then v else R t
def ay (R:ai)(d:Option Nat)(v:T):ai:=match d with|some d=>jc R d v|none=>R
inductive tH where|ptr|slice|map|func
 deriving DecidableEq
inductive Lc where|str|sl|map
inductive kP where|int|str|bool
 deriving DecidableEq
inductive KT where
 | sc (t:kP)
 | st (l:List kP)
def T.mL:kP→T→Bool
 | .int,.int _ _ | .str,.str _ | .bool,.bool _=>true
 | _,_=>false
def hasAll:List kP→List T→Bool
 | [],[]=>true
 | t :: ts,v :: vs=>v.mL t&&hasAll ts vs
 | _,_=>false
def T.dt:KT→T→Bool
 | .sc t,v=>v.mL t
 | .st l,.agg cs=>hasAll l cs
 | _,_=>false
inductive Bo where
 | al (x:X)
 | pick (c a b:X)
 | bin (op:BinOp) (x y:X)
 | eM (neg:Bool) (c:tH) (x y:X)
 | beq (neg:Bool) (x y:X)
 | eqs (neg:Bool) (ks:List kP) (x y:X)
 | un (op:UnOp) (x:X)
 | fD (k:IntKind) (x:X)
 | vX (x:X)
 /-- a text's bytes;or (m) a literal's bytes,told to be a text's -/
 | vY (m:Bool) (x:X)
 | len (k:Lc) (x:X)
 | alloc (z:List T)
 | box (x:X)
 | build (z:List T) (ps:List (Nat×Nat×X))
 | kQ (n:Nat) (z:List T) (ps:List (Nat×X))
 | ld (n:Nat) (ag:Bool) (x:X)
 | st (n:Nat) (a v:X)
 | nE (off:Nat) (x:X)
 | zi (off n:Nat) (ag:Bool) (x:X)
 | jd (st:Nat) (x i:X)
 | vZ (n st:Nat) (x i:X)
 | zj (x i:X)
 | B5 (n st:Nat) (ag:Bool) (x i:X)
 | xn (x:X) (lo hi:Option X)
 | kR (st:Nat) (x:X) (lo hi mx:Option X)
 | nF
 | gZ (kt:KT) (z:T) (ok:Bool) (m k:X)
 | oN (kt:KT) (m k v:X)
 | del (kt:KT) (m k:X)
 | app (st bytes:Nat) (mu:Bool) (x y:X)
 | B6 (mu:Bool) (bytes:Nat) (z:List T) (l c:X)
 | v3 (f:Nat) (er:List X)
 | ext (i:Nat) (x:X)
 | mn (x y:X)
 | mx (x y:X)
 | ke (x:X)
 | cap (x:X)
 | tI (n:Nat) (x y:X)
 | yV (n:Nat) (x y:X)
 | v5 (x:X)
 | gO (x:X)
 | v7 (x:X)
 | zk (n:Nat) (z:List T) (x:X)
 | zl (n bytes:Nat) (z:List T) (x k:X)
 | xo (n:Nat) (z:List T) (ps:List (Nat×X))
 | B7 (n:Nat) (x hi:X)
abbrev Gd:=Option (Nat×Bool)
structure Rd where
 d:Nat
 op:Bo
 g:Gd
inductive tn where
 | b (op:Bo)
 | call (f:Nat) (as:List X)
 | a6 (f:X) (as:List X)
structure O where
 d:Option Nat
 op:tn
 g:Gd
 gP:List Rd
inductive C where
 | skip
 | ops (l:List O)
 | seq (a b:C)
 | cond (x:X) (a b:C)
 | block (id:Nat) (a:C)
 | loop (a:C)
 | exit (id:Nat)
 | ret
 | bo (n:Nat) (x:X) (ps:List Nat) (bf body:C)
inductive Ex where
 | normal|exit (id:Nat)|ret
inductive pT where
 | ready|busy|done
 deriving DecidableEq
inductive B where
 | cells (cs:List T)
 | map (es:List (T×T))
 | tok (e:Nat)
 | loop (st:pT) (bz:Option Ex) (n:Nat) (R:Nat→T) (ps:List Nat) (bf body:C)
 | kX
 | dead
 /-- a map that is ranged over: the places still to come;the range's block;the place last told -/
 | cn (es:List (T×T)) (ix:List Nat) (bi:Nat) (cur:Option Nat)
 | pK (b:Nat)
 /-- written cells that stand still from here on: they may be read -/
 | fz (cs:List T)
 /-- a row of bytes out of a literal,not yet told to be a text's -/
 | lit (cs:List T)
abbrev aa:=List B
def dj (a b:ByteArray):Bool:=a.toList==b.toList
def strLt (a b:ByteArray):Bool:=Op.bytesLess a.toList b.toList
def aO (op:BinOp):T→T→Option T
 | .int k a,.int k' b =>
  match op with
  | .shl=>if b<0 then none else some (.int k (k.wrap (a*2^(min b.toNat k.bits))))
  | .shr=>if b<0 then none else some (.int k (a.fdiv (2^(min b.toNat k.bits))))
  | op =>
   if k=k' then
    match op with
    | .add=>some (.int k (k.wrap (a+b)))
    | .sub=>some (.int k (k.wrap (a-b)))
    | .mul=>some (.int k (k.wrap (a*b)))
    | .quo=>if b=0 then none else some (.int k (k.wrap (a.tdiv b)))
    | .rem=>if b=0 then none else some (.int k (a.tmod b))
    | .and=>some (.int k (k.wrap (BitVec.ofInt k.bits a &&& BitVec.ofInt k.bits b).toNat))
    | .or=>some (.int k (k.wrap (BitVec.ofInt k.bits a ||| BitVec.ofInt k.bits b).toNat))
    | .xor=>some (.int k (k.wrap (BitVec.ofInt k.bits a ^^^ BitVec.ofInt k.bits b).toNat))
    | .andNot=>some (.int k (k.wrap (BitVec.ofInt k.bits a &&& ~~~ BitVec.ofInt k.bits b).toNat))
    | .eql=>some (.bool (a==b))
    | .neq=>some (.bool (a != b))
    | .lss=>some (.bool (a<b))
    | .leq=>some (.bool (a≤b))
    | .gtr=>some (.bool (a>b))
    | .geq=>some (.bool (a≥b))
    | _=>none
   else none
 | .str a,.str b =>
  match op with
  | .add=>if a.size+b.size≤9223372036854775807 then some (.str (a++b))else none
  | .eql=>some (.bool (dj a b))
  | .neq=>some (.bool (!dj a b))
  | .lss=>some (.bool (strLt a b))
  | .leq=>some (.bool (strLt a b||dj a b))
  | .gtr=>some (.bool (!(strLt a b||dj a b)))
  | .geq=>some (.bool (!strLt a b))
  | _=>none
 | _,_=>none
def yW (op:UnOp):T→Option T
 | .int k n =>
  match op with
  | .neg=>some (.int k (k.wrap (0-n)))
  | .xor=>some (.int k (k.wrap (BitVec.ofInt k.bits (if k.signed then -1 else k.max) ^^^ BitVec.ofInt k.bits n).toNat))
  | _=>none
 | .bool b=>match op with | .not=>some (.bool !b)|_=>none
 | _=>none
def kY:tH→T→Option Bool
 | .ptr,.aF=>some true
 | .ptr,.ptr _ _ | .ptr,.cD _=>some false
 | .slice,.sl .nil []=>some true
 | .slice,.sl .full _ | .slice,.sl (.own _ _) _ | .slice,.sl .arg (_ :: _) | .slice,.aQ _ _ _ _=>some false
 | .map,.b7=>some true
 | .map,.map _=>some false
 | .func,.di=>some true
 | .func,.fn _ _=>some false
 | _,_=>none
def kZ (c:tH)(x y:T):Option Bool :=
 match kY c x,kY c y with
 | some true,some b=>some b
 | some b,some true=>some b
 | _,_=>none
def dz:T→T→Option Bool
 | .int k a,.int k' b=>if k=k' then some (a==b)else none
 | .str a,.str b=>some (dj a b)
 | .bool a,.bool b=>some (a==b)
 | _,_=>none
def aM:List T→List T→Option Bool
 | [],[]=>some true
 | a :: as,b :: bs=>match dz a b,aM as bs with
  | some x,some y=>some (x&&y)
  | _,_=>none
 | _,_=>none
def dk:T→T→Option Bool
 | .agg as,.agg bs=>aM as bs
 | a,b=>dz a b
def bl (k:T):List (T×T)→Option (Option Nat)
 | []=>some none
 | e :: es=>match dk k e.1 with
  | some true=>some (some 0)
  | some false=>(bl k es).map (Option.map (·+1))
  | none=>none
def cp (H:aa):T→Option (List (T×T))
 | .b7=>some []
 | .map b=>match H[b]? with|some (.map es)=>some es|some (.cn es _ _ _)=>some es|_=>none
 | _=>none
def eX (cells:List T):List (Nat×List T)→Option (List T)
 | []=>some cells
 | (off,vs) :: rest=>if off+vs.length≤cells.length then eX (cells.take off++vs++cells.drop (off+vs.length)) rest else none
def bU (R:ai):List (Nat×Nat×X)→Option (List (Nat×List T))
 | []=>some []
 | (off,n,x) :: rest=>match (x.ev R).cells?,bU R rest with
  | some cs,some l=>if cs.length=n then some ((off,cs) :: l)else none
  | _,_=>none
def dA (n:Nat)(es:List (List T))(R:ai):List (Nat×X)→Option (List (List T))
 | []=>some es
 | (i,x) :: rest=>match (x.ev R).cells? with
  | some cs=>if cs.length=n∧i<es.length then dA n (es.set i (cs.map T.erase)) R rest else none
  | none=>none
def dB (n:Nat)(es:List (List T))(R:ai):List (Nat×X)→Option (List (List T))
 | []=>some es
 | (i,x) :: rest=>match (x.ev R).cells? with
  | some cs=>if cs.length=n∧i<es.length then dB n (es.set i cs) R rest else none
  | none=>none
def gG (H:aa)(n:Nat):T→Option (List T)
 | .ptr b off=>match H[b]? with
  | some (.cells cs)=>if off+n≤cs.length then some ((cs.drop off).take n)else none
  | some (.fz cs)=>if off+n≤cs.length then some ((cs.drop off).take n)else none
  | _=>none
 | .cD cs=>if n≤cs.length then some (cs.take n)else none
 | _=>none
def valOf (ag:Bool)(cs:List T):Option T :=
 if ag then some (.agg cs)else match cs with | [v]=>some v|_=>none
def tJ (H:aa)(vs:List T):T→Option aa
 | .ptr b off=>match H[b]? with
  | some (.cells cs)=>if off+vs.length≤cs.length then some (H.set b (.cells (cs.take off++vs++cs.drop (off+vs.length))))else none
  | _=>none
 | _=>none
def kf (off:Nat):T→Option T
 | .ptr b o=>some (.ptr b (o+off))
 | .cD cs=>if off<cs.length then some (.cD (cs.drop off))else none
 | _=>none
def tK (n i:Nat):T→Option T
 | .sl _ es=>match es[i]? with
  | some c=>if c.length=n∧n≠0 then some (.cD c)else none
  | none=>none
 | .aQ b off len n'=>if n'=n∧i<len∧n≠0 then some (.ptr b (off+i*n))else none
 | _=>none
def aJ (H:aa)(n:Nat):T→Option (List (List T))
 | .sl _ es=>if es.all (·.length==n)then some es else none
 | .aQ b off len n'=>match H[b]? with
  | some (.cells cs)=>if n'=n∧off+len*n≤cs.length then some ((List.range len).map fun i=>(cs.drop (off+i*n)).take n)else none
  | some (.fz cs)=>if n'=n∧off+len*n≤cs.length then some ((List.range len).map fun i=>(cs.drop (off+i*n)).take n)else none
  | _=>none
 | .str s=>if n=1 then some (s.data.toList.map fun c=>[.int .u8 c.toNat])else none
 | _=>none
def bytesOf:List (List T)→Option (List UInt8)
 | []=>some []
 | [.int .u8 n] :: es=>(bytesOf es).map (UInt8.ofNat n.toNat :: ·)
 | _=>none
def dC (H:aa):Lc→T→Option Nat
 | .str,.str s=>some s.size
 | .sl,.sl _ es=>some es.length
 | .sl,.aQ _ _ len _=>some len
 | .sl,.bT _ _ len _ _=>some len
 | .map,.b7=>some 0
 | .map,.map b=>match H[b]? with
  | some (.map es)=>some es.length
  | some (.cn es _ _ _)=>some es.length
  | _=>none
 | _,_=>none
def aR:T→Option Nat
 | .int _ n=>if 0≤n then some n.toNat else none
 | _=>none
def cU (R:ai)(d:Nat):Option X→Option Nat
 | none=>some d
 | some x=>aR (x.ev R)
def SK.cut (k:SK)(len lo hi:Nat):SK :=
 match k with
 | .nil=>.nil
 | .arg=>.arg
 | .full=>if hi=len then .full else .arg
 | .own t e=>if hi=len∧lo<len then .own t e else .arg
def dM (dN bytes:Nat):Bool:=(dN+dN/4+512)*bytes≤281474976710656
def mM (H:aa)(bytes:Nat)(k:SK)(es new:List (List T)):Option (T×aa) :=
 match new with
 | []=>some (.sl k es,H)
 | _ =>
  if dM (es.length+new.length) bytes then
   match k with
   | .nil | .full=>some (.sl (.own H.length (es.length+new.length)) (es++new.map (·.map T.erase)),H++[.tok (es.length+new.length)])
   | .own t e=>match H[t]? with
    | some (.tok e')=>if e=e' then some (.sl (.own t (e+new.length)) (es++new.map (·.map T.erase)),H.set t (.tok (e+new.length)))else none
    | _=>none
   | .arg=>none
  else none
def pU:T→Bool
 | .sl _ _ | .aQ _ _ _ _=>true
 | _=>false
def oO (H:aa)(n bytes:Nat)(x:T)(new:List (List T)):Option (T×aa) :=
 match new with
 | []=>if pU x then some (x,H)else none
 | _ =>
  match x with
  | .sl .nil es | .sl .full es =>
   if dM (es.length+new.length) bytes∧es=[]then some (.aQ H.length 0 new.length n,H++[.cells new.flatten])else none
  | .aQ b off len n'=>match H[b]? with
   | some (.cells cs) =>
    if n'=n∧off=0∧len*n=cs.length∧dM (len+new.length) bytes then
     some (.aQ H.length 0 (len+new.length) n,H.set b .dead++[.cells (cs++new.flatten)])else none
   | _=>none
  | _=>none
def yX:T→T
 | .bT b off len n _=>.aQ b off len n
 | t=>t
def fg (H:aa)(n k:Nat):T→Option (List (List T))
 | .aQ b off _ n' | .bT b off _ n' _=>match H[b]? with
  | some (.cells cs)=>if n'=n∧off+k*n≤cs.length then some ((List.range k).map fun i=>(cs.drop (off+i*n)).take n)else none
  | _=>none
 | _=>none
def tL:T→Option Nat
 | .aQ _ _ len _ | .bT _ _ len _ _=>some len
 | _=>none
def pV (H:aa)(n:Nat)(x y:T):Option (T×aa) :=
 match x,tL y with
 | .aQ b off len n',some ly | .bT b off len n' _,some ly =>
  match H[b]?,fg H n (min ly len) y with
  | some (.cells cs),some new =>
   if n'=n∧n≠0∧off≤cs.length then some (.int .i64 (min ly len:Nat),H.set b (.cells (cs.take off++new.flatten++cs.drop (off+(min ly len)*n))))else none
  | _,_=>none
 | _,_=>none
def pW (H:aa)(b:Nat):Nat:=match H[b]? with
 | some (.cells cs)=>cs.length
 | some (.fz cs)=>cs.length
 | _=>0
def tM (H:aa)(n bytes:Nat)(z:List T)(x:T)(k:Nat):Option (T×aa) :=
 match x with
 | .bT b off len n' c=>match fg H n len x with
  | some es=>if n'=n∧n≠0∧0<k∧c<len+k∧z.length=n∧dM (len+k) bytes then some (.aQ H.length 0 (len+k) n,H++[.cells (es.flatten++(List.replicate k z).flatten)])else none
  | none=>none
 | _=>none
def pX (H:aa)(n:Nat)(x y:T):Option (T×aa) :=
 match x,y with
 | .aQ bv _ _ n1,.bT b _ len n2 _ =>
  match H[bv]?,H[b]? with
  | some (.cells _),some (.cells cs)=>if bv≠b∧n1=n∧n2=n∧0<cs.length then some (.bool false,H)else none
  | _,_=>none
 | _,_=>none
def v8 (R:ai)(l:List X):List T:=l.map (X.ev R)
def CI (n:Nat):List T→Bool
 | [.int .u8 _]=>n != 0
 | _=>false
def oP (n:Nat)(z cs:List T):B:=if CI n z then .lit cs else .cells cs
def ae (R:ai)(H:aa):Bo→Option (T×aa)
 | .al x=>some (x.ev R,H)
 | .pick c a b=>match c.ev R with
  | .bool t=>some (if t then a.ev R else b.ev R,H)
  | _=>none
 | .bin op x y=>(aO op (x.ev R) (y.ev R)).map (·,H)
 | .eM neg c x y=>(kZ c (x.ev R) (y.ev R)).map fun b=>(.bool (if neg then !b else b),H)
 | .beq neg x y=>match x.ev R,y.ev R with
  | .bool a,.bool b=>some (.bool (if neg then !(a==b)else a==b),H)
  | _,_=>none
 | .eqs neg ks x y=>match x.ev R,y.ev R with
  | .agg as,.agg bs=>if hasAll ks as then(aM as bs).map fun b=>(.bool (if neg then !b else b),H)else none
  | _,_=>none
 | .un op x=>(yW op (x.ev R)).map (·,H)
 | .fD k x=>match x.ev R with
  | .int _ n=>some (.int k (k.wrap n),H)
  | _=>none
 | .vX x=>match aJ H 1 (x.ev R)with
  | some es=>match x.ev R with
   | .str _=>none
   | _=>(bytesOf es).map fun l=>(.str ⟨l.toArray⟩,H)
  | none=>none
 | .vY m x=>match x.ev R with
  | .aQ b off len n=>match H[b]? with
   | some (.lit cs)=>if m=true∧off=0∧n=1∧len=cs.length then some (.sl .arg (cs.map fun c=>[c]),H.set b .dead)else none
   | _=>none
  | .str s=>if m=false∧s.size≤16777216 then some (.sl .arg (s.data.toList.map fun c=>[.int .u8 c.toNat]),H)else none
  | _=>none
 | .len k x=>(dC H k (x.ev R)).map fun (n:Nat)=>(T.int .i64 (n:Int),H)
 | .alloc z=>some (.ptr H.length 0,H++[.cells z])
 | .box x=>(x.ev R).cells?.map fun cs=>(.ptr H.length 0,H++[.cells cs])
 | .build z ps=>match bU R ps with
  | some l=>(eX z l).map fun cs=>(.agg cs,H)
  | none=>none
 | .kQ n z ps=>(dA z.length (List.replicate n z) R ps).map fun es=>(.sl .full es,H)
 | .ld n ag x=>match gG H n (x.ev R)with
  | some cs=>(valOf ag cs).map (·,H)
  | none=>none
 | .st n a v=>match (v.ev R).cells? with
  | some vs=>if vs.length=n then(tJ H vs (a.ev R)).map (av,·)else none
  | none=>none
 | .nE off x=>(kf off (x.ev R)).map (·,H)
 | .zi off n ag x=>match x.ev R with
  | .agg cs=>if off+n≤cs.length then(valOf ag ((cs.drop off).take n)).map (·,H)else none
  | _=>none
 | .jd n x i=>(aR (i.ev R)).bind fun i=>(tK n i (x.ev R)).map (·,H)
 | .vZ len n x i=>match x.ev R,aR (i.ev R)with
  | .ptr b off,some i=>if i<len then some (.ptr b (off+i*n),H)else none
  | _,_=>none
 | .zj x i=>match x.ev R,aR (i.ev R)with
  | .str s,some i=>(s.data[i]?).map fun c=>(.int .u8 c.toNat,H)
  | _,_=>none
 | .B5 len n ag x i=>match x.ev R,aR (i.ev R)with
  | .agg cs,some i=>if i<len∧i*n+n≤cs.length then(valOf ag ((cs.drop (i*n)).take n)).map (·,H)else none
  | _,_=>none
 | .xn x lo hi=>match x.ev R with
  | .str s=>match cU R 0 lo,cU R s.size hi with
   | some l,some h=>if l≤h∧h≤s.size then some (.str (s.extract l h),H)else none
   | _,_=>none
  | _=>none
 | .kR n x lo hi mx=>match x.ev R with
  | .sl k es=>match cU R 0 lo,cU R es.length hi,mx with
   | some l,some h,none=>if l≤h∧h≤es.length∧es.all (·.length==n)then some (.sl (k.cut es.length l h) ((es.take h).drop l),H)else none
   | some l,some h,some m=>match aR (m.ev R)with
    | some m =>
     if l≤h∧h≤m∧m≤es.length∧es.all (·.length==n)then
      some (.sl (if k=.nil then .nil else if es=[]∧k=.arg then .arg else if h=m then .full else .arg) ((es.take h).drop l),H)else none
    | none=>none
   | _,_,_=>none
  | .aQ b off len n'=>match cU R 0 lo,cU R len hi,mx with
   | some l,some h,none =>
    if n'=n∧l≤h∧h≤len then some (if l=h then(if l=0 then .aQ b off 0 n else .sl .arg [])else .aQ b (off+l*n) (h-l) n,H)else none
   | _,_,_=>none
  | .bT b off len n' c=>match cU R 0 lo,cU R len hi,mx with
   | some l,some h,none =>
    if n'=n∧l≤h∧h≤c then some (if l<c∨l=0 then .bT b (off+l*n) (h-l) n (c-l)else .sl .arg [],H)else none
   | _,_,_=>none
  | _=>none
 | .nF=>some (.map H.length,H++[.map []])
 | .gZ kt z ok m k =>
  if (k.ev R).dt kt then
   match cp H (m.ev R)with
   | some es=>match bl (k.ev R) es with
    | some (some i)=>match es[i]? with
     | some e=>some (if ok then .bg [e.2,.bool true]else e.2,H)
     | none=>none
    | some none=>some (if ok then .bg [z,.bool false]else z,H)
    | none=>none
   | none=>none
  else none
 | .oN kt m k v=>match m.ev R with
  | .map b=>if (k.ev R).dt kt then match H[b]? with
   | some (.map es)=>match bl (k.ev R) es with
    | some (some i)=>some (av,H.set b (.map (es.set i (k.ev R,v.ev R))))
    | some none=>some (av,H.set b (.map (es++[(k.ev R,v.ev R)])))
    | none=>none
   | _=>none else none
  | _=>none
 | .del kt m k=>match m.ev R with
  | .map b=>if (k.ev R).dt kt then match H[b]? with
   | some (.map es)=>match bl (k.ev R) es with
    | some (some i)=>some (.bg [],H.set b (.map (es.eraseIdx i)))
    | some none=>some (.bg [],H)
    | none=>none
   | _=>none else none
  | _=>none
 | .app n bytes mu x y=>match aJ H n (y.ev R)with
  | some new=>if mu then oO H n bytes (yX (x.ev R)) new else match x.ev R with
   | .sl k es=>if es.all (·.length==n)then mM H bytes k es new else none
   | _=>none
  | none=>none
 | .B6 mu bytes z l c=>match aR (l.ev R),aR (c.ev R)with
  | some l,some c =>
   if l≤c∧c*bytes≤281474976710656∧c≤9223372036854775807 then
    if mu then some (.aQ H.length 0 l z.length,H++[.cells (List.replicate l z).flatten])
    else if l=0 then some (.sl .arg [],H)else some (.sl (.own H.length l) (List.replicate l z),H++[.tok l])
   else none
  | _,_=>none
 | .v3 f er=>some (.fn f (v8 R er),H)
 | .ext i x=>match x.ev R with
  | .bg vs=>(vs[i]?).map (·,H)
  | _=>none
 | .mn x y=>match x.ev R,y.ev R with
  | .int k a,.int _ b=>some (.int k (if b<a then b else a),H)
  | _,_=>none
 | .mx x y=>match x.ev R,y.ev R with
  | .int k a,.int _ b=>some (.int k (if b>a then b else a),H)
  | _,_=>none
 | .ke x=>match x.ev R with
  | .aF | .cE | .di=>none
  | v=>some (v,H)
 | .cap x=>match x.ev R with
  | .bT _ _ _ _ c=>some (.int .i64 (c:Nat),H)
  | _=>none
 | .tI n x y=>pV H n (x.ev R) (y.ev R)
 | .v5 x=>match x.ev R with
  | .map b=>(cp H (.map b)).map fun es=>(.ptr H.length 0,H.set b (.cn es (List.range es.length) H.length none)++[.pK b])
  | _=>none
 | .gO _=>none
 | .v7 x=>match x.ev R with
  | .ptr bi 0=>match H[bi]? with
   | some (.pK b)=>match H[b]? with
    | some (.cn es _ v9 (some c))=>if v9=bi then(es[c]?).map fun e=>(.bg [e.1,e.2],H)else none
    | _=>none
   | _=>none
  | _=>none
 | .zk n z x=>match x.ev R with
  | .aQ b off len n'=>match H[b]? with
   | some (.cells cs)=>if n'=n∧z.length=n∧off+len*n≤cs.length then some (av,H.set b (.cells (cs.take off++(List.replicate len z).flatten++cs.drop (off+len*n))))else none
   | _=>none
  | _=>none
 | .yV n x y=>pX H n (x.ev R) (y.ev R)
 | .zl n bytes z x k=>(aR (k.ev R)).bind fun k=>tM H n bytes z (x.ev R) k
 | .xo n z ps=>(dB z.length (List.replicate n z) R ps).bind fun es=>if z.length≠0 then some (.aQ H.length 0 n z.length,H++[oP n z es.flatten])else none
 | .B7 n x hi=>match x.ev R,aR (hi.ev R)with
  | .aQ b off _ n',some h=>if n'=n∧n≠0∧0<h∧off+h*n≤pW H b then some (.aQ b off h n,H)else none
  | _,_=>none
def au (R:ai):Gd→Bool
 | none=>true
 | some (t,b)=>match R t with
  | .bool c=>c==b
  | _=>false
inductive Rs where
 | t (r:Nat)
 | cl (r n:Nat) (ag:Bool)
structure Fn where
 n:Nat
 np:Nat
 res:List Rs
 body:C
structure Env where
 fn:Nat→Option Fn
 hJ:Nat→List T→aa→(T→aa→Prop)→Prop
 mono:∀f az H (Q Q':T→aa→Prop),hJ f az H Q→(∀t H',Q t H'→Q' t H')→hJ f az H Q'
inductive J where
 | code (c:C) (R:ai)
 | ops (l:List O) (R:ai)
 | call (f:Nat) (as:List T)
inductive Out where
 | ex (e:Ex) (R:ai)
 | val (v:T)
def C.ej:C→Bool
 | .seq a b | .cond _ a b=>a.ej||b.ej
 | .block _ a | .loop a=>a.ej
 | .bo _ _ _ _ _=>true
 | _=>false
def fE (R:ai):List Nat→List T→ai
 | p :: ps,v :: vs=>fE (jc R p v) ps vs
 | _,_=>R
def pY:T→Option Nat
 | .ptr b 0=>some b
 | _=>none
def hN:List T→Option (List Nat)
 | []=>some []
 | t :: ts=>match pY t,hN ts with
  | some b,some bs=>some (b :: bs)
  | _,_=>none
def marks:T→Option (List Nat)
 | .bg ts=>hN ts
 | _=>none
def fF (t:T)(b:Nat):T:=match t with
 | .bg ts=>.bg (.ptr b 0 :: ts)
 | t=>t
def kill (H:aa):List Nat→aa
 | []=>H
 | b :: bs=>kill (H.set b .dead) bs
def kg:Option Ex→Ex
 | none=>.normal
 | some e=>e
def dm (as:List T):ai:=fun t=>as.getD t av
def mN (R:ai)(H:aa):Rs→Option T
 | .t r=>some (R r)
 | .cl r n ag=>match gG H n (R r)with
  | some cs=>valOf ag cs
  | none=>none
def je (R:ai)(H:aa):List Rs→Option (List T)
 | []=>some []
 | x :: xs=>match mN R H x,je R H xs with
  | some v,some vs=>some (v :: vs)
  | _,_=>none
def oQ:List T→T
 | [v]=>v
 | l=>.bg l
def fG (R:ai)(H:aa)(l:List Rs):Option T:=(je R H l).map oQ
def cF (R:ai)(H:aa)(l:List Rd):Prop:=∀r∈l,au R r.g=true→ae R H r.op=some (R r.d,H)
def dP (cs:List T)(off len n:Nat):List (List T):=(List.range len).map fun i=>(cs.drop (off+i*n)).take n
def tN (b:Nat)(cs:List T):T→T
 | .aQ b' off len n=>if b'=b∧off+len*n≤cs.length then .sl .arg (dP cs off len n)else .aQ b' off len n
 | t=>t
def mO (b:Nat)(cs:List T):T→T
 | .bg vs=>.bg (vs.map (tN b cs))
 | t=>tN b cs t
def hO (b:Nat):T→Prop
 | .bg vs=>∃off len n,T.aQ b off len n∈vs
 | .aQ b' _ _ _=>b'=b
 | _=>False
inductive Vw (H:aa):T→T→Prop
 | refl (t:T):Vw H t t
 | ms {b off len n:Nat} {cs:List T} {es:List (List T)} (src:Nat→Nat→T) (hb:H[b]?=some (.fz cs)) (hl:es.length=len) (hn:∀c∈es,c.length=n) (hle:off+len*n≤cs.length)
   (h1:∀(i j:Nat) (c:List T) (t':T),es[i]?=some c→c[j]?=some t'→cs[off+i*n+j]?=some (src i j)∧t'.one=true) (h2:∀(i j:Nat) (c:List T) (t':T),es[i]?=some c→c[j]?=some t'→Vw H (src i j) t'):Vw H (.aQ b off len n) (.sl .arg es)
def FU (H:aa)(as:List T)(b:Nat):Prop:=∃(i b' off len n:Nat),as[i]?=some (.aQ b' off len n)∧(b'=b∨∃(cs:List T) (j xp xq n':Nat),(H[b']?=some (.cells cs)∨H[b']?=some (.fz cs))∧(cs[j]?:Option T)=some (.aQ b xp xq n'))
def fH (H:aa)(b bi:Nat)(es:List (T×T))(ix:List Nat)(t:T)(H':aa):Prop :=
 (ix=[]∧t=.bg [.bool false]∧H'=H.set b (.map es))∨∃i e,i∈ix∧es[i]?=some e∧t=.bg [.bool true,e.1,e.2]∧H'=H.set b (.cn es (ix.erase i) bi (some i))
inductive W (E:Env):J→aa→(Out→aa→Prop)→Prop
 | skip {R H Q} (h:Q (.ex .normal R) H):W E (.code .skip R) H Q
 | exit {id R H Q} (h:Q (.ex (.exit id) R) H):W E (.code (.exit id) R) H Q
 | ret {R H Q} (h:Q (.ex .ret R) H):W E (.code .ret R) H Q
 | zm {l R H Q} (h:W E (.ops l R) H Q):W E (.code (.ops l) R) H Q
 | seq {a b R H Q} (M:Out→aa→Prop) (h1:W E (.code a R) H M) (h2:∀R' H',M (.ex .normal R') H'→W E (.code b R') H' Q)
   (h3:∀o H',M o H'→(∀R',o≠.ex .normal R')→Q o H'):W E (.code (.seq a b) R) H Q
 | cond {x a b R H Q} (t:Bool) (hx:x.ev R=.bool t) (h:W E (.code (if t then a else b) R) H Q):W E (.code (.cond x a b) R) H Q
 | block {id a R H Q} (M:Out→aa→Prop) (h1:W E (.code a R) H M) (h2:∀R' H',M (.ex (.exit id) R') H'→Q (.ex .normal R') H')
   (h3:∀o H',M o H'→(∀R',o≠.ex (.exit id) R')→Q o H'):W E (.code (.block id a) R) H Q
 | loop {a R H Q} (M:Out→aa→Prop) (h1:W E (.code a R) H M) (h2:∀R' H',M (.ex .normal R') H'→W E (.code (.loop a) R') H' Q)
   (h3:∀o H',M o H'→(∀R',o≠.ex .normal R')→Q o H'):W E (.code (.loop a) R) H Q
 | nil {R H Q} (h:Q (.ex .normal R) H):W E (.ops [] R) H Q
 | no {o l R H Q} (hg:au R o.g=false) (h:W E (.ops l (ay R o.d av)) H Q):W E (.ops (o :: l) R) H Q
 | op {d b g s l R H Q v H'} (hg:au R g=true) (he:ae R H b=some (v,H')) (hs:cF R H' s) (h:W E (.ops l (ay R d v)) H' Q):W E (.ops (⟨d,.b b,g,s⟩ :: l) R) H Q
 | call {d f as g s l R H Q} (M:Out→aa→Prop) (hg:au R g=true) (h1:W E (.call f (as.map (X.ev R))) H M)
   (hs:∀v H',M (.val v) H'→cF R H' s) (h2:∀v H',M (.val v) H'→W E (.ops l (ay R d v)) H' Q):W E (.ops (⟨d,.call f as,g,s⟩ :: l) R) H Q
 | a6 {d x f cs as g s l R H Q} (M:Out→aa→Prop) (hg:au R g=true) (hf:x.ev R=.fn f cs) (h1:W E (.call f (as.map (X.ev R)++cs)) H M)
   (hs:∀v H',M (.val v) H'→cF R H' s) (h2:∀v H',M (.val v) H'→W E (.ops l (ay R d v)) H' Q):W E (.ops (⟨d,.a6 x as,g,s⟩ :: l) R) H Q
 | pZ {d neg c x y s l R H Q} (hs:s=[]) (h:∀b:Bool,W E (.ops l (ay R d (.bool b))) H Q) (hx:x.ev R=.sl .arg []) (hy:y.ev R=.sl .nil []) (hc:c=.slice) :
   W E (.ops (⟨d,.b (.eM neg c x y),none,s⟩ :: l) R) H Q
 | gY {d x b as g s l R H Q n R0 ps bf body} (M1 M:Out→aa→Prop) (hg:au R g=true) (hf:x.ev R=.gY b) (hb:H[b]?=some (.loop .ready none n R0 ps bf body)) (hn:as.length=ps.length)
   (h1:W E (.code bf (fE R0 ps (as.map (X.ev R)))) H M1) (p0:∀o H',M1 o H'→(∃R1,o=.ex .normal R1)∧H'[b]?=some (.loop .ready none n R0 ps bf body))
   (h2:∀R1 H1,M1 (.ex .normal R1) H1→W E (.code body R1) (H1.set b (.loop .busy none n R0 ps bf body)) M) (mP:∀o H',M o H'→H'[b]?=some (.loop .busy none n R0 ps bf body))
   (B8:∀R' H',M (.ex .normal R') H'→cF R (H'.set b (.loop .ready none n R0 ps bf body)) s)
   (h3:∀R' H',M (.ex .normal R') H'→W E (.ops l (ay R d (.bool true))) (H'.set b (.loop .ready none n R0 ps bf body)) Q)
   (B9:∀e R' H',M (.ex e R') H'→e≠.normal→cF R (H'.set b (.loop .done (some e) n R0 ps bf body)) s)
   (h4:∀e R' H',M (.ex e R') H'→e≠.normal→W E (.ops l (ay R d (.bool false))) (H'.set b (.loop .done (some e) n R0 ps bf body)) Q):W E (.ops (⟨d,.a6 x as,g,s⟩ :: l) R) H Q
 | bo {n x ps bf body R H Q f cs} (M:Out→aa→Prop) (hx:x.ev R=.fn f cs) (h1:W E (.call f (.gY (H.length+1) :: cs)) (H++[.kX,.loop .ready none n R ps bf body]) M)
   (h2:∀v H',M (.val v) H'→∃st bz,st≠.busy∧bz≠some .normal∧H'[H.length+1]?=some (.loop st bz n R ps bf body)∧Q (.ex (kg bz) (jc R n (fF (R n) H.length))) (H'.set (H.length+1) .dead)) :
   W E (.code (.bo n x ps bf body) R) H Q
 | Ca {f as H Q fn} (M:Out→aa→Prop) (hf:E.fn f=some fn) (hn:as.length=fn.np) (h1:W E (.code fn.body (dm as)) H M)
   (h2:∀o H',M o H'→∃R' bs,(o=.ex .normal R'∨o=.ex .ret R')∧marks (R' fn.n)=some bs∧bs.Nodup∧(∀b∈bs,H'[b]?=some .kX)∧∃v,fG R' (kill H' bs) fn.res=some v∧Q (.val v) (kill H' bs)):W E (.call f as) H Q
 | fn {f as H Q fn} (M:Out→aa→Prop) (hf:E.fn f=some fn) (hr:fn.body.ej=false) (hn:as.length=fn.np) (h1:W E (.code fn.body (dm as)) H M)
   (h2:∀o H',M o H'→∃R',(o=.ex .normal R'∨o=.ex .ret R')∧∃v,fG R' H' fn.res=some v∧Q (.val v) H'):W E (.call f as) H Q
 | xr {f as H Q b off len n} (i:Nat) (M:Out→aa→Prop) (hi:as[i]?=some (.aQ b off len n)) (h1:∀c,len≤c→W E (.call f (as.set i (.bT b off len n c))) H M) (h2:∀v H',M (.val v) H'→Q (.val (yX v)) H'):W E (.call f as) H Q
 | pL {f as H Q} (M:Out→aa→Prop) (h1:W E (.call f as) H M) (h2:∀o H',M o H'→∃v b cs,o=.val v∧hO b v∧H'[b]?=some (.cells cs)∧Q (.val (mO b cs v)) (H'.set b .dead)):W E (.call f as) H Q
 | gO {d x g s l R H Q b bi es ix cur} (hg:au R g=true) (hx:x.ev R=.ptr bi 0) (hb:H[b]?=some (.cn es ix bi cur))
   (hs:∀t H',fH H b bi es ix t H'→cF R H' s) (h:∀t H',fH H b bi es ix t H'→W E (.ops l (ay R d t)) H' Q):W E (.ops (⟨d,.b (.gO x),g,s⟩ :: l) R) H Q
 | shr {f as H Q} (M:Out→aa→Prop) (h1:W E (.call f as) H M) (h2:∀o H',M o H'→∃v b cs k,o=.val v∧hO b v∧H'[b]?=some (.cells cs)∧Q (.val v) (H'.set b (.cells (cs.take k)))):W E (.call f as) H Q
 | xu {f as H Q b off len n cs} (i:Nat) (hi:as[i]?=some (.aQ b off len n)) (hb:H[b]?=some (.cells cs)) (h:W E (.call f (as.map (mO b cs))) (H.set b .dead) Q):W E (.call f as) H Q
 | CJ {f as H Q b cs} (hk:FU H as b) (hb:H[b]?=some (.cells cs)) (h:W E (.call f as) (H.set b (.fz cs)) Q):W E (.call f as) H Q
 | vw {f as tp H Q} (hl:tp.length=as.length) (hv:∀(i:Nat) (t t':T),as[i]?=some t→tp[i]?=some t'→Vw H t t') (h:W E (.call f tp) H Q):W E (.call f as) H Q
 | Cb {d n bytes y g s l R H Q b len cs v H' t} (hg:au R g=true) (ht:R t=.aQ b 0 len n) (hb:H[b]?=some (.cells cs)) (hlen:len*n=cs.length) (h0:0<len)
   (he:ae (jc R t (.sl (.own H.length len) (dP cs 0 len n))) (H.set b (.fz cs)++[.tok len]) (.app n bytes false (.r t) y)=some (v,H')) (hs:cF R H' s) (h:W E (.ops l (ay R d v)) H' Q):W E (.ops (⟨d,.b (.app n bytes false (.r t) y),g,s⟩ :: l) R) H Q
 | hJ {f as H Q} (h:E.hJ f as H fun v H'=>Q (.val v) H'):W E (.call f as) H Q
inductive Ow where
 | free|cG|mut (b:Nat)|spare (t:Nat)
 deriving DecidableEq
structure Ctx where
 φ:Nat→Option (Nat×Nat×Nat)
 κ:Nat→Nat→Ow
 π:Nat→Nat→Option (Nat×Nat×Nat)
 ck:Nat→C→Code→Prop
def mF (g:Ctx)(w:World)(r o:Nat)(v:Value):Prop:=g.κ r o=.cG∧w.cell? ⟨r,o,none⟩=some v
def oS (g:Ctx)(k:SK)(r o len cap n:Nat):Prop :=
 match k with
 | .nil=>False
 | .arg=>True
 | .full=>cap=len
 | .own t e=>g.π t e=some (r,o+len*n,o+cap*n)∧0<len
inductive VR (g:Ctx)(w:World):T→Value→Prop
 | int (k n):VR g w (.int k n) (.int k n)
 | bool (b):VR g w (.bool b) (.bool b)
 | str (s):VR g w (.str s) (.string s)
 | aF:VR g w .aF (.pointer none)
 | ptr {b off r o q} (h:g.φ b=some (r,o,q)):VR g w (.ptr b off) (.pointer (some ⟨r,o+off,none⟩))
 | cD {cs r o} (a7:Nat→Value) (h1:∀(j:Nat) (t:T),cs[j]?=some t→t.one=true∧mF g w r (o+j) (a7 j)) (h2:∀(j:Nat) (t:T),cs[j]?=some t→VR g w t (a7 j)) :
   VR g w (.cD cs) (.pointer (some ⟨r,o,none⟩))
 | b7:VR g w .b7 (.map none)
 | map {b r o q} (h:g.φ b=some (r,o,q)):VR g w (.map b) (.map (some r))
 | slnil:VR g w (.sl .nil []) (.slice none 0 0)
 | dn (a:Option Addr):VR g w (.sl .arg []) (.slice a 0 0)
 | sl {k es r o cap n} (a7:Nat→Nat→Value) (hk:oS g k r o es.length cap n) (hc:es.length≤cap) (hn:∀c∈es,c.length=n)
   (h1:∀(i j:Nat) (c:List T) (t:T),es[i]?=some c→c[j]?=some t→t.one=true∧mF g w r (o+i*n+j) (a7 i j))
   (h2:∀(i j:Nat) (c:List T) (t:T),es[i]?=some c→c[j]?=some t→VR g w t (a7 i j)) :
   VR g w (.sl k es) (.slice (some ⟨r,o,none⟩) es.length cap)
 | aQ {b off len n r o q cap} (h:g.φ b=some (r,o,q)) (hc:len≤cap) (hq:o+off+cap*n=q):VR g w (.aQ b off len n) (.slice (some ⟨r,o+off,none⟩) len cap)
 | bT {b off len n r o q c} (h:g.φ b=some (r,o,q)) (hc:len≤c) (hq:o+off+c*n=q):VR g w (.bT b off len n c) (.slice (some ⟨r,o+off,none⟩) len c)
 | di:VR g w .di .nilFunc
 | fn {f er vs} (hl:vs.size=er.length) (h:∀(i:Nat) (t:T) (v:Value),er[i]?=some t→vs[i]?=some v→VR g w t v):VR g w (.fn f er) (.func (.func f) #[] vs)
 | gY {b r o q} (h:g.φ b=some (r,o,q)):VR g w (.gY b) (.func (.yield r) #[] #[])
 | cE:VR g w .cE .nilIface
 | agg {cs vs} (hl:vs.size=cs.length) (h1:∀t∈cs,t.one=true) (h2:∀(i:Nat) (t:T) (v:Value),cs[i]?=some t→vs[i]?=some v→VR g w t v):VR g w (.agg cs) (.agg vs)
 | bg {cs vs} (hl:vs.size=cs.length) (h2:∀(i:Nat) (t:T) (v:Value),cs[i]?=some t→vs[i]?=some v→VR g w t v):VR g w (.bg cs) (.tuple vs)
structure Le (g:Ctx)(w:World)(g':Ctx)(w':World):Prop where
 φ:∀b x,g.φ b=some x→g'.φ b=some x
 κ:∀r o,g.κ r o=.cG→g'.κ r o=.cG
 π:∀t e x,g.π t e=some x→g'.π t e=some x
 cell:∀r o v,g.κ r o=.cG→w.cell? ⟨r,o,none⟩=some v→w'.cell? ⟨r,o,none⟩=some v
 ck:g'.ck=g.ck
theorem Le.refl (g:Ctx)(w:World):Le g w g w:=⟨fun _ _ h=>h,fun _ _ h=>h,fun _ _ _ h=>h,fun _ _ _ _ h=>h,rfl⟩
theorem Le.trans {g g' zn:Ctx}{w w' zo:World}(h:Le g w g' w')(h':Le g' w' zn zo):Le g w zn zo :=
 ⟨fun b x e=>h'.φ b x (h.φ b x e),fun r o e=>h'.κ r o (h.κ r o e),fun t e x k=>h'.π t e x (h.π t e x k),fun r o v k e=>h'.cell r o v (h.κ r o k) (h.cell r o v k e),h'.ck.trans h.ck⟩
theorem mF.mono {g g':Ctx}{w w':World}(le:Le g w g' w'){r o:Nat}{v:Value}(h:mF g w r o v):mF g' w' r o v:=⟨le.κ _ _ h.1,le.cell _ _ _ h.1 h.2⟩
theorem oS.mono {g g':Ctx}{w w':World}(le:Le g w g' w'){k:SK}{r o len cap n:Nat}(h:oS g k r o len cap n):oS g' k r o len cap n:=by
 cases k with
 | nil=>exact h
 | arg=>exact h
 | full=>exact h
 | own t e=>exact⟨le.π _ _ _ h.1,h.2⟩
theorem VR.mono {g g':Ctx}{w w':World}(le:Le g w g' w'){t:T}{v:Value}(h:VR g w t v):VR g' w' t v:=by
 induction h with
 | int k n=>exact .int k n
 | bool b=>exact .bool b
 | str s=>exact .str s
 | aF=>exact .aF
 | ptr h=>exact .ptr (le.φ _ _ h)
 | cD a7 h1 _ ih=>exact .cD a7 (fun j t e=>⟨(h1 j t e).1,(h1 j t e).2.mono le⟩) ih
 | b7=>exact .b7
 | map h=>exact .map (le.φ _ _ h)
 | slnil=>exact .slnil
 | dn a=>exact .dn a
 | sl a7 hk hc hn h1 _ ih=>exact .sl a7 (hk.mono le) hc hn (fun i j c t a b=>⟨(h1 i j c t a b).1,(h1 i j c t a b).2.mono le⟩) ih
 | aQ h hc hq=>exact .aQ (le.φ _ _ h) hc hq
 | bT h hc hq=>exact .bT (le.φ _ _ h) hc hq
 | di=>exact .di
 | fn hl _ ih=>exact .fn hl ih
 | gY h=>exact .gY (le.φ _ _ h)
 | cE=>exact .cE
 | agg hl h1 _ ih=>exact .agg hl h1 ih
 | bg hl _ ih=>exact .bg hl ih
theorem VR.erase {g:Ctx}{w:World}{t:T}{v:Value}(h:VR g w t v):VR g w t.erase v:=by
 cases h with
 | sl a7 hk hc hn h1 h2=>exact .sl a7 trivial hc hn h1 h2
 | slnil=>exact .dn none
 | dn a=>exact .dn a
 | int k n=>exact .int k n
 | bool b=>exact .bool b
 | str s=>exact .str s
 | aF=>exact .aF
 | ptr h=>exact .ptr h
 | cD a7 h1 h2=>exact .cD a7 h1 h2
 | b7=>exact .b7
 | map h=>exact .map h
 | aQ h hc hq=>exact .aQ h hc hq
 | bT h hc hq=>exact .bT h hc hq
 | di=>exact .di
 | fn hl h=>exact .fn hl h
 | gY h=>exact .gY h
 | cE=>exact .cE
 | agg hl h1 h2=>exact .agg hl h1 h2
 | bg hl h2=>exact .bg hl h2
theorem oT (t:T):t.erase.one=t.one:=by cases t<;>rfl
theorem VR.dp {g:Ctx}{w:World}{t:T}{v:Value}(h:VR g w t v)(ho:t.one=true):v.oneCell'=true:=by
 cases h<;>simp_all [T.one,Value.oneCell']
def g5 (g:Ctx)(w:World)(b:Nat)(cs:List T)(r o q:Nat):Prop :=
 o+cs.length≤q∧(∀j,o≤j→j<q→g.κ r j=.mut b∧(∀j0,w.frozen? ⟨r,j0,none⟩=false)∧(w.cell? ⟨r,j,none⟩).isSome=true) ∧
 ∀(i:Nat) (t:T),cs[i]?=some t→t.one=true∧∃v,w.cell? ⟨r,o+i,none⟩=some v∧VR g w t v
def tO (g:Ctx)(w:World)(cs:List T)(r o q:Nat):Prop :=
 o+cs.length≤q∧∀(i:Nat) (t:T),cs[i]?=some t→t.one=true∧∃v,mF g w r (o+i) v∧VR g w t v
def bB (g:Ctx)(w:World)(es:List (T×T))(ah:Array MapEntry):Prop :=
 ah.size=es.length∧∀(i:Nat) (e:T×T) (m:MapEntry),es[i]?=some e→ah[i]?=some m→VR g w e.1 m.key∧VR g w e.2 m.val
def bV (ah:Array MapEntry)(clock:Nat):Prop:=(∀m∈ah.toList,m.born<clock)∧(ah.toList.map (·.born)).Nodup
def tP (ah:Array MapEntry)(seen:Array Nat)(ix:List Nat)(cur:Option Nat):Prop :=
 ix.Nodup∧(∀i,i∈ix↔∃m,ah[i]?=some m∧m.born∉seen)∧∀c,cur=some c→∃m,ah[c]?=some m∧seen.back?=some m.born
def zp (g:Ctx)(w:World)(t e:Nat):Prop :=
 ∃r p q,g.π t e=some (r,p,q)∧p≤q∧(∀j,p≤j→j<q→g.κ r j=.spare t∧(∀j0,w.frozen? ⟨r,j0,none⟩=false)∧(w.cell? ⟨r,j,none⟩).isSome=true)∧∀e',e<e'→g.π t e'=none
def pT.real:pT→LoopState
 | .ready=>.ready
 | .busy=>.busy
 | .done=>.done
def lg:Option Ex→Option Code
 | some .ret=>some .ret
 | some (.exit id)=>some (.exit id)
 | _=>none
def ki (g:Ctx)(w:World)(st:pT)(bz:Option Ex)(n:Nat)(R:Nat→T)(ps:List Nat)(bf body:C)(rec:Loop):Prop :=
 rec.state=st.real∧rec.pending=lg bz∧rec.params.toList=ps∧rec.tmps.size=n∧(∀t,t<n→VR g w (R t) (rec.tmps.getD t undef))∧(∀p∈ps,p<n)∧g.ck n bf rec.assign∧g.ck n body rec.body
def lh (g:Ctx)(w:World)(b:Nat):B→Prop
 | .cells cs=>∀r o q,g.φ b=some (r,o,q)→g5 g w b cs r o q
 | .map es=>∀r o q,g.φ b=some (r,o,q)→g.κ r 0=.mut b∧∃ah clock,w.heap[r]?=some (.map ah clock)∧bB g w es ah∧bV ah clock
 | .tok e=>zp g w b e
 | .loop st bz n R ps bf body=>∀r o q,g.φ b=some (r,o,q)→g.κ r 0=.mut b∧∃rec,w.heap[r]?=some (.loop rec)∧ki g w st bz n R ps bf body rec
 | .kX=>∀r o q,g.φ b=some (r,o,q)→g.κ r 0=.mut b∧w.heap[r]?=some (.deferred (some []))
 | .dead=>True
 | .cn es ix bi cur=>∃r o q,g.φ b=some (r,o,q)∧g.κ r 0=.mut b∧∃ah clock,w.heap[r]?=some (.map ah clock)∧bB g w es ah∧bV ah clock ∧
   ∃ri q' seen,g.φ bi=some (ri,0,q')∧g.κ ri 0=.mut b∧w.heap[ri]?=some (.mapIter (some r) clock seen clock)∧tP ah seen ix cur
 | .pK _=>True
 | .lit cs=>∃r q,g.φ b=some (r,0,q)∧g.κ r q=.mut b∧(∀j,j≠q→g.κ r j=.cG)∧∃c t,w.heap[r]?=some (.cells c t)∧c.size=q∧cs.length=q ∧
   ∀(i:Nat) (t:T),cs[i]?=some t→t.one=true∧∃v,c[i]?=some v∧VR g w t v
 | .fz cs=>∀r o q,g.φ b=some (r,o,q)→tO g w cs r o q
structure SR (w0:World)(g:Ctx)(H:aa)(w:World):Prop where
 size:w0.heap.size≤w.heap.size
 ep:∀r,r<w0.heap.size→w.heap[r]?=w0.heap[r]?
 oU:∀r o,r<w0.heap.size→g.κ r o=.cG
 fresh:∀r o,w.heap.size≤r→g.κ r o=.free
 gQ:∀b x,g.φ b=some x→b<H.length
 cq:∀t e x,g.π t e=some x→t<H.length
 du:∀b x,H[b]?=some x→lh g w b x
 env:w.os=w0.os∧w.output=w0.output
def cr:Obj→Bool
 | .map _ _ | .loop _ | .deferred _ | .mapIter _ _ _ _=>true
 | _=>false
structure CK (w w':World)(S:Nat→Nat→Prop)(M:Nat→Prop):Prop where
 size:w.heap.size≤w'.heap.size
 cell:∀r j,r<w.heap.size→¬S r j→w'.cell? ⟨r,j,none⟩=w.cell? ⟨r,j,none⟩
 fh:∀r j,r<w.heap.size→(w.cell? ⟨r,j,none⟩).isSome=true→(w'.cell? ⟨r,j,none⟩).isSome=true
 maps:∀r x,¬M r→cr x=true→w.heap[r]?=some x→w'.heap[r]?=some x
 ep:∀r,r<w.heap.size→¬M r→(∀j,¬S r j)→w'.heap[r]?=w.heap[r]?
 env:w'.os=w.os∧w'.output=w.output
structure Tr (w w':World)(S:Nat→Nat→Prop)(M:Nat→Prop):Prop extends CK w w' S M where
 pL:∀r j,r<w.heap.size→w'.frozen? ⟨r,j,none⟩=w.frozen? ⟨r,j,none⟩
theorem dQ {w:World}{r j:Nat}{v:Value}(h:w.cell? ⟨r,j,none⟩=some v):r<w.heap.size:=by
 unfold World.cell? at h
 cases hr:w.heap[r]? with
 | none=>simp[hr]at h
 | some x=>exact(Array.getElem?_eq_some_iff.1 hr).1
theorem g5.mono {g g':Ctx}{w w':World}{b:Nat}{cs:List T}{r o q:Nat}(h:g5 g w b cs r o q)(le:Le g w g' w')
  (hκ:∀j,o≤j→j<q→g'.κ r j=.mut b) (hf:∀j,o≤j→j<q→(∀j0,w'.frozen? ⟨r,j0,none⟩=w.frozen? ⟨r,j0,none⟩)∧w'.cell? ⟨r,j,none⟩=w.cell? ⟨r,j,none⟩):g5 g' w' b cs r o q:=by
 obtain⟨h1,h2,h3⟩:=h
 refine⟨h1,fun j hj hq=>⟨hκ j hj hq,fun j0=>by rw[(hf j hj hq).1];exact(h2 j hj hq).2.1 j0,by rw[(hf j hj hq).2];exact(h2 j hj hq).2.2⟩,fun i t hi=>?_⟩
 have aD:i<cs.length:=(List.getElem?_eq_some_iff.1 hi).1
 obtain⟨h4,v,h5,h6⟩:=h3 i t hi
 exact⟨h4,v,by rw[(hf (o+i) (by omega) (by omega)).2];exact h5,h6.mono le⟩
theorem tO.mono {g g':Ctx}{w w':World}{cs:List T}{r o q:Nat}(h:tO g w cs r o q)(le:Le g w g' w'):tO g' w' cs r o q :=
 ⟨h.1,fun i t hi=>let ⟨a,v,b,c⟩:=h.2 i t hi;⟨a,v,b.mono le,c.mono le⟩⟩
theorem bB.mono {g g':Ctx}{w w':World}{es:List (T×T)}{ah:Array MapEntry}(h:bB g w es ah)(le:Le g w g' w'):bB g' w' es ah :=
 ⟨h.1,fun i e m a b=>⟨(h.2 i e m a b).1.mono le,(h.2 i e m a b).2.mono le⟩⟩
theorem ki.mono {g g':Ctx}{w w':World}{st:pT}{bz:Option Ex}{n:Nat}{R:Nat→T}{ps:List Nat}{bf body:C}{rec:Loop}(h:ki g w st bz n R ps bf body rec)(le:Le g w g' w'):ki g' w' st bz n R ps bf body rec:=by
 obtain⟨h1,h2,h3,h4,h5,h6,h7,h8⟩:=h
 exact⟨h1,h2,h3,h4,fun t ht=>(h5 t ht).mono le,h6,by rw[le.ck];exact h7,by rw[le.ck];exact h8⟩
theorem SR.wa {w0 w w':World}{g g':Ctx}{H H':aa}(h:SR w0 g H w)(lj:Nat→Prop){S:Nat→Nat→Prop}{M:Nat→Prop}(tr:CK w w' S M)
  (Cc:∀r j j0 b,r<w.heap.size→¬lj b→g.κ r j=.mut b∨g.κ r j=.spare b→w'.frozen? ⟨r,j0,none⟩=w.frozen? ⟨r,j0,none⟩) (le:Le g w g' w')
  (hS:∀r j,S r j→g.κ r j=.free∨(∃b,g.κ r j=.mut b∧lj b)∨∃b,g.κ r j=.spare b∧lj b) (hM:∀r,M r→∃b,g.κ r 0=.mut b∧lj b)
  (mQ:∀r o,w'.heap.size≤r→g'.κ r o=.free) (xv:∀b x,g'.φ b=some x→b<H'.length) (p3:∀t e x,g'.π t e=some x→t<H'.length)
  (kφ:∀b,b<H.length→¬lj b→g'.φ b=g.φ b) (kκ:∀r j b,¬lj b→(g.κ r j=.mut b→g'.κ r j=.mut b)∧(g.κ r j=.spare b→g'.κ r j=.spare b))
  (kπ:∀t e,t<H.length→¬lj t→g'.π t e=g.π t e)
  (hb:∀b x,H'[b]?=some x→(¬lj b∧H[b]?=some x)∨lh g' w' b x):SR w0 g' H' w':=by
 have nS:∀r j,r<w0.heap.size→¬S r j:=by
  intro r j hr hs
  have:=h.oU r j hr
  rcases hS r j hs with e|⟨b,e,_⟩|⟨b,e,_⟩<;>simp[this]at e
 have nM:∀r,r<w0.heap.size→¬M r:=by
  intro r hr hm
  have:=h.oU r 0 hr
  obtain⟨b,e,_⟩:=hM r hm
  simp[this]at e
 refine⟨Nat.le_trans h.size tr.size,fun r hr=>?_,fun r o hr=>le.κ _ _ (h.oU r o hr),mQ,xv,p3,fun b x hx=>?_,tr.env.1.trans h.env.1,tr.env.2.trans h.env.2⟩
 ·rw[tr.ep r (Nat.lt_of_lt_of_le hr h.size) (nM r hr) (fun j=>nS r j hr)]
  exact h.ep r hr
 ·rcases hb b x hx with⟨nt,Fa⟩|ll
  ·have aD:b<H.length:=(List.getElem?_eq_some_iff.1 Fa).1
   have hk:=h.du b x Fa
   have CL:∀r j,g.κ r j=.mut b∨g.κ r j=.spare b→¬S r j:=by
    intro r j hm hs
    rcases hS r j hs with e|⟨b',e,ht⟩|⟨b',e,ht⟩<;>rcases hm with hm|hm<;>simp[hm]at e
    ·exact nt (e▸ht)
    ·exact nt (e▸ht)
   cases x with
   | cells cs =>
    intro r o q hφ
    have dR:g.φ b=some (r,o,q):=by rw[←kφ b aD nt];exact hφ
    have hc:=hk r o q dR
    refine hc.mono le (fun j a c=>(kκ r j b nt).1 (hc.2.1 j a c).1) fun j a c=>?_
    have hh:=hc.2.1 j a c
    have hr:r<w.heap.size:=by
     cases hv:w.cell? ⟨r,j,none⟩with
     | none=>simp[hv]at hh
     | some v=>exact dQ hv
    exact⟨fun j0=>Cc r j j0 b hr nt (.inl hh.1),tr.cell r j hr (CL r j (.inl hh.1))⟩
   | map es =>
    intro r o q hφ
    have dR:g.φ b=some (r,o,q):=by rw[←kφ b aD nt];exact hφ
    obtain⟨h1,ah,c,h2,h3⟩:=hk r o q dR
    refine⟨(kκ r 0 b nt).1 h1,ah,c,tr.maps r _ (fun hm=>?_) rfl h2,h3.1.mono le,h3.2⟩
    obtain⟨b',e,ht⟩:=hM r hm
    rw[h1]at e;cases e;exact nt ht
   | cn es ix bi cur =>
    obtain⟨r,o,q,hφ,h1,ah,c,h2,h3,h4,ri,q',seen,h5,h6,h7,h8⟩:=hk
    refine⟨r,o,q,le.φ _ _ hφ,(kκ r 0 b nt).1 h1,ah,c,tr.maps r _ (fun hm=>?_) rfl h2,h3.mono le,h4,ri,q',seen,le.φ _ _ h5,(kκ ri 0 b nt).1 h6,tr.maps ri _ (fun hm=>?_) rfl h7,h8⟩
    ·obtain⟨b',e,ht⟩:=hM r hm
     rw[h1]at e;cases e;exact nt ht
    ·obtain⟨b',e,ht⟩:=hM ri hm
     rw[h6]at e;cases e;exact nt ht
   | pK _=>trivial
   | lit cs =>
    obtain⟨r,q,hφ,h1,h2,c,ty,h3,h4,h5,h6⟩:=hk
    have hr:r<w.heap.size:=(Array.getElem?_eq_some_iff.1 h3).1
    have tq:∀j,¬S r j:=by
     intro j hs
     by_cases hj:j=q
     ·subst hj;exact CL r j (.inl h1) hs
     ·have:=h2 j hj
      rcases hS r j hs with e|⟨b',e,_⟩|⟨b',e,_⟩<;>simp[this]at e
    have FV:¬M r:=by
     intro hm
     obtain⟨b',e,ht⟩:=hM r hm
     by_cases hj:0=q
     ·subst hj;rw[h1]at e;cases e;exact nt ht
     ·rw[h2 0 hj]at e;cases e
    exact⟨r,q,le.φ _ _ hφ,(kκ r q b nt).1 h1,fun j hj=>le.κ _ _ (h2 j hj),c,ty,by rw[tr.ep r hr FV tq];exact h3,h4,h5,fun i t hi=>let ⟨a,v,b1,b2⟩:=h6 i t hi;⟨a,v,b1,b2.mono le⟩⟩
   | fz cs =>
    intro r o q hφ
    exact(hk r o q (by rw[←kφ b aD nt];exact hφ)).mono le
   | tok e =>
    obtain⟨r,p,q,h1,h2,h3,h4⟩:=hk
    refine⟨r,p,q,le.π _ _ _ h1,h2,fun j a c=>?_,fun e' he=>by rw[kπ b e' aD nt];exact h4 e' he⟩
    have hh:=h3 j a c
    have hr:r<w.heap.size:=by
     cases hv:w.cell? ⟨r,j,none⟩with
     | none=>simp[hv]at hh
     | some v=>exact dQ hv
    exact⟨(kκ r j b nt).2 hh.1,fun j0=>by rw[Cc r j j0 b hr nt (.inr hh.1)];exact hh.2.1 j0,by rw[tr.cell r j hr (CL r j (.inr hh.1))];exact hh.2.2⟩
   | loop st bz n R ps bf body =>
    intro r o q hφ
    have dR:g.φ b=some (r,o,q):=by rw[←kφ b aD nt];exact hφ
    obtain⟨h1,rec,h2,h3⟩:=hk r o q dR
    refine⟨(kκ r 0 b nt).1 h1,rec,tr.maps r _ (fun hm=>?_) rfl h2,h3.mono le⟩
    obtain⟨b',e,ht⟩:=hM r hm
    rw[h1]at e;cases e;exact nt ht
   | kX =>
    intro r o q hφ
    have dR:g.φ b=some (r,o,q):=by rw[←kφ b aD nt];exact hφ
    obtain⟨h1,h2⟩:=hk r o q dR
    refine⟨(kκ r 0 b nt).1 h1,tr.maps r _ (fun hm=>?_) rfl h2⟩
    obtain⟨b',e,ht⟩:=hM r hm
    rw[h1]at e;cases e;exact nt ht
   | dead=>trivial
  ·exact ll
theorem SR.step {w0 w w':World}{g g':Ctx}{H H':aa}(h:SR w0 g H w)(lj:Nat→Prop){S:Nat→Nat→Prop}{M:Nat→Prop}(tr:Tr w w' S M)(le:Le g w g' w')
  (hS:∀r j,S r j→g.κ r j=.free∨(∃b,g.κ r j=.mut b∧lj b)∨∃b,g.κ r j=.spare b∧lj b) (hM:∀r,M r→∃b,g.κ r 0=.mut b∧lj b)
  (mQ:∀r o,w'.heap.size≤r→g'.κ r o=.free) (xv:∀b x,g'.φ b=some x→b<H'.length) (p3:∀t e x,g'.π t e=some x→t<H'.length)
  (kφ:∀b,b<H.length→¬lj b→g'.φ b=g.φ b) (kκ:∀r j b,¬lj b→(g.κ r j=.mut b→g'.κ r j=.mut b)∧(g.κ r j=.spare b→g'.κ r j=.spare b))
  (kπ:∀t e,t<H.length→¬lj t→g'.π t e=g.π t e)
  (hb:∀b x,H'[b]?=some x→(¬lj b∧H[b]?=some x)∨lh g' w' b x):SR w0 g' H' w' :=
 h.wa lj ⟨tr.size,tr.cell,tr.fh,tr.maps,tr.ep,tr.env⟩ (fun r _ j0 _ hr _ _=>tr.pL r j0 hr) le hS hM mQ xv p3 kφ kκ kπ hb
def Fr (g:Ctx)(H:aa)(g':Ctx)(H':aa):Prop :=
 H.length≤H'.length∧∀b x,H[b]?=some x→(∀e,x≠.tok e)→g.φ b=none→H'[b]?=some x∧g'.φ b=none
theorem Fr.refl (g:Ctx)(H:aa):Fr g H g H:=⟨Nat.le_refl _,fun _ _ h _ k=>⟨h,k⟩⟩
theorem Fr.trans {g g' zn:Ctx}{H H' Fb:aa}(h:Fr g H g' H')(h':Fr g' H' zn Fb):Fr g H zn Fb :=
 ⟨Nat.le_trans h.1 h'.1,fun b x a c d=>let ⟨e,f⟩:=h.2 b x a c d;h'.2 b x e c f⟩
def aI (P:Program)(w0:World)(g:Ctx)(H:aa)(w:World)(s:Sem Value)(t:T)(H':aa):Prop :=
 ∃v w' g',s.run P w=.ok v w'∧Le g w g' w'∧SR w0 g' H' w'∧VR g' w' t v∧Fr g H g' H'
theorem aI.same {P:Program}{w0:World}{g:Ctx}{H:aa}{w:World}{s:Sem Value}{t:T}{v:Value}(h:SR w0 g H w)(hr:s.run P w=.ok v w)(hv:VR g w t v):aI P w0 g H w s t H :=
 ⟨v,w,g,hr,.refl _ _,h,hv,.refl _ _⟩
def ax (g:Ctx)(w:World)(ts:List T)(vs:List Value):Prop:=ts.length=vs.length∧∀(i:Nat) (t:T) (v:Value),ts[i]?=some t→vs[i]?=some v→VR g w t v
theorem ax.mono {g g':Ctx}{w w':World}(le:Le g w g' w'){ts:List T}{vs:List Value}(h:ax g w ts vs):ax g' w' ts vs:=⟨h.1,fun i t v a b=>(h.2 i t v a b).mono le⟩
theorem ax.nil {g:Ctx}{w:World}:ax g w [] []:=⟨rfl,fun i t v h=>by simp at h⟩
theorem ax.cons {g:Ctx}{w:World}{t:T}{v:Value}{ts:List T}{vs:List Value}(h:VR g w t v)(hs:ax g w ts vs):ax g w (t :: ts) (v :: vs) :=
 ⟨by simp[hs.1],fun i a b ha hb=>by
  cases i with
  | zero=>simp at ha hb;subst ha;subst hb;exact h
  | succ i=>exact hs.2 i a b (by simpa using ha) (by simpa using hb)⟩
theorem ax.head {g:Ctx}{w:World}{t:T}{v:Value}{ts:List T}{vs:List Value}(h:ax g w (t :: ts) (v :: vs)):VR g w t v:=h.2 0 t v rfl rfl
theorem ax.tail {g:Ctx}{w:World}{t:T}{v:Value}{ts:List T}{vs:List Value}(h:ax g w (t :: ts) (v :: vs)):ax g w ts vs :=
 ⟨by have:=h.1;simpa using this,fun i a b ha hb=>h.2 (i+1) a b (by simpa using ha) (by simpa using hb)⟩
theorem ax.append {g:Ctx}{w:World}{ts xw:List T}{vs yY:List Value}(h:ax g w ts vs)(h':ax g w xw yY):ax g w (ts++xw) (vs++yY):=by
 refine⟨by simp[h.1,h'.1],fun i t v ha hb=>?_⟩
 rw[List.getElem?_append]at ha hb
 rw[←h.1]at hb
 split at ha
 ·rename_i hi;rw[if_pos hi]at hb;exact h.2 i t v ha hb
 ·rename_i hi;rw[if_neg hi]at hb;exact h'.2 _ t v ha hb
theorem ax.take {g:Ctx}{w:World}{ts:List T}{vs:List Value}(n:Nat)(h:ax g w ts vs):ax g w (ts.take n) (vs.take n) :=
 ⟨by simp[h.1],fun i t v ha hb=>by
  rw[List.getElem?_take]at ha hb
  split at ha
  ·rename_i hi;rw[if_pos hi]at hb;exact h.2 i t v ha hb
  ·simp at ha⟩
theorem ax.drop {g:Ctx}{w:World}{ts:List T}{vs:List Value}(n:Nat)(h:ax g w ts vs):ax g w (ts.drop n) (vs.drop n) :=
 ⟨by simp[h.1],fun i t v ha hb=>by
  rw[List.getElem?_drop]at ha hb
  exact h.2 _ t v ha hb⟩
def aS (cs:List T):Prop:=∀t∈cs,t.one=true
theorem ax.dp {g:Ctx}{w:World}{ts:List T}{vs:List Value}(h:ax g w ts vs)(ho:aS ts):∀v∈vs,v.oneCell'=true:=by
 intro v hv
 obtain⟨i,hi,rfl⟩:=List.getElem_of_mem hv
 have fY:i<ts.length:=by rw[h.1];exact hi
 exact(h.2 i ts[i] vs[i] (List.getElem?_eq_getElem fY) (List.getElem?_eq_getElem hi)).dp (ho _ (List.getElem_mem fY))
theorem a8 (r o j:Nat):(⟨r,o,none⟩:Addr).add j=⟨r,o+j,none⟩:=by
 unfold Addr.add;split<;>simp_all
theorem hP {w:World}{r o:Nat}:∀(n:Nat) (f:Nat→Value),(∀j,j<n→w.cell? ⟨r,o+j,none⟩=some (f j))→∀(j:Nat) (v:Value),((List.range n).map f)[j]?=some v→w.cell? ⟨r,o+j,none⟩=some v:=by
 intro n f h j v hv
 have hj:j<n:=by
  have:=(List.getElem?_eq_some_iff.1 hv).1
  simpa using this
 rw[h j hj]
 simp[hj]at hv
 rw[hv]
theorem fj {w0 w:World}{g:Ctx}{H:aa}{n:Nat}{p:T}{vp:Value}{cs:List T}(h:SR w0 g H w)(hv:VR g w p vp)(he:gG H n p=some cs) :
  ∃r o vs,vp=.pointer (some ⟨r,o,none⟩)∧vs.length=n∧(∀(j:Nat) (v:Value),vs[j]?=some v→w.cell? ⟨r,o+j,none⟩=some v)∧ax g w cs vs∧aS cs:=by
 cases hv with
 | @ptr b off r o q hφ =>
  have main:∀mG:List T,(∀(i:Nat) (t:T),mG[i]?=some t→t.one=true∧∃v,w.cell? ⟨r,o+i,none⟩=some v∧VR g w t v)→(if off+n≤mG.length then some ((mG.drop off).take n)else none)=some cs →
    ∃r' o' vs,(Value.pointer (some ⟨r,o+off,none⟩))=.pointer (some ⟨r',o',none⟩)∧vs.length=n∧(∀(j:Nat) (v:Value),vs[j]?=some v→w.cell? ⟨r',o'+j,none⟩=some v)∧ax g w cs vs∧aS cs:=by
   intro mG h3 he
   split at he
   ·rename_i hle
    simp at he
    subst he
    have key:∀j,j<n→∃t v,mG[off+j]?=some t∧t.one=true∧w.cell? ⟨r,o+off+j,none⟩=some v∧VR g w t v:=by
     intro j hj
     have aD:off+j<mG.length:=by omega
     obtain⟨a,v,b',c⟩:=h3 (off+j) mG[off+j] (List.getElem?_eq_getElem aD)
     exact⟨_,v,List.getElem?_eq_getElem aD,a,by rw[Nat.add_assoc];exact b',c⟩
    refine⟨r,o+off,(List.range n).map (fun j=>(w.cell? ⟨r,o+off+j,none⟩).getD undef),rfl,by simp,hP n _ (fun j hj=>?_),⟨by simp;omega,fun i t v ha cV=>?_⟩,fun t ht=>?_⟩
    ·obtain⟨t,v,_,_,e,_⟩:=key j hj
     simp[e]
    ·have hi:i<n:=by
      have:=(List.getElem?_eq_some_iff.1 cV).1
      simpa using this
     obtain⟨t',v',e1,e2,e3,e4⟩:=key i hi
     simp[hi]at cV
     rw[e3]at cV;simp at cV
     rw[List.getElem?_take,if_pos hi,List.getElem?_drop,e1]at ha
     simp at ha
     subst ha;subst cV;exact e4
    ·obtain⟨i,hi,rfl⟩:=List.getElem_of_mem ht
     simp at hi
     obtain⟨t',v',e1,e2,_,_⟩:=key i (by omega)
     have FW:=(List.getElem?_eq_some_iff.1 e1).2
     simp[FW,e2]
   ·simp at he
  simp only[gG]at he
  cases hb:H[b]? with
  | none=>simp[hb]at he
  | some x =>
   cases x with
   | cells mG =>
    simp only[hb]at he
    exact main mG (h.du b _ hb r o q hφ).2.2 he
   | fz mG =>
    simp only[hb]at he
    exact main mG (fun i t hi=>let ⟨a,v,b',c⟩:=(h.du b _ hb r o q hφ).2 i t hi;⟨a,v,b'.2,c⟩) he
   | map _=>simp[hb]at he
   | tok _=>simp[hb]at he
   | _=>simp[hb]at he
 | @cD mG r o a7 h1 h2 =>
  simp only[gG]at he
  split at he
  ·rename_i hle
   simp at he
   subst he
   have get:∀i,i<n→∃t,mG[i]?=some t:=fun i hi=>⟨mG[i]'(by omega),List.getElem?_eq_getElem _⟩
   refine⟨r,o,(List.range n).map a7,rfl,by simp,hP n _ (fun j hj=>?_),⟨by simp;omega,fun i t v ha hb=>?_⟩,fun t ht=>?_⟩
   ·obtain⟨t,e⟩:=get j hj
    exact(h1 j t e).2.2
   ·have hi:i<n:=by
     have:=(List.getElem?_eq_some_iff.1 hb).1
     simpa using this
    simp[hi]at hb
    rw[List.getElem?_take,if_pos hi]at ha
    rw[←hb];exact h2 i t ha
   ·obtain⟨i,hi,rfl⟩:=List.getElem_of_mem ht
    simp at hi
    have:mG[i]?=some mG[i]:=List.getElem?_eq_getElem _
    simp
    exact(h1 i _ this).1
  ·simp at he
 | _=>simp[gG]at he
theorem ax.agg {g:Ctx}{w:World}{cs:List T}{vs:List Value}(h:ax g w cs vs)(ho:aS cs):VR g w (.agg cs) (.agg vs.toArray) :=
 .agg (by simp[h.1]) ho (fun i t v ha hb=>h.2 i t v ha (by simpa using hb))
theorem ax.bg {g:Ctx}{w:World}{cs:List T}{vs:List Value}(h:ax g w cs vs):VR g w (.bg cs) (.tuple vs.toArray) :=
 .bg (by simp[h.1]) (fun i t v ha hb=>h.2 i t v ha (by simpa using hb))
theorem VR.cg {g:Ctx}{w:World}{cs:List T}{v:Value}(h:VR g w (.agg cs) v):∃vs:List Value,v=.agg vs.toArray∧ax g w cs vs∧aS cs:=by
 cases h with
 | @agg _ vs hl h1 h2=>exact⟨vs.toList,by simp,⟨by simp[hl],fun i t v ha hb=>h2 i t v ha (by simpa using hb)⟩,h1⟩
theorem VR.tQ {g:Ctx}{w:World}{cs:List T}{v:Value}(h:VR g w (.bg cs) v):∃vs:List Value,v=.tuple vs.toArray∧ax g w cs vs:=by
 cases h with
 | @bg _ vs hl h2=>exact⟨vs.toList,by simp,⟨by simp[hl],fun i t v ha hb=>h2 i t v ha (by simpa using hb)⟩⟩
theorem dD {g:Ctx}{w:World}{t:T}{v:Value}{cs:List T}(h:VR g w t v)(hc:t.cells?=some cs):ax g w cs v.cells.toList∧aS cs:=by
 by_cases ha:∃c,t=.agg c
 ·obtain⟨c,rfl⟩:=ha
  simp[T.cells?]at hc;subst hc
  obtain⟨vs,rfl,h1,h2⟩:=h.cg
  exact⟨by simpa[Value.cells]using h1,h2⟩
 ·by_cases ht:∃c,t=.bg c
  ·obtain⟨c,rfl⟩:=ht;simp[T.cells?]at hc
  ·have e:cs=[t]:=by cases t<;>simp_all [T.cells?]
   have o:t.one=true:=by cases t<;>simp_all [T.one]
   have ev:v.cells=#[v]:=by
    have:=h.dp o
    cases v<;>simp_all [Value.cells,Value.oneCell']
   subst e
   rw[ev]
   exact⟨ax.cons h ax.nil,by simpa[aS]using o⟩
theorem hU {g:Ctx}{w:World}{cs:List T}{vs:List Value}{ag:Bool}{t:T}(h:ax g w cs vs)(ho:aS cs)(hv:valOf ag cs=some t) :
  (ag=true→VR g w t (.agg vs.toArray))∧(ag=false→∃v,vs=[v]∧VR g w t v):=by
 cases ag with
 | true=>simp[valOf]at hv;subst hv;exact⟨fun _=>h.agg ho,by simp⟩
 | false =>
  refine⟨by simp,fun _=>?_⟩
  cases cs with
  | nil=>simp[valOf]at hv
  | cons c cs =>
   cases cs with
   | nil =>
    simp[valOf]at hv;subst hv
    cases vs with
    | nil=>have:=h.1;simp at this
    | cons v vs =>
     cases vs with
     | nil=>exact⟨v,rfl,h.head⟩
     | cons _ _=>have:=h.1;simp at this
   | cons _ _=>simp[valOf]at hv
theorem ar {P:Program}{w:World}{t:TypeId}{i:TypeInfo}(h:P.info? t=some i):(typeInfo t).run P w=.ok i w:=by
 simp[typeInfo,h]
def bC:TypeDesc→Bool
 | .struct _ | .array _ _=>true
 | _=>false
theorem bN {P:Program}{t:TypeId}{d:TypeDesc}(h:P.underlying t=some d)(w:World):(isAgg t).run P w=.ok (bC d) w:=by
 simp only[isAgg,Sem.run_bind,run_underlying h,Result.andThen_ok]
 cases d<;>rfl
theorem xy {P:Program}{w0 w:World}{g:Ctx}{H:aa}{n:Nat}{ag:Bool}{p t:T}{vp:Value}{cs:List T}{ty:TypeId}{d:TypeDesc}{i:TypeInfo}
  (hd:P.underlying ty=some d) (hi:P.info? ty=some i) (pM:bC d=ag) (hn:ag=true→i.size=n)
  (h:SR w0 g H w) (hv:VR g w p vp) (he:gG H n p=some cs) (ht:valOf ag cs=some t):aI P w0 g H w (Instr.loadAt ty vp) t H:=by
 obtain⟨r,o,vs,rfl,h1,h2,h3,h4⟩:=fj h hv he
 obtain⟨ha,hb⟩:=hU h3 h4 ht
 cases ag with
 | true =>
  refine aI.same h (v:=.agg vs.toArray) ?_ (ha rfl)
  have:=run_loadCells_list (P:=P) w ⟨r,o,none⟩ vs (fun j v hj=>by rw[a8];exact h2 j v hj)
  simp[Instr.loadAt,Instr.sureAddr,loadVar,bN hd,pM,sizeOf,ar hi,hn rfl,←h1,this]
 | false =>
  obtain⟨v,rfl,bR⟩:=hb rfl
  refine aI.same h (v:=v) ?_ bR
  have:=h2 0 v rfl
  simp at this
  simp[Instr.loadAt,Instr.sureAddr,loadVar,bN hd,pM,run_load,this]
theorem tR {P:Program}{w0 w:World}{g:Ctx}{H:aa}{n:Nat}{ag:Bool}{p t:T}{vp:Value}{cs:List T}{ty:TypeId}{d:TypeDesc}{i:TypeInfo}
  (hd:P.underlying ty=some d) (hi:P.info? ty=some i) (pM:bC d=ag) (hn:ag=true→i.size=n)
  (h:SR w0 g H w) (hv:VR g w p vp) (he:gG H n p=some cs) (ht:valOf ag cs=some t):∃v w' g',(Instr.loadAt ty vp).run P w=.ok v w'∧w'=w∧VR g' w t v∧g'=g:=by
 obtain⟨r,o,vs,rfl,h1,h2,h3,h4⟩:=fj h hv he
 obtain⟨ha,hb⟩:=hU h3 h4 ht
 cases ag with
 | true =>
  refine⟨.agg vs.toArray,w,g,?_,rfl,ha rfl,rfl⟩
  have:=run_loadCells_list (P:=P) w ⟨r,o,none⟩ vs (fun j v hj=>by rw[a8];exact h2 j v hj)
  simp[Instr.loadAt,Instr.sureAddr,loadVar,bN hd,pM,sizeOf,ar hi,hn rfl,←h1,this]
 | false =>
  obtain⟨v,rfl,bR⟩:=hb rfl
  refine⟨v,w,g,?_,rfl,bR,rfl⟩
  have:=h2 0 v rfl
  simp at this
  simp[Instr.loadAt,Instr.sureAddr,loadVar,bN hd,pM,run_load,this]
section
variable {P:Program} {w:World} {op:BinOp} {ty:TypeId} {x y:Operand}
theorem jr {k k':IntKind}{a b:Int}:(eqGuard op ty x y (.int k a) (.int k' b)).run P w=.ok () w:=by cases op<;>rfl
theorem js {a b:ByteArray}:(eqGuard op ty x y (.string a) (.string b)).run P w=.ok () w:=by cases op<;>rfl
theorem dS {a b:Bool}:(eqGuard op ty x y (.bool a) (.bool b)).run P w=.ok () w:=by cases op<;>rfl
theorem oV {a b:Option Addr}:(eqGuard op ty x y (.pointer a) (.pointer b)).run P w=.ok () w:=by cases op<;>rfl
theorem lp {a b:Option Addr}{c d e f:Nat}:(eqGuard op ty x y (.slice a c d) (.slice b e f)).run P w=.ok () w:=by cases op<;>rfl
theorem oW {a b:Option Nat}:(eqGuard op ty x y (.map a) (.map b)).run P w=.ok () w:=by cases op<;>rfl
theorem p4 {f:Go.Fn}{a b:Array Value}:(eqGuard op ty x y (.func f a b) .nilFunc).run P w=.ok () w:=by cases op<;>rfl
theorem p5 {f:Go.Fn}{a b:Array Value}:(eqGuard op ty x y .nilFunc (.func f a b)).run P w=.ok () w:=by cases op<;>rfl
theorem p6:(eqGuard op ty x y .nilFunc .nilFunc).run P w=.ok () w:=by cases op<;>rfl
end
section
variable {P:Program} {w:World} {ty:TypeId}
theorem jt (n:Nat)(h:P.underlying ty=some .bool)(a b:Bool):(Op.equalIn (n+1) ty (.bool a) (.bool b)).run P w=.ok (a==b) w:=by
 rw[Op.equalIn];simp only[Sem.run_bind,run_underlying h,Result.andThen_ok];rfl
theorem p7 (n:Nat){k:IntKind}(h:P.underlying ty=some (.int k))(a b:Int)(k':IntKind):(Op.equalIn (n+1) ty (.int k' a) (.int k' b)).run P w=.ok (a==b) w:=by
 rw[Op.equalIn];simp only[Sem.run_bind,run_underlying h,Result.andThen_ok];simp
theorem p8 (n:Nat)(h:P.underlying ty=some .string)(a b:ByteArray):(Op.equalIn (n+1) ty (.string a) (.string b)).run P w=.ok (a==b) w:=by
 rw[Op.equalIn];simp only[Sem.run_bind,run_underlying h,Result.andThen_ok];rfl
theorem ct {x y:Value}{b:Bool}(h:∀n,(Op.equalIn (n+1) ty x y).run P w=.ok b w):(Op.equal ty x y).run P w=.ok b w:=h 9999
theorem hY (h:P.underlying ty=some .bool)(a b:Bool):(Op.equal ty (.bool a) (.bool b)).run P w=.ok (a==b) w:=ct fun n=>jt n h a b
end
theorem tT {P:Program}{w0 w:World}{g:Ctx}{H:aa}{op:BinOp}{x y t:T}{vx vy:Value}{ty:TypeId}{ox oy:Operand}
  (h:SR w0 g H w) (hx:VR g w x vx) (hy:VR g w y vy) (he:aO op x y=some t):aI P w0 g H w (do eqGuard op ty ox oy vx vy;binOp op ty vx vy) t H:=by
 cases hx<;>cases hy<;>(try (simp[aO]at he;done))
 case int.int k a k' b =>
  have key:∃v,(binOp op ty (.int k a) (.int k' b)).run P w=.ok v w∧VR g w t v:=by
   cases op<;>simp only[aO]at he<;>(repeat' (split at he))<;>(try (simp at he;done)) <;>
    (simp at he;subst he;first
     | (refine⟨_,?_,.int _ _⟩;simp_all [binOp,Op.shift,Op.intArith,Op.intDiv,Op.intBits,Op.intCmp];done)
     | (refine⟨_,?_,.int _ _⟩;rename_i hs;simp only[binOp,Op.shift,if_neg hs,Sem.run_pure];done)
     | (refine⟨_,?_,.bool _⟩;simp_all [binOp,Op.shift,Op.intArith,Op.intDiv,Op.intBits,Op.intCmp];done))
  obtain⟨v,hr,hv⟩:=key
  refine aI.same h (v:=v) ?_ hv
  simp[jr,js,dS,hr]
 case str.str a b =>
  have key:∃v,(binOp op ty (.string a) (.string b)).run P w=.ok v w∧VR g w t v:=by
   cases op<;>simp only[aO]at he<;>(repeat' (split at he))<;>(try (simp at he;done)) <;>
    (simp at he;subst he;first
     | (refine⟨_,?_,.str _⟩;rename_i hs;simp[binOp,Op.stringOp,IntKind.max,IntKind.signed,IntKind.bits];omega)
     | (refine⟨_,?_,.bool _⟩;simp[binOp,Op.stringOp,dj,strLt];done))
  obtain⟨v,hr,hv⟩:=key
  refine aI.same h (v:=v) ?_ hv
  simp[jr,js,dS,hr]
theorem tU {P:Program}{w0 w:World}{g:Ctx}{H:aa}{neg:Bool}{a b:Bool}{vx vy:Value}{ty:TypeId}{ox oy:Operand}(hu:P.underlying ty=some .bool)
  (h:SR w0 g H w) (hx:VR g w (.bool a) vx) (hy:VR g w (.bool b) vy) :
  aI P w0 g H w (do eqGuard (if neg then .neq else .eql) ty ox oy vx vy;binOp (if neg then .neq else .eql) ty vx vy) (.bool (if neg then !(a==b)else a==b)) H:=by
 cases hx;cases hy
 cases neg
 ·refine aI.same h (v:=.bool (a==b)) ?_ (.bool _)
  simp only[Bool.false_eq_true,if_false,Sem.run_bind,dS,Result.andThen_ok,binOp,hY hu,Sem.run_pure]
 ·refine aI.same h (v:=.bool (!(a==b))) ?_ (.bool _)
  simp only[if_true,Sem.run_bind,dS,Result.andThen_ok,binOp,hY hu,Sem.run_pure]
def p9:tH→TypeDesc→Bool
 | .ptr,.pointer _ | .slice,.slice _ | .map,.map _ _ | .func,.func _ _ _=>true
 | _,_=>false
theorem lq {g:Ctx}{w:World}{c:tH}{x:T}{vx:Value}{b:Bool}(hx:VR g w x vx)(h:kY c x=some b) :
  match c with
  | .ptr=>∃a:Option Addr,vx=.pointer a∧a.isNone=b
  | .slice=>∃(a:Option Addr) (l p:Nat),vx=.slice a l p∧a.isNone=b
  | .map=>∃r:Option Nat,vx=.map r∧r.isNone=b
  | .func=>(b=true∧vx=.nilFunc)∨(b=false∧∃f vs,vx=.func f #[] vs):=by
 cases c<;>cases hx<;>first
  | (change (none:Option Bool)=some b at h;simp at h;done)
  | (change some true=some b at h;simp at h;subst h;simp;done)
  | (change some false=some b at h;simp at h;subst h;simp;done)
  | skip
 case slice.sl k es r o cap n a7 hk hc hn h1 h2 =>
  have hb:b=false:=by
   cases k
   ·exact hk.elim
   ·cases es with
    | nil=>change (none:Option Bool)=some b at h;simp at h
    | cons _ _=>change some false=some b at h;simpa using h.symm
   ·change some false=some b at h;simpa using h.symm
   ·change some false=some b at h;simpa using h.symm
  subst hb
  exact⟨_,_,_,rfl,rfl⟩
theorem tV {P:Program}{w0 w:World}{g:Ctx}{H:aa}{neg:Bool}{c:tH}{x y:T}{b:Bool}{vx vy:Value}{ty:TypeId}{ox oy:Operand}{d:TypeDesc}
  (hu:P.underlying ty=some d) (hc:p9 c d=true)
  (h:SR w0 g H w) (hx:VR g w x vx) (hy:VR g w y vy) (he:kZ c x y=some b) :
  aI P w0 g H w (do eqGuard (if neg then .neq else .eql) ty ox oy vx vy;binOp (if neg then .neq else .eql) ty vx vy) (.bool (if neg then !b else b)) H:=by
 have key:(∀op,(eqGuard op ty ox oy vx vy).run P w=.ok () w)∧(Op.equal ty vx vy).run P w=.ok b w∧∀neg:Bool,(binOp (if neg then .neq else .eql) ty vx vy).run P w=((Op.equal ty vx vy).run P w).andThen fun b w'=>.ok (.bool (if neg then !b else b)) w':=by
  unfold kZ at he
  cases xz:kY c x with
  | none=>simp[xz]at he
  | some bx =>
   cases Fc:kY c y with
   | none=>cases bx<;>simp[xz,Fc]at he
   | some bY =>
    have e:b=(bx&&bY)∧(bx=true∨bY=true):=by
     cases bx<;>cases bY<;>simp_all
    obtain⟨rfl,FX⟩:=e
    have h1:=lq hx xz
    have h2:=lq hy Fc
    cases c with
    | ptr =>
     obtain⟨a,rfl,rfl⟩:=h1
     obtain⟨a',rfl,rfl⟩:=h2
     cases d<;>simp[p9]at hc
     refine⟨fun op=>oV,ct fun n=>?_,fun neg=>by cases neg<;>simp[binOp]⟩
     rw[Op.equalIn];simp only[Sem.run_bind,run_underlying hu,Result.andThen_ok]
     cases a<;>cases a'<;>simp_all
    | slice =>
     obtain⟨a,l,p,rfl,rfl⟩:=h1
     obtain⟨a',l',p',rfl,rfl⟩:=h2
     cases d<;>simp[p9]at hc
     refine⟨fun op=>lp,ct fun n=>?_,fun neg=>by cases neg<;>simp[binOp]⟩
     rw[Op.equalIn];simp only[Sem.run_bind,run_underlying hu,Result.andThen_ok]
     cases a<;>cases a'<;>simp_all
    | map =>
     obtain⟨a,rfl,rfl⟩:=h1
     obtain⟨a',rfl,rfl⟩:=h2
     cases d<;>simp[p9]at hc
     refine⟨fun op=>oW,ct fun n=>?_,fun neg=>by cases neg<;>simp[binOp]⟩
     rw[Op.equalIn];simp only[Sem.run_bind,run_underlying hu,Result.andThen_ok]
     cases a<;>cases a'<;>simp_all
    | func =>
     cases d<;>simp[p9]at hc
     rcases h1 with⟨rfl,rfl⟩|⟨rfl,f,vs,rfl⟩<;>rcases h2 with⟨rfl,rfl⟩|⟨rfl,f',yY,rfl⟩
     ·refine⟨fun op=>p6,ct fun n=>?_,fun neg=>by cases neg<;>simp[binOp]⟩
      rw[Op.equalIn];simp[run_underlying hu]
     ·refine⟨fun op=>p5,ct fun n=>?_,fun neg=>by cases neg<;>simp[binOp]⟩
      rw[Op.equalIn];simp[run_underlying hu]
     ·refine⟨fun op=>p4,ct fun n=>?_,fun neg=>by cases neg<;>simp[binOp]⟩
      rw[Op.equalIn];simp[run_underlying hu]
     ·simp at FX
 obtain⟨k1,k2,k3⟩:=key
 refine aI.same h (v:=.bool (if neg then !b else b)) ?_ (.bool _)
 simp only[Sem.run_bind,k1,Result.andThen_ok,k3,k2]
section
variable {P:Program} {w0 w:World} {g:Ctx} {H:aa}
def tt:kP→TypeDesc→Bool
 | .int,.int _ | .str,.string | .bool,.bool=>true
 | _,_=>false
def flat (P:Program):List Field→Nat→List kP→Bool
 | [],_,[]=>true
 | f :: fs,off,k :: ks=>f.offset==off&&f.name != "_"&&(match P.underlying f.type with | some d=>tt k d | none=>false)&&flat P fs (off+1) ks
 | _,_,_=>false
theorem nG {n:Nat}{ty:TypeId}{d:TypeDesc}{k:kP}(hu:P.underlying ty=some d)(hk:tt k d=true){a b:T}{va vb:Value}{r:Bool}(ha:VR g w a va)(hb:VR g w b vb)(h1:a.mL k=true)(he:dz a b=some r) :
  (Op.equalIn (n+1) ty va vb).run P w=.ok r w:=by
 cases k<;>cases d<;>simp[tt]at hk<;>cases ha<;>simp[T.mL]at h1<;>cases hb<;>simp[dz]at he
 ·obtain⟨rfl,rfl⟩:=he
  rw[p7 n hu]
 ·subst he
  rw[p8 n hu,beq_toListBytes];rfl
 ·subst he
  rw[jt n hu]
theorem ga {ty:TypeId}{d:TypeDesc}{k:kP}(hu:P.underlying ty=some d)(hk:tt k d=true){xs:Array Value}{off:Nat}{v:Value}(h:xs[off]?=some v):(part ty xs off).run P w=.ok v w:=by
 have:bC d=false:=by cases k<;>cases d<;>simp_all [tt,bC]
 simp[part,bN hu,this,h]
theorem gH {n:Nat}:∀(fs:List Field) (off:Nat) (ks:List kP) (cs ds:List T) (xs ys:Array Value) (r:Bool),flat P fs off ks=true→hasAll ks cs=true →
  (∀(i:Nat) (t:T),cs[i]?=some t→∃v,xs[off+i]?=some v∧VR g w t v)→(∀(i:Nat) (t:T),ds[i]?=some t→∃v,ys[off+i]?=some v∧VR g w t v)→aM cs ds=some r →
  (Op.eqFields (n+1) xs ys fs).run P w=.ok r w
 | [],off,ks,cs,ds,xs,ys,r,hf,hk,hc,hd,he=>by
  cases ks with
  | nil =>
   cases cs with
   | nil=>cases ds<;>simp[aM]at he;subst he;rfl
   | cons _ _=>simp[hasAll]at hk
  | cons _ _=>simp[flat]at hf
 | f :: fs,off,ks,cs,ds,xs,ys,r,hf,hk,hc,hd,he=>by
  cases ks with
  | nil=>simp[flat]at hf
  | cons k ks =>
   cases cs with
   | nil=>simp[hasAll]at hk
   | cons c cs =>
    cases ds with
    | nil=>simp[aM]at he
    | cons d ds =>
     simp only[flat,Bool.and_eq_true,beq_iff_eq,bne_iff_ne]at hf
     obtain⟨⟨⟨oX,qa⟩,tu⟩,bQ⟩:=hf
     simp only[hasAll,Bool.and_eq_true]at hk
     cases hu:P.underlying f.type with
     | none=>simp[hu]at tu
     | some de =>
      simp[hu]at tu
      obtain⟨va,zq,Fe⟩:=hc 0 c rfl
      obtain⟨vb,ju,xA⟩:=hd 0 d rfl
      simp only[Nat.add_zero]at zq ju
      simp only[aM]at he
      cases e1:dz c d with
      | none=>simp[e1]at he
      | some r1 =>
       cases e2:aM cs ds with
       | none=>simp[e1,e2]at he
       | some r2 =>
        simp[e1,e2]at he;subst he
        have ih:=gH (n:=n) fs (off+1) ks cs ds xs ys r2 bQ hk.2 (fun i t hi=>by have:=hc (i+1) t (by simpa using hi);rwa[show off+1+i=off+(i+1) by omega])
         (fun i t hi=>by have:=hd (i+1) t (by simpa using hi);rwa[show off+1+i=off+(i+1) by omega]) e2
        simp only[Op.eqFields,qa,ne_eq,not_false_eq_true,if_true,Sem.run_bind,oX,ga hu tu zq,ga hu tu ju,Result.andThen_ok,nG hu tu Fe xA hk.1 e1]
        cases r1
        ·simp
        ·simp[ih]
theorem ax.cj {ts:List T}{vs:List Value}(h:ax g w ts vs)(i:Nat)(t:T)(hi:ts[i]?=some t):∃v,vs.toArray[i]?=some v∧VR g w t v:=by
 have aD:i<vs.length:=by rw[←h.1];exact(List.getElem?_eq_some_iff.1 hi).1
 exact⟨vs[i],by simp[aD],h.2 i t _ hi (List.getElem?_eq_getElem aD)⟩
theorem jv {ty:TypeId}{fs:Array Field}{ks:List kP}(hu:P.underlying ty=some (.struct fs))(hf:flat P fs.toList 0 ks=true)(hp:P.stoodInHeld ty=false){cs ds:List T}{xs ys:List Value}{r:Bool}
  (hk:hasAll ks cs=true) (hx:ax g w cs xs) (hy:ax g w ds ys) (he:aM cs ds=some r) (n:Nat):(Op.equalIn (n+1+1) ty (.agg xs.toArray) (.agg ys.toArray)).run P w=.ok r w:=by
 have yZ:P.fieldsOf ty=fs:=by simp[Program.fieldsOf,hu]
 rw[run_equalIn_struct w (n+1) ty _ _ (by rw[yZ];exact hu) hp,yZ]
 exact gH _ 0 ks cs ds _ _ r hf hk (fun i t hi=>by simpa using hx.cj i t hi) (fun i t hi=>by simpa using hy.cj i t hi) he
theorem tW {neg:Bool}{ks:List kP}{cs ds:List T}{r:Bool}{vx vy:Value}{ty:TypeId}{ox oy:Operand}{fs:Array Field}
  (hu:P.underlying ty=some (.struct fs)) (hf:flat P fs.toList 0 ks=true) (hp:P.stoodInHeld ty=false) (hg:P.eqGuardType P.depth ty=false)
  (h:SR w0 g H w) (hx:VR g w (.agg cs) vx) (hy:VR g w (.agg ds) vy) (hk:hasAll ks cs=true) (he:aM cs ds=some r) :
  aI P w0 g H w (do eqGuard (if neg then .neq else .eql) ty ox oy vx vy;binOp (if neg then .neq else .eql) ty vx vy) (.bool (if neg then !r else r)) H:=by
 obtain⟨xs,rfl,tv,_⟩:=hx.cg
 obtain⟨ys,rfl,CM,_⟩:=hy.cg
 have e:(Op.equalIn 10000 ty (.agg xs.toArray) (.agg ys.toArray)).run P w=.ok r w:=jv hu hf hp hk tv CM he 9998
 refine aI.same h (v:=.bool (if neg then !r else r)) ?_ (.bool _)
 cases neg
 ·simp only[Bool.false_eq_true,if_false,Sem.run_bind,run_eqGuard_agg w _ _ _ _ _ _ hg,Result.andThen_ok,run_eql_struct,e]
 ·simp only[if_true,Sem.run_bind,run_eqGuard_agg w _ _ _ _ _ _ hg,Result.andThen_ok,run_neq_struct,e]
theorem xB {op:UnOp}{x t:T}{vx:Value}(h:SR w0 g H w)(hx:VR g w x vx)(he:yW op x=some t):aI P w0 g H w (Op.unary op vx) t H:=by
 cases hx<;>(try (simp[yW]at he;done))<;>cases op<;>simp[yW]at he<;>subst he
 ·exact aI.same h (by simp[Op.unary,Op.intArith]) (.int _ _)
 ·exact aI.same h (by simp[Op.unary,Op.intBits]) (.int _ _)
 ·exact aI.same h (by simp[Op.unary]) (.bool _)
theorem tX {src dst:TypeId}{ds:TypeDesc}{k k0:IntKind}{n:Int}{vx:Value}(hs:P.underlying src=some ds)(hd:P.underlying dst=some (.int k))(h:SR w0 g H w)(hx:VR g w (.int k0 n) vx) :
  aI P w0 g H w (convert src dst vx) (.int k (k.wrap n)) H:=by
 cases hx
 exact aI.same h (by simp[convert,run_underlying hs,run_underlying hd,Conv.intToInt]) (.int _ _)
theorem qb {c:Bool}{x y:T}{vc vx vy:Value}(h:SR w0 g H w)(hc:VR g w (.bool c) vc)(hx:VR g w x vx)(hy:VR g w y vy) :
  aI P w0 g H w (do pure (if ←asBool vc then vx else vy)) (if c then x else y) H:=by
 cases hc
 refine aI.same h (v:=if c then vx else vy) (by simp[asBool]) ?_
 cases c<;>simpa
def CN:Lc→TypeDesc→Bool
 | .str,.string | .sl,.slice _ | .map,.map _ _=>true
 | _,_=>false
theorem tY {ty rt:TypeId}{d:TypeDesc}{k:Lc}{x:T}{vx:Value}{n:Nat}(hu:P.underlying ty=some d)(hd:CN k d=true)
  (h:SR w0 g H w) (hx:VR g w x vx) (he:dC H k x=some n):aI P w0 g H w (Builtin.len_ #[ty] rt #[vx]) (.int .i64 n) H:=by
 refine aI.same h (v:=.int .i64 n) ?_ (.int _ _)
 cases k<;>cases d<;>(first|(simp[CN]at hd;done)|skip)<;>cases hx<;>simp[dC]at he
 ·subst he;simp[Builtin.len_,run_underlying hu,goInt]
 ·subst he;simp[Builtin.len_,run_underlying hu,goInt]
 ·subst he;simp[Builtin.len_,run_underlying hu,goInt]
 ·subst he;simp[Builtin.len_,run_underlying hu,goInt]
 ·subst he;simp[Builtin.len_,run_underlying hu,goInt]
 ·subst he;simp[Builtin.len_,run_underlying hu,goInt]
 ·subst he;simp[Builtin.len_,run_underlying hu,goInt]
 ·rename_i b r o q hφ
  cases hb:H[b]? with
  | none=>simp[hb]at he
  | some y =>
   cases y<;>simp[hb]at he
   ·rename_i es
    obtain⟨_,ah,c,h2,h3,_⟩:=h.du b _ hb r o q hφ
    subst he
    simp[Builtin.len_,run_underlying hu,goInt,getObj,Sem.run,h2,h3.1]
   ·rename_i es _ _ _
    obtain⟨r',o',q',dR,_,ah,c,h2,h3,_⟩:=h.du b _ hb
    rw[hφ]at dR;cases dR
    subst he
    simp[Builtin.len_,run_underlying hu,goInt,getObj,Sem.run,h2,h3.1]
theorem fI {n:Nat}{x:T}{vx:Value}{es:List (List T)}(h:SR w0 g H w)(hx:VR g w x vx)(he:aJ H n x=some es)(hs:∀s,x≠.str s) :
  ∃(a:Option Addr) (cap:Nat) (vs:List Value),vx=.slice a es.length cap∧es.length≤cap∧(a=none→es=[]∧cap=0)∧(∀a',a=some a'→(es≠[]→a'.spot=none)∧∀(j:Nat) (v:Value),vs[j]?=some v→w.cell? (a'.add j)=some v) ∧
   ax g w es.flatten vs∧vs.length=es.length*n∧aS es.flatten∧∀c∈es,c.length=n:=by
 cases hx with
 | slnil=>simp[aJ]at he;subst he;exact⟨none,0,[],rfl,Nat.le_refl _,fun _=>⟨rfl,rfl⟩,(by simp),ax.nil,by simp,by simp[aS],by simp⟩
 | dn a=>simp[aJ]at he;subst he;exact⟨a,0,[],rfl,Nat.le_refl _,fun _=>⟨rfl,rfl⟩,(by simp),ax.nil,by simp,by simp[aS],by simp⟩
 | @sl k pN r o cap n' a7 hk hc hn h1 h2 =>
  simp only[aJ]at he
  split at he
  ·rename_i et
   simp at he;subst he
   have hZ:∀c∈pN,c.length=n:=by simpa using et
   have key:∀(i j:Nat),i<pN.length→j<n→∃c t,pN[i]?=some c∧c[j]?=some t∧t.one=true∧w.cell? ⟨r,o+i*n+j,none⟩=some (a7 i j)∧VR g w t (a7 i j):=by
    intro i j hi hj
    have e1:pN[i]?=some pN[i]:=List.getElem?_eq_getElem hi
    have l1:(pN[i]).length=n:=hZ _ (List.getElem_mem hi)
    have l2:(pN[i]).length=n':=hn _ (List.getElem_mem hi)
    have e2:(pN[i])[j]?=some ((pN[i])[j]'(by omega)):=List.getElem?_eq_getElem _
    have a:=h1 i j _ _ e1 e2
    have tZ:n'=n:=by omega
    exact⟨_,_,e1,e2,a.1,by rw[←tZ];exact a.2.2,h2 i j _ _ e1 e2⟩
   have build:∀(l:List (List T)) (k:Nat),(∀i c,l[i]?=some c→pN[k+i]?=some c)→∃vs:List Value,vs.length=l.length*n∧ax g w l.flatten vs∧aS l.flatten ∧
     ∀(j:Nat) (v:Value),vs[j]?=some v→w.cell? ⟨r,o+k*n+j,none⟩=some v:=by
    intro l
    induction l with
    | nil=>intro k _;exact⟨[],by simp,ax.nil,by simp[aS],by simp⟩
    | cons c l ih =>
     intro k hk
     have mR:=hk 0 c rfl
     simp only[Nat.add_zero]at mR
     have xC:k<pN.length:=(List.getElem?_eq_some_iff.1 mR).1
     have g6:c.length=n:=hZ c (List.mem_of_getElem? mR)
     obtain⟨vs,a1,a2,a3,a4⟩:=ih (k+1) (fun i c' hi=>by have:=hk (i+1) c' (by simpa using hi);rwa[show k+1+i=k+(i+1) by omega])
     refine⟨(List.range n).map (a7 k)++vs,by simp[a1,Nat.succ_mul];omega,?_,?_,fun j v hj=>?_⟩
     ·rw[List.flatten_cons]
      refine ax.append ⟨by simp[g6],fun i t v hi hv=>?_⟩ a2
      have aD:i<n:=by have:=(List.getElem?_eq_some_iff.1 hv).1;simpa using this
      obtain⟨c',t',e1,e2,_,_,e5⟩:=key k i xC aD
      rw[mR]at e1;cases e1
      rw[hi]at e2;cases e2
      simp[aD]at hv
      rw[←hv];exact e5
     ·rw[List.flatten_cons]
      intro t ht
      rcases List.mem_append.1 ht with ht|ht
      ·obtain⟨i,hi,rfl⟩:=List.getElem_of_mem ht
       obtain⟨c',t',e1,e2,e3,_,_⟩:=key k i xC (by omega)
       rw[mR]at e1;cases e1
       rw[List.getElem?_eq_getElem hi]at e2;cases e2
       exact e3
      ·exact a3 t ht
     ·rw[List.getElem?_append]at hj
      split at hj
      ·rename_i aD
       simp at aD
       simp[aD]at hj
       obtain⟨c',t',_,_,_,e4,_⟩:=key k j xC aD
       rw[←hj];exact e4
      ·rename_i pO
       simp at pO hj
       have:=a4 _ v hj
       rwa[show o+(k+1)*n+(j-n)=o+k*n+j by rw[Nat.succ_mul];omega]at this
   obtain⟨vs,a1,a2,a3,a4⟩:=build pN 0 (fun i c h=>by simpa using h)
   refine⟨some ⟨r,o,none⟩,cap,vs,rfl,hc,by simp,fun a' ha=>?_,a2,a1,a3,hZ⟩
   cases ha
   exact⟨fun _=>rfl,fun j v hj=>by rw[a8];simpa using a4 j v hj⟩
  ·simp at he
 | @aQ b off len n' r o q cap hφ hc hq =>
  simp only[aJ]at he
  cases hb:H[b]? with
  | none=>simp[hb]at he
  | some y =>
   cases y with
   | cells cs =>
    simp only[hb]at he
    split at he
    ·rename_i aB
     obtain⟨rfl,hle⟩:=aB
     simp at he
     obtain⟨h1,h2,h3⟩:=h.du b _ hb r o q hφ
     have hlen:es.length=len:=by rw[←he];simp
     have hn:∀c∈es,c.length=n':=by
      rw[←he]
      intro c ib
      obtain⟨i,hi,rfl⟩:=List.mem_map.1 ib
      simp at hi
      have:i*n'+n'≤len*n':=by rw[←Nat.succ_mul];exact Nat.mul_le_mul_right _ hi
      simp;omega
     have gI:∀m,m≤len→((List.range m).map fun i=>(cs.drop (off+i*n')).take n').flatten=(cs.drop off).take (m*n'):=by
      intro m
      induction m with
      | zero=>intro _;simp
      | succ m ih =>
       intro hm
       rw[List.range_succ,List.map_append,List.flatten_append,ih (by omega)]
       simp only[List.map_cons,List.map_nil,List.flatten_cons,List.flatten_nil,List.append_nil]
       rw[Nat.succ_mul,List.take_add,List.drop_drop]
     have lr:es.flatten=(cs.drop off).take (len*n'):=by rw[←he];exact gI len (Nat.le_refl _)
     have hp:gG H (len*n') (.ptr b off)=some ((cs.drop off).take (len*n')):=by simp[gG,hb,hle]
     obtain⟨r',o',vs,e1,e2,e3,e4,e5⟩:=fj h (.ptr hφ) hp
     cases e1
     refine⟨some ⟨r,o+off,none⟩,cap,vs,by rw[hlen],by omega,by simp,fun a' ha=>?_,by rw[lr];exact e4,by rw[e2,hlen],by rw[lr];exact e5,hn⟩
     cases ha
     exact⟨fun _=>rfl,fun j v hj=>by rw[a8];exact e3 j v hj⟩
    ·simp at he
   | fz cs =>
    simp only[hb]at he
    split at he
    ·rename_i aB
     obtain⟨rfl,hle⟩:=aB
     simp at he
     have hlen:es.length=len:=by rw[←he];simp
     have hn:∀c∈es,c.length=n':=by
      rw[←he]
      intro c ib
      obtain⟨i,hi,rfl⟩:=List.mem_map.1 ib
      simp at hi
      have:i*n'+n'≤len*n':=by rw[←Nat.succ_mul];exact Nat.mul_le_mul_right _ hi
      simp;omega
     have gI:∀m,m≤len→((List.range m).map fun i=>(cs.drop (off+i*n')).take n').flatten=(cs.drop off).take (m*n'):=by
      intro m
      induction m with
      | zero=>intro _;simp
      | succ m ih =>
       intro hm
       rw[List.range_succ,List.map_append,List.flatten_append,ih (by omega)]
       simp only[List.map_cons,List.map_nil,List.flatten_cons,List.flatten_nil,List.append_nil]
       rw[Nat.succ_mul,List.take_add,List.drop_drop]
     have lr:es.flatten=(cs.drop off).take (len*n'):=by rw[←he];exact gI len (Nat.le_refl _)
     have hp:gG H (len*n') (.ptr b off)=some ((cs.drop off).take (len*n')):=by simp[gG,hb,hle]
     obtain⟨r',o',vs,e1,e2,e3,e4,e5⟩:=fj h (.ptr hφ) hp
     cases e1
     refine⟨some ⟨r,o+off,none⟩,cap,vs,by rw[hlen],by omega,by simp,fun a' ha=>?_,by rw[lr];exact e4,by rw[e2,hlen],by rw[lr];exact e5,hn⟩
     cases ha
     exact⟨fun _=>rfl,fun j v hj=>by rw[a8];exact e3 j v hj⟩
    ·simp at he
   | map _=>simp[hb]at he
   | tok _=>simp[hb]at he
   | _=>simp[hb]at he
 | str s=>exact absurd rfl (hs s)
 | _=>simp[aJ]at he
theorem ic:∀(es:List (List T)) (l:List UInt8),bytesOf es=some l→∃ns:List Int,es=ns.map (fun n=>[T.int .u8 n])∧l=ns.map (fun n=>UInt8.ofNat n.toNat)
 | [],l,h=>⟨[],rfl,by simpa[bytesOf]using h.symm⟩
 | [.int .u8 n] :: es,l,h=>by
  simp only[bytesOf,Option.map_eq_some_iff]at h
  obtain⟨l',h1,rfl⟩:=h
  obtain⟨ns,rfl,rfl⟩:=ic es l' h1
  exact⟨n :: ns,rfl,rfl⟩
 | [] :: es,l,h=>by simp[bytesOf]at h
 | (_ :: _ :: _) :: es,l,h=>by simp[bytesOf]at h
 | [.int .i8 n] :: es,l,h=>by simp[bytesOf]at h
 | [.int .i16 n] :: es,l,h=>by simp[bytesOf]at h
 | [.int .i32 n] :: es,l,h=>by simp[bytesOf]at h
 | [.int .i64 n] :: es,l,h=>by simp[bytesOf]at h
 | [.int .u16 n] :: es,l,h=>by simp[bytesOf]at h
 | [.int .u32 n] :: es,l,h=>by simp[bytesOf]at h
 | [.int .u64 n] :: es,l,h=>by simp[bytesOf]at h
 | [.bool _] :: es,l,h=>by simp[bytesOf]at h
 | [.str _] :: es,l,h=>by simp[bytesOf]at h
 | [.aF] :: es,l,h=>by simp[bytesOf]at h
 | [.ptr _ _] :: es,l,h=>by simp[bytesOf]at h
 | [.cD _] :: es,l,h=>by simp[bytesOf]at h
 | [.b7] :: es,l,h=>by simp[bytesOf]at h
 | [.map _] :: es,l,h=>by simp[bytesOf]at h
 | [.sl _ _] :: es,l,h=>by simp[bytesOf]at h
 | [.aQ _ _ _ _] :: es,l,h=>by simp[bytesOf]at h
 | [.di] :: es,l,h=>by simp[bytesOf]at h
 | [.fn _ _] :: es,l,h=>by simp[bytesOf]at h
 | [.cE] :: es,l,h=>by simp[bytesOf]at h
 | [.agg _] :: es,l,h=>by simp[bytesOf]at h
 | [.bg _] :: es,l,h=>by simp[bytesOf]at h
theorem foldl_push (ns:List Int):∀(b:ByteArray),ns.foldl (fun r n=>r.push (UInt8.ofNat n.toNat)) b=⟨b.data++(ns.map (fun n=>UInt8.ofNat n.toNat)).toArray⟩:=by
 induction ns with
 | nil=>intro b;simp
 | cons n ns ih=>intro b;rw[List.foldl_cons,ih];cases b;simp[ByteArray.push]
theorem zr (ns:List Int):(ns.map fun n=>[T.int .u8 n]).flatten=ns.map (T.int .u8):=by
 induction ns with
 | nil=>rfl
 | cons n ns ih=>simp only[List.map_cons,List.flatten_cons,ih];rfl
theorem ua {src dst e:TypeId}{x:T}{vx:Value}{es:List (List T)}{l:List UInt8}(hs:P.underlying src=some (.slice e))(hb:P.underlying e=some (.int .u8))(hd:P.underlying dst=some .string)
  (h:SR w0 g H w) (hx:VR g w x vx) (he:aJ H 1 x=some es) (hn:∀s,x≠.str s) (hl:bytesOf es=some l):aI P w0 g H w (convert src dst vx) (.str ⟨l.toArray⟩) H:=by
 obtain⟨a,cap,vs,rfl,_,h1,h2,h3,h4,h5,_⟩:=fI h hx he hn
 obtain⟨ns,rfl,rfl⟩:=ic es l hl
 refine aI.same h ?_ (.str _)
 rw[run_convert_bytes_string w src dst e a _ cap hs hb hd]
 cases a with
 | none =>
  have:=h1 rfl
  have tq:ns=[]:=by simpa using this.1
  subst tq
  simp[Conv.bytesToString];rfl
 | some a =>
  obtain⟨_,h6⟩:=h2 a rfl
  have fZ:vs=ns.map (Value.int .u8):=by
   apply List.ext_getElem?
   intro i
   have hlen:vs.length=ns.length:=by simpa using h4
   by_cases hi:i<ns.length
   ·have hv:vs[i]?=some vs[i]:=List.getElem?_eq_getElem (by omega)
    have ht:((ns.map fun n=>[T.int .u8 n]).flatten)[i]?=some (T.int .u8 ns[i]):=by
     rw[zr];simp[hi]
    have:=h3.2 i _ _ ht hv
    rw[hv]
    simp only[List.getElem?_map,List.getElem?_eq_getElem hi,Option.map_some]
    congr 1
    generalize vs[i]=vv at this
    cases this;rfl
   ·rw[List.getElem?_eq_none (by omega),List.getElem?_eq_none (by simpa using hi)]
  have:=run_loadCells_list (P:=P) w a vs h6
  rw[h4]at this
  have hl:(ns.map fun n=>[T.int .u8 n]).length*1=(ns.map fun n=>[T.int .u8 n]).length:=Nat.mul_one _
  rw[hl]at this
  rw[run_bytesToString w a _ cap ns (by rw[this,fZ]),foldl_push]
  show Result.ok (Value.string ⟨#[]++_⟩) w=_
  simp
end
section
variable {P:Program} {w0 w:World} {g:Ctx} {H:aa}
def ie:Value→Option T
 | .int k n=>some (.int k n)
 | .bool b=>some (.bool b)
 | .string s=>some (.str s)
 | .pointer none=>some .aF
 | .slice none 0 0=>some (.sl .nil [])
 | .map none=>some .b7
 | .nilFunc=>some .di
 | .nilIface=>some .cE
 | _=>none
def bO:List Value→Option (List T)
 | []=>some []
 | v :: vs=>match ie v,bO vs with
  | some t,some ts=>some (t :: ts)
  | _,_=>none
def fk:Value→Option T
 | .agg cs=>(bO cs.toList).map .agg
 | .tuple cs=>if cs.size=0 then some (.bg [])else none
 | v=>ie v
theorem jw {v:Value}{t:T}(h:ie v=some t):VR g w t v∧t.one=true:=by
 unfold ie at h
 split at h<;>simp at h<;>subst h
 ·exact⟨.int _ _,rfl⟩
 ·exact⟨.bool _,rfl⟩
 ·exact⟨.str _,rfl⟩
 ·exact⟨.aF,rfl⟩
 ·exact⟨.slnil,rfl⟩
 ·exact⟨.b7,rfl⟩
 ·exact⟨.di,rfl⟩
 ·exact⟨.cE,rfl⟩
theorem bu:∀(vs:List Value) (ts:List T),bO vs=some ts→ax g w ts vs∧aS ts
 | [],ts,h=>by simp[bO]at h;subst h;exact⟨ax.nil,by simp[aS]⟩
 | v :: vs,ts,h=>by
  simp only[bO]at h
  cases h1:ie v with
  | none=>simp[h1]at h
  | some t =>
   cases h2:bO vs with
   | none=>simp[h1,h2]at h
   | some xw =>
    simp[h1,h2]at h;subst h
    obtain⟨a,b⟩:=jw (g:=g) (w:=w) h1
    obtain⟨c,d⟩:=bu vs xw h2
    exact⟨ax.cons a c,by intro x hx;rcases List.mem_cons.1 hx with rfl|hx;exact b;exact d x hx⟩
theorem eN {v:Value}{t:T}(h:fk v=some t):VR g w t v:=by
 unfold fk at h
 split at h
 ·rename_i cs
  simp only[Option.map_eq_some_iff]at h
  obtain⟨ts,h1,rfl⟩:=h
  obtain⟨a,b⟩:=bu (g:=g) (w:=w) _ _ h1
  have:=a.agg b
  simpa using this
 ·rename_i cs
  split at h
  ·rename_i hs
   simp at h;subst h
   have:cs=#[]:=Array.eq_empty_of_size_eq_zero hs
   subst this
   exact .bg rfl (by simp)
  ·simp at h
 ·exact(jw h).1
theorem bD {x:T}{vx:Value}{i:Nat}(hx:VR g w x vx)(h:aR x=some i):∃(k:IntKind) (n:Int),vx=.int k n∧0≤n∧n.toNat=i:=by
 cases hx<;>simp[aR]at h
 exact⟨_,_,rfl,h.1,h.2⟩
theorem oY {cs:List T}{r o off:Nat}(h:VR g w (.cD cs) (.pointer (some ⟨r,o,none⟩))):VR g w (.cD (cs.drop off)) (.pointer (some ⟨r,o+off,none⟩)):=by
 cases h with
 | cD a7 h1 h2 =>
  refine .cD (fun j=>a7 (off+j)) (fun j t e=>?_) (fun j t e=>?_)
  ·rw[List.getElem?_drop]at e
   have:=h1 (off+j) t e
   exact⟨this.1,by rw[Nat.add_assoc];exact this.2⟩
  ·rw[List.getElem?_drop]at e
   exact h2 (off+j) t e
theorem ub {ty:TypeId}{fs:Array Field}{i:Nat}{f:Field}{fi:TypeInfo}{x t:T}{vx:Value}(hu:P.underlying ty=some (.struct fs))(hf:fs[i]?=some f)(hi:P.info? f.type=some fi)(hz:fi.size≠0)
  (h:SR w0 g H w) (hx:VR g w x vx) (he:kf f.offset x=some t) :
  aI P w0 g H w (Instr.fieldAt ty vx i) t H:=by
 cases hx<;>simp[kf]at he
 case ptr b off r o q hφ =>
  subst he
  refine aI.same h (v:=.pointer (some ⟨r,o+(off+f.offset),none⟩)) ?_ (.ptr hφ)
  simp[Instr.fieldAt,Instr.sureAddr,run_underlying hu,hf,fieldPlace,sizeOf,ar hi,hz,a8,Nat.add_assoc]
 case cD cs r o a7 h1 h2 =>
  obtain⟨_,rfl⟩:=he
  refine aI.same h (v:=.pointer (some ⟨r,o+f.offset,none⟩)) ?_ (oY (.cD a7 h1 h2))
  simp[Instr.fieldAt,Instr.sureAddr,run_underlying hu,hf,fieldPlace,sizeOf,ar hi,hz,a8]
theorem lu {ty:TypeId}{d:TypeDesc}{i:TypeInfo}{ag:Bool}{n off:Nat}{cs:List T}{vs:List Value}{t:T}(hd:P.underlying ty=some d)(hi:P.info? ty=some i)(pM:bC d=ag)(hn:i.size=n)
  (hv:ax g w cs vs) (ho:aS cs) (hle:off+n≤cs.length) (he:valOf ag ((cs.drop off).take n)=some t):∃v,(part ty vs.toArray off).run P w=.ok v w∧VR g w t v:=by
 have h1:=(hv.drop off).take n
 have h2:aS ((cs.drop off).take n):=fun x hx=>ho x (List.mem_of_mem_drop (List.mem_of_mem_take hx))
 obtain⟨ha,hb⟩:=hU h1 h2 he
 cases ag with
 | true =>
  refine⟨_,?_,ha rfl⟩
  simp[part,bN hd,pM,sizeOf,ar hi,hn]
 | false =>
  obtain⟨v,h3,h4⟩:=hb rfl
  refine⟨v,?_,h4⟩
  have h5:vs[off]?=some v:=by
   have:((vs.drop off).take n)[0]?=some v:=by rw[h3];rfl
   rw[List.getElem?_take]at this
   split at this
   ·rw[List.getElem?_drop]at this;simpa using this
   ·simp at this
  simp[part,bN hd,pM,h5]
theorem uc {ty:TypeId}{fs:Array Field}{i:Nat}{f:Field}{fi:TypeInfo}{d:TypeDesc}{cs:List T}{t:T}{vx:Value}{ag:Bool}(hu:P.underlying ty=some (.struct fs))(hf:fs[i]?=some f)(hd:P.underlying f.type=some d)(hi:P.info? f.type=some fi)
  (pM:bC d=ag) (h:SR w0 g H w) (hx:VR g w (.agg cs) vx) (hle:f.offset+fi.size≤cs.length) (he:valOf ag ((cs.drop f.offset).take fi.size)=some t):aI P w0 g H w (Instr.field ty vx i) t H:=by
 obtain⟨vs,rfl,h1,h2⟩:=hx.cg
 obtain⟨v,hr,hv⟩:=lu (P:=P) hd hi pM rfl h1 h2 hle he
 exact aI.same h (by simp[Instr.field,run_underlying hu,hf,asAgg,hr]) hv
theorem ud {ty elem:TypeId}{ei:TypeInfo}{x ix t:T}{i:Nat}{vx vi:Value}(hu:P.underlying ty=some (.slice elem))(hi:P.info? elem=some ei)
  (h:SR w0 g H w) (hx:VR g w x vx) (qc:VR g w ix vi) (hn:aR ix=some i) (he:tK ei.size i x=some t):aI P w0 g H w (Instr.indexAt ty vx vi) t H:=by
 obtain⟨k,m,rfl,oZ,wb⟩:=bD qc hn
 cases hx<;>simp[tK]at he
 case sl k' es r o cap n a7 hk hc wc h1 h2 =>
  cases eY:es[i]? with
  | none=>simp[eY]at he
  | some c =>
   simp[eY]at he
   obtain⟨⟨g6,aG⟩,rfl⟩:=he
   have aD:i<es.length:=(List.getElem?_eq_some_iff.1 eY).1
   have Iu:c.length=n:=wc c (List.mem_of_getElem? eY)
   have tZ:n=ei.size:=by omega
   subst tZ
   refine aI.same h (v:=.pointer (some ⟨r,o+i*ei.size,none⟩)) ?_ (.cD (a7 i) (fun j t e=>h1 i j c t eY e) (fun j t e=>h2 i j c t eY e))
   have mS:m<es.length:=by omega
   simp[Instr.indexAt,asIntOf,run_underlying hu,oZ,mS,sizeOf,ar hi,a8,wb]
 case aQ b off len n r o q cap hφ hc hq =>
  obtain⟨⟨rfl,aD,aG⟩,rfl⟩:=he
  refine aI.same h (v:=.pointer (some ⟨r,o+(off+i*ei.size),none⟩)) ?_ (.ptr hφ)
  have mS:m<len:=by omega
  simp[Instr.indexAt,asIntOf,run_underlying hu,oZ,mS,sizeOf,ar hi,a8,wb,Nat.add_assoc]
theorem ue {ty elem:TypeId}{len:Nat}{ei:TypeInfo}{ix:T}{b off i:Nat}{vx vi:Value}(hu:P.underlying ty=some (.array len elem))(hi:P.info? elem=some ei)
  (h:SR w0 g H w) (hx:VR g w (.ptr b off) vx) (qc:VR g w ix vi) (hn:aR ix=some i) (aD:i<len):aI P w0 g H w (Instr.indexAt ty vx vi) (.ptr b (off+i*ei.size)) H:=by
 obtain⟨k,m,rfl,oZ,wb⟩:=bD qc hn
 cases hx with
 | @ptr _ _ r o q hφ =>
  refine aI.same h (v:=.pointer (some ⟨r,o+(off+i*ei.size),none⟩)) ?_ (.ptr hφ)
  have mS:m<len:=by omega
  simp[Instr.indexAt,Instr.sureAddr,asIntOf,run_underlying hu,oZ,mS,sizeOf,ar hi,a8,wb,Nat.add_assoc]
theorem uf {ty:TypeId}{ix:T}{s:ByteArray}{i:Nat}{c:UInt8}{vx vi:Value}(hu:P.underlying ty=some .string)
  (h:SR w0 g H w) (hx:VR g w (.str s) vx) (qc:VR g w ix vi) (hn:aR ix=some i) (hc:s.data[i]?=some c):aI P w0 g H w (Instr.index ty vx vi) (.int .u8 c.toNat) H:=by
 obtain⟨k,m,rfl,oZ,wb⟩:=bD qc hn
 cases hx
 refine aI.same h ?_ (.int _ _)
 have ib:s[i]?=some c:=by
  have aD:i<s.data.size:=(Array.getElem?_eq_some_iff.1 hc).1
  have h2:=(Array.getElem?_eq_some_iff.1 hc).2
  have CO:i<s.size:=aD
  rw[getElem?_pos s i CO]
  exact congrArg some h2
 simp[Instr.index,asIntOf,run_underlying hu,oZ,wb,ib]
theorem ug {ty elem:TypeId}{len i:Nat}{ei:TypeInfo}{d:TypeDesc}{ag:Bool}{ix t:T}{cs:List T}{vx vi:Value}(hu:P.underlying ty=some (.array len elem))(hd:P.underlying elem=some d)(hi:P.info? elem=some ei)(pM:bC d=ag)
  (h:SR w0 g H w) (hx:VR g w (.agg cs) vx) (qc:VR g w ix vi) (hn:aR ix=some i) (aD:i<len) (hle:i*ei.size+ei.size≤cs.length) (he:valOf ag ((cs.drop (i*ei.size)).take ei.size)=some t):aI P w0 g H w (Instr.index ty vx vi) t H:=by
 obtain⟨k,m,rfl,oZ,wb⟩:=bD qc hn
 obtain⟨vs,rfl,h1,h2⟩:=hx.cg
 obtain⟨v,hr,hv⟩:=lu (P:=P) hd hi pM rfl h1 h2 hle he
 have mS:m<len:=by omega
 exact aI.same h (by simp[Instr.index,asIntOf,run_underlying hu,oZ,mS,sizeOf,ar hi,wb,hr]) hv
def OV (g:Ctx)(w:World)(R:ai):Option X→Option Value→Prop
 | none,none=>True
 | some x,some v=>VR g w (x.ev R) v
 | _,_=>False
def xD (l:Nat):Option Value→Prop
 | none=>l=0
 | some v=>∃k n,v=.int k n∧0≤n∧n.toNat=l
theorem run_sliceBound {k:IntKind}{n:Int}{y:Nat}{c:BoundsCode}(h0:0≤n)(hy:n.toNat≤y):(Instr.sliceBound (.int k n) y c).run P w=.ok n.toNat w:=by
 have:n≤y:=by omega
 simp[Instr.sliceBound,asIntOf,h0,this]
theorem b8 {R:ai}{qd:Bool}{len cap d l hh:Nat}{lo hi:Option X}{dK ec:Option Value}(iW:OV g w R lo dK)
  (lx:OV g w R hi ec) (hl:cU R 0 lo=some l) (kj:cU R d hi=some hh) (hd:hi=none→d=len) (h1:l≤hh) (h2:hh≤cap) :
  (Instr.sliceBounds qd len cap dK ec none).run P w=.ok (l,hh,cap) w:=by
 have eh:∀c,(match ec with|some v=>Instr.sliceBound v cap c|none=>pure len:Sem Nat).run P w=.ok hh w:=by
  intro c
  cases hi with
  | none =>
   cases ec with
   | none=>simp[cU]at kj;simp[←kj,hd rfl]
   | some _=>exact lx.elim
  | some x =>
   cases ec with
   | none=>exact lx.elim
   | some v =>
    obtain⟨k,n,rfl,a,b⟩:=bD lx kj
    subst b
    exact run_sliceBound a h2
 have el:∀c,(match dK with|some v=>Instr.sliceBound v hh c|none=>pure 0:Sem Nat).run P w=.ok l w:=by
  intro c
  cases lo with
  | none =>
   cases dK with
   | none=>simp[cU]at hl;simp[←hl]
   | some _=>exact iW.elim
  | some x =>
   cases dK with
   | none=>exact iW.elim
   | some v =>
    obtain⟨k,n,rfl,a,b⟩:=bD iW hl
    subst b
    exact run_sliceBound a h1
 have Iv:=eh (if qd then .sliceAcap else .sliceAlen)
 have Iw:=el .sliceB
 cases ec<;>cases dK<;>simp_all [Instr.sliceBounds]
theorem uh {R:ai}{ty:TypeId}{s:ByteArray}{l hh:Nat}{lo hi:Option X}{dK ec:Option Value}{vx:Value}(hu:P.underlying ty=some .string)
  (h:SR w0 g H w) (hx:VR g w (.str s) vx) (iW:OV g w R lo dK)
  (lx:OV g w R hi ec) (hl:cU R 0 lo=some l) (kj:cU R s.size hi=some hh) (h1:l≤hh) (h2:hh≤s.size) :
  aI P w0 g H w (Instr.sliceAt ty vx dK ec none) (.str (s.extract l hh)) H:=by
 cases hx
 refine aI.same h ?_ (.str _)
 have:=b8 (P:=P) (qd:=false) iW lx hl kj (fun _=>rfl) h1 h2
 simp[Instr.sliceAt,run_underlying hu,Instr.slice,this]
theorem nH {k k':SK}{es:List (List T)}{r o cap ko n l m:Nat}{a:Option Addr}(a7:Nat→Nat→Value)(hn:∀c∈es,c.length=n)
  (h1:∀(i j:Nat) (c:List T) (t:T),es[i]?=some c→c[j]?=some t→t.one=true∧mF g w r (o+i*n+j) (a7 i j))
  (h2:∀(i j:Nat) (c:List T) (t:T),es[i]?=some c→c[j]?=some t→VR g w t (a7 i j))
  (Ix:l≤m) (hm:m≤es.length) (fJ:m-l≤ko) (hk:oS g k' r (o+l*n) (m-l) ko n) :
  VR g w (.sl k' ((es.take m).drop l)) (.slice (some ⟨r,o+l*n,none⟩) (m-l) ko):=by
 have hlen:((es.take m).drop l).length=m-l:=by simp;omega
 have get:∀i c,((es.take m).drop l)[i]?=some c→es[l+i]?=some c:=by
  intro i c hi
  rw[List.getElem?_drop,List.getElem?_take]at hi
  split at hi
  ·exact hi
  ·simp at hi
 have:=VR.sl (g:=g) (w:=w) (k:=k') (es:=(es.take m).drop l) (r:=r) (o:=o+l*n) (cap:=ko) (n:=n) (fun i j=>a7 (l+i) j) (by rw[hlen];exact hk) (by omega)
  (fun c hc=>hn c (List.mem_of_mem_take (List.mem_of_mem_drop hc)))
  (fun i j c t a b=>⟨(h1 (l+i) j c t (get i c a) b).1,by
   have:=(h1 (l+i) j c t (get i c a) b).2
   rwa[show o+l*n+i*n+j=o+(l+i)*n+j by rw[Nat.add_mul];omega]⟩)
  (fun i j c t a b=>h2 (l+i) j c t (get i c a) b)
 rwa[hlen]at this
theorem ui {R : ai}{ty elem : TypeId}{ei : TypeInfo}{k : SK}{es : List (List T)}{l hh : Nat}{lo hi : Option X}{dK ec : Option Value}{vx : Value}(hu : P.underlying ty = some (.slice elem))(fY : P.info? elem = some ei)
    (h : SR w0 g H w) (hx : VR g w (.sl k es) vx) (iW : OV g w R lo dK)
    (lx : OV g w R hi ec) (hl : cU R 0 lo = some l) (kj : cU R es.length hi = some hh) (h1 : l ≤ hh) (h2 : hh ≤ es.length) (et : es.all (·.length == ei.size) = true) :
    aI P w0 g H w (Instr.sliceAt ty vx dK ec none) (.sl (k.cut es.length l hh) ((es.take hh).drop l)) H := by
  have hZ : ∀c ∈ es, c.length = ei.size := by simpa using et
  cases hx with
  | slnil =>
    simp at h2; subst h2
    have y0 : l = 0 := by omega
    subst y0
    have := b8 (P := P) (w := w) (g := g) (qd := true) (cap := 0) iW lx hl kj (fun _ => rfl) h1 (Nat.le_refl _)
    simp only[List.length_nil]at this
    exact aI.same h (v := .slice none 0 0) (by simp[Instr.sliceAt, run_underlying hu, Instr.slice, this, sizeOf, ar fY]) (by simpa[SK.cut]using VR.slnil)
  | dn a =>
    simp at h2; subst h2
    have y0 : l = 0 := by omega
    subst y0
    have := b8 (P := P) (w := w) (g := g) (qd := true) (cap := 0) iW lx hl kj (fun _ => rfl) h1 (Nat.le_refl _)
    simp only[List.length_nil]at this
    exact aI.same h (v := .slice a 0 0) (by cases a<;>simp[Instr.sliceAt, run_underlying hu, Instr.slice, this, sizeOf, ar fY]) (by simpa[SK.cut]using VR.dn a)
  | @sl _ _ r o cap n a7 hk hc hn h3 h4 =>
    have := b8 (P := P) (w := w) (g := g) (qd := true) (cap := cap) iW lx hl kj (fun _ => rfl) h1 (by omega)
    have hr : (Instr.sliceAt ty (.slice (some ⟨r, o, none⟩) es.length cap) dK ec none).run P w = .ok (.slice (some (if cap = l then⟨r, o, none⟩else⟨r, o + l * ei.size, none⟩)) (hh - l) (cap - l)) w := by
      simp[Instr.sliceAt, run_underlying hu, Instr.slice, this, sizeOf, ar fY, a8]
      split<;>rfl
    by_cases he : l<hh
    · -- y6 is left
      have g6 : cap ≠ l := by omega
      simp only[g6, if_false]at hr
      have tZ : n = ei.size := by
        cases es with
        | nil => simp at h2; omega
        | cons c es => have a := hn c (by simp); have b := hZ c (by simp); omega
      subst tZ
      refine aI.same h hr (nH (k := k) (cap := cap) (a := none) a7 hn h3 h4 h1 h2 (by omega) ?_)
      cases k with
      | nil => exact hk.elim
      | arg => trivial
      | full =>
        simp only[SK.cut]; split
        · rename_i e; simp only[oS]at hk ⊢; omega
        · trivial
      | own t e =>
        simp only[SK.cut]; split
        · rename_i e'
          simp only[oS]at hk ⊢
          refine⟨?_, by omega⟩
          rw[hk.1]
          have e1 : o + l * ei.size + (hh - l) * ei.size = o + es.length * ei.size := by
            rw[Nat.add_assoc, ←Nat.add_mul]; congr 2; omega
          have e2 : o + l * ei.size + (cap - l) * ei.size = o + cap * ei.size := by
            rw[Nat.add_assoc, ←Nat.add_mul]; congr 2; omega
          rw[e1, e2]
        · trivial
    · have hle : l = hh := by omega
      subst hle
      have hd : (es.take l).drop l = [] := by simp
      rw[hd]
      have vr : ∀a : Addr, a.spot = none → VR g w (.sl .arg []) (.slice (some a) 0 (cap - l)) := by
        intro a ha
        obtain⟨ab, ao, as⟩ := a
        simp at ha; subst ha
        exact .sl (n := 0) (fun _ _ => .nilIface) trivial (by simp) (by simp) (by simp) (by simp)
      have jx : k.cut es.length l l = .arg ∨ (k.cut es.length l l = .full ∧ cap = l) := by
        cases k with
        | nil => exact hk.elim
        | arg => exact .inl rfl
        | full => simp only[SK.cut]; split
                  · rename_i e; right; simp only[oS]at hk; exact⟨rfl, by omega⟩
                  · exact .inl rfl
        | own t e => simp only[SK.cut]; split
                     · omega
                     · exact .inl rfl
      rcases jx with e|⟨e, g6⟩
      · rw[e]
        refine aI.same h hr ?_
        rw[Nat.sub_self]
        exact vr _ (by split<;>rfl)
      · rw[e]
        refine aI.same h hr ?_
        rw[Nat.sub_self, g6, Nat.sub_self]
        have mH : ∀a : Addr, a.spot = none → VR g w (.sl .full []) (.slice (some a) 0 0) := by
          intro a ha
          obtain⟨ab, ao, as⟩ := a
          simp at ha; subst ha
          exact .sl (n := 0) (fun _ _ => .nilIface) rfl (by simp) (by simp) (by simp) (by simp)
        exact mH _ (by split<;>rfl)
theorem gb {qd:Bool}{len cap l hh m:Nat}{dK:Option Value}{k:IntKind}{nm:Int}{vh:Value}
  (oZ:0≤nm) (CP:nm.toNat=m) (Ff:m≤cap) (kj:∃k n,vh=.int k n∧0≤n∧n.toNat=hh) (h2:hh≤m)
  (hl:xD l dK) (h1:l≤hh) :
  (Instr.sliceBounds qd len cap dK (some vh) (some (.int k nm))).run P w=.ok (l,hh,m) w:=by
 subst CP
 obtain⟨kh,nh,rfl,a,b⟩:=kj
 subst b
 cases dK with
 | none=>simp only[xD]at hl;subst hl;simp[Instr.sliceBounds,run_sliceBound oZ Ff,run_sliceBound a h2]
 | some v =>
  obtain⟨kl,nl,rfl,c,d⟩:=hl
  subst d
  simp[Instr.sliceBounds,run_sliceBound oZ Ff,run_sliceBound a h2,run_sliceBound c h1]
theorem qe {R:ai}{ty elem:TypeId}{ei:TypeInfo}{k:SK}{es:List (List T)}{l hh m:Nat}{lo:Option X}{hi mx:X}{dK:Option Value}{ec vm:Value}{vx:Value}(hu:P.underlying ty=some (.slice elem))(fY:P.info? elem=some ei)
  (h:SR w0 g H w) (hx:VR g w (.sl k es) vx) (iW:OV g w R lo dK)
  (lx:VR g w (hi.ev R) ec) (FY:VR g w (mx.ev R) vm) (hl:cU R 0 lo=some l) (kj:aR (hi.ev R)=some hh) (hm:aR (mx.ev R)=some m) (h1:l≤hh) (h2:hh≤m) (zs:m≤es.length) (et:es.all (·.length==ei.size)=true) :
  aI P w0 g H w (Instr.sliceAt ty vx dK (some ec) (some vm)) (.sl (if k=.nil then .nil else if es=[]∧k=.arg then .arg else if hh=m then .full else .arg) ((es.take hh).drop l)) H:=by
 have hZ:∀c∈es,c.length=ei.size:=by simpa using et
 have uj:xD l dK:=by
  cases lo<;>cases dK
  ·simp[cU]at hl;exact hl.symm
  ·exact iW.elim
  ·exact iW.elim
  ·exact bD iW hl
 obtain⟨km,nm,rfl,oZ,CP⟩:=bD FY hm
 have hb:∀cap,m≤cap→(Instr.sliceBounds true es.length cap dK (some ec) (some (.int km nm))).run P w=.ok (l,hh,m) w :=
  fun cap hc=>gb oZ CP hc (bD lx kj) h2 uj h1
 cases hx with
 | slnil =>
  simp at zs;subst zs
  obtain rfl:hh=0:=by omega
  obtain rfl:l=0:=by omega
  have:=hb 0 (Nat.le_refl _)
  simp only[List.length_nil]at this
  exact aI.same h (v:=.slice none 0 0) (by simp[Instr.sliceAt,run_underlying hu,Instr.slice,this,sizeOf,ar fY]) (by simpa using VR.slnil)
 | dn a =>
  simp at zs;subst zs
  obtain rfl:hh=0:=by omega
  obtain rfl:l=0:=by omega
  have:=hb 0 (Nat.le_refl _)
  simp only[List.length_nil]at this
  exact aI.same h (v:=.slice a 0 0) (by cases a<;>simp[Instr.sliceAt,run_underlying hu,Instr.slice,this,sizeOf,ar fY]) (by simpa using VR.dn a)
 | @sl _ _ r o cap n a7 hk hc hn h3 h4 =>
  have zt:k≠.nil:=by rintro rfl;exact hk.elim
  simp only[zt,if_false]
  have hr:(Instr.sliceAt ty (.slice (some ⟨r,o,none⟩) es.length cap) dK (some ec) (some (.int km nm))).run P w=.ok (.slice (some (if m=l then⟨r,o,none⟩else⟨r,o+l*ei.size,none⟩)) (hh-l) (m-l)) w:=by
   simp[Instr.sliceAt,run_underlying hu,Instr.slice,hb cap (by omega),sizeOf,ar fY,a8]
   split<;>rfl
  by_cases he:l<hh
  ·have g6:m≠l:=by omega
   simp only[g6,if_false]at hr
   have aG:es≠[]:=by rintro rfl;simp at zs;omega
   have tZ:n=ei.size:=by
    cases es with
    | nil=>exact absurd rfl aG
    | cons c es=>have a:=hn c (by simp);have b:=hZ c (by simp);omega
   subst tZ
   simp only[aG,false_and,if_false]
   refine aI.same h hr (nH (k:=k) (cap:=cap) (a:=none) a7 hn h3 h4 h1 (by omega) (by omega) ?_)
   split
   ·rename_i e;simp only[oS];omega
   ·trivial
  ·obtain rfl:l=hh:=by omega
   have hd:(es.take l).drop l=[]:=by simp
   rw[hd]
   have mH:∀(a:Addr) (c:Nat) (k':SK),a.spot=none→(k'=.arg∨(k'=.full∧c=0))→VR g w (.sl k' []) (.slice (some a) 0 c):=by
    intro a c k' ha nI
    obtain⟨ab,ao,as⟩:=a
    simp at ha;subst ha
    refine .sl (n:=0) (fun _ _=>.nilIface) ?_ (by simp) (by simp) (by simp) (by simp)
    rcases nI with rfl|⟨rfl,rfl⟩
    ·trivial
    ·rfl
   refine aI.same h hr ?_
   rw[Nat.sub_self]
   refine mH _ _ _ (by split<;>rfl) ?_
   split
   ·exact .inl rfl
   ·split
    ·exact .inr ⟨rfl,by omega⟩
    ·exact .inl rfl
theorem qf {R:ai}{ty elem:TypeId}{ei:TypeInfo}{b off len l hh:Nat}{lo hi:Option X}{dK ec:Option Value}{vx:Value}(hu:P.underlying ty=some (.slice elem))(fY:P.info? elem=some ei)
  (h:SR w0 g H w) (hx:VR g w (.aQ b off len ei.size) vx) (iW:OV g w R lo dK)
  (lx:OV g w R hi ec) (hl:cU R 0 lo=some l) (kj:cU R len hi=some hh) (h1:l≤hh) (h2:hh≤len) :
  aI P w0 g H w (Instr.sliceAt ty vx dK ec none) (if l=hh then(if l=0 then .aQ b off 0 ei.size else .sl .arg [])else .aQ b (off+l*ei.size) (hh-l) ei.size) H:=by
 cases hx with
 | @aQ _ _ _ _ r o q cap hφ hc hq =>
  have:=b8 (P:=P) (w:=w) (g:=g) (qd:=true) (cap:=cap) iW lx hl kj (fun _=>rfl) h1 (by omega)
  have hr:(Instr.sliceAt ty (.slice (some ⟨r,o+off,none⟩) len cap) dK ec none).run P w=.ok (.slice (some (if cap=l then⟨r,o+off,none⟩else⟨r,o+off+l*ei.size,none⟩)) (hh-l) (cap-l)) w:=by
   simp[Instr.sliceAt,run_underlying hu,Instr.slice,this,sizeOf,ar fY,a8]
   split<;>rfl
  refine aI.same h hr ?_
  have key:∀a:Addr,a=⟨r,o+(off+l*ei.size),none⟩→(cap≠l∨l=0)→VR g w (.aQ b (off+l*ei.size) (hh-l) ei.size) (.slice (some a) (hh-l) (cap-l)):=by
   rintro a rfl g6
   refine .aQ hφ (by omega) ?_
   rw[←hq]
   have:l*ei.size+(cap-l)*ei.size=cap*ei.size:=by rw[←Nat.add_mul];congr 1;omega
   omega
  split
  ·rename_i e;subst e
   split
   ·rename_i e;subst e
    have:=key (if cap=0 then⟨r,o+off,none⟩else⟨r,o+off+0*ei.size,none⟩) (by split<;>simp) (.inr rfl)
    simpa using this
   ·rw[Nat.sub_self]
    have mH:∀(a:Addr) (c:Nat),a.spot=none→VR g w (.sl .arg []) (.slice (some a) 0 c):=by
     intro a c ha
     obtain⟨ab,ao,as⟩:=a
     simp at ha;subst ha
     exact .sl (n:=0) (fun _ _=>.nilIface) trivial (by simp) (by simp) (by simp) (by simp)
    exact mH _ _ (by split<;>rfl)
  ·have g6:cap≠l:=by omega
   exact key _ (by rw[if_neg g6,Nat.add_assoc]) (.inl g6)
theorem uk {R:ai}{ty elem:TypeId}{ei:TypeInfo}{b off len hh:Nat}{hi:X}{ec:Value}{vx:Value}(hu:P.underlying ty=some (.slice elem))(fY:P.info? elem=some ei)
  (h:SR w0 g H w) (hx:VR g w (.aQ b off len ei.size) vx)
  (lx:OV g w R (some hi) (some ec)) (kj:aR (hi.ev R)=some hh) (hn:ei.size≠0) (h0:0<hh) (hr:off+hh*ei.size≤pW H b) :
  aI P w0 g H w (Instr.sliceAt ty vx none (some ec) none) (.aQ b off hh ei.size) H:=by
 cases hx with
 | @aQ _ _ _ _ r o q cap hφ hc hq =>
  have kS:o+(off+hh*ei.size)≤q:=by
   unfold pW at hr
   split at hr
   ·rename_i cs hb
    have:=(h.du _ _ hb r o q hφ).1;omega
   ·rename_i cs hb
    have:=(h.du _ _ hb r o q hφ).1;omega
   ·have:0<hh*ei.size:=Nat.mul_pos h0 (Nat.pos_of_ne_zero hn)
    omega
  have fJ:hh≤cap:=by
   have h1:hh*ei.size≤cap*ei.size:=by omega
   exact Nat.le_of_mul_le_mul_right h1 (Nat.pos_of_ne_zero hn)
  have:=b8 (P:=P) (w:=w) (g:=g) (R:=R) (qd:=true) (d:=len) (len:=len) (cap:=cap) (lo:=none) (dK:=none) (l:=0) trivial lx rfl kj (fun _=>rfl) (Nat.zero_le _) fJ
  have hr:(Instr.sliceAt ty (.slice (some ⟨r,o+off,none⟩) len cap) none (some ec) none).run P w=.ok (.slice (some (if cap=0 then⟨r,o+off,none⟩else⟨r,o+off+0*ei.size,none⟩)) (hh-0) (cap-0)) w:=by
   simp[Instr.sliceAt,run_underlying hu,Instr.slice,this,sizeOf,ar fY,a8]
  refine aI.same h hr ?_
  have:VR g w (.aQ b off hh ei.size) (.slice (some ⟨r,o+off,none⟩) hh cap):=.aQ hφ fJ hq
  simpa using this
theorem qg {R:ai}{ty elem:TypeId}{ei:TypeInfo}{b off len c l hh:Nat}{lo hi:Option X}{dK ec:Option Value}{vx:Value}(hu:P.underlying ty=some (.slice elem))(fY:P.info? elem=some ei)
  (h:SR w0 g H w) (hx:VR g w (.bT b off len ei.size c) vx) (iW:OV g w R lo dK)
  (lx:OV g w R hi ec) (hl:cU R 0 lo=some l) (kj:cU R len hi=some hh) (h1:l≤hh) (h2:hh≤c) :
  aI P w0 g H w (Instr.sliceAt ty vx dK ec none) (if l<c∨l=0 then .bT b (off+l*ei.size) (hh-l) ei.size (c-l)else .sl .arg []) H:=by
 cases hx with
 | @bT _ _ _ _ r o q cap hφ hc hq =>
  have:=b8 (P:=P) (w:=w) (g:=g) (qd:=true) (cap:=c) iW lx hl kj (fun _=>rfl) h1 (by omega)
  have hr:(Instr.sliceAt ty (.slice (some ⟨r,o+off,none⟩) len c) dK ec none).run P w=.ok (.slice (some (if c=l then⟨r,o+off,none⟩else⟨r,o+off+l*ei.size,none⟩)) (hh-l) (c-l)) w:=by
   simp[Instr.sliceAt,run_underlying hu,Instr.slice,this,sizeOf,ar fY,a8]
   split<;>rfl
  refine aI.same h hr ?_
  by_cases h3:l<c∨l=0
  case neg =>
   rw[if_neg h3]
   have e0:hh-l=0:=by omega
   have mH:∀(a:Addr) (c:Nat),a.spot=none→VR g w (.sl .arg []) (.slice (some a) 0 c):=by
    intro a c ha
    obtain⟨ab,ao,as⟩:=a
    simp at ha;subst ha
    exact .sl (n:=0) (fun _ _=>.nilIface) trivial (by simp) (by simp) (by simp) (by simp)
   rw[e0]
   exact mH _ _ (by split<;>rfl)
  rw[if_pos h3]
  have e:(if c=l then(⟨r,o+off,none⟩:Addr)else⟨r,o+off+l*ei.size,none⟩)=⟨r,o+(off+l*ei.size),none⟩:=by
   split
   ·have:l=0:=by omega
    subst this;simp
   ·simp[Nat.add_assoc]
  rw[e]
  refine .bT hφ (by omega) ?_
  rw[←hq]
  have:l*ei.size+(c-l)*ei.size=c*ei.size:=by rw[←Nat.add_mul];congr 1;omega
  omega
end
section
variable {P:Program} {w0 w:World} {g:Ctx} {H:aa}
def fm (P:Program)(ty:TypeId):KT→Bool
 | .sc t=>match P.underlying ty with|some d=>tt t d|none=>false
 | .st ks=>match P.underlying ty with|some (.struct fs)=>flat P fs.toList 0 ks&&!P.stoodInHeld ty|_=>false
theorem qh {e:Bool}{n:Nat}{ty:TypeId}{d:TypeDesc}{k:kP}{v:Value}(hu:P.underlying ty=some d)(hk:tt k d=true):(Instr.checkKey e (n+1) ty v).run P w=.ok () w:=by
 rw[Instr.checkKey];simp only[Sem.run_bind,run_underlying hu,Result.andThen_ok]
 cases k<;>cases d<;>simp[tt]at hk<;>cases v<;>rfl
theorem fK {e:Bool}{n:Nat}:∀(fs:List Field) (off:Nat) (ks:List kP) (cs:List T) (xs:Array Value),flat P fs off ks=true→cs.length=ks.length →
  (∀(i:Nat) (t:T),cs[i]?=some t→∃v,xs[off+i]?=some v∧VR g w t v) →
  (forIn fs PUnit.unit (fun f _=>if f.name≠"_" then (do let x ← part f.type xs f.offset;Instr.checkKey e (n+1) f.type x;pure (ForInStep.yield PUnit.unit))
   else pure (ForInStep.yield PUnit.unit)):Sem PUnit).run P w=.ok PUnit.unit w
 | [],off,ks,cs,xs,hf,hl,hc=>by simp
 | f :: fs,off,ks,cs,xs,hf,hl,hc=>by
  cases ks with
  | nil=>simp[flat]at hf
  | cons k ks =>
   cases cs with
   | nil=>simp at hl
   | cons c cs =>
    simp only[flat,Bool.and_eq_true,beq_iff_eq,bne_iff_ne]at hf
    obtain⟨⟨⟨oX,qa⟩,tu⟩,bQ⟩:=hf
    cases hu:P.underlying f.type with
    | none=>simp[hu]at tu
    | some de =>
     simp[hu]at tu
     obtain⟨va,zq,Fe⟩:=hc 0 c rfl
     simp only[Nat.add_zero]at zq
     have ih:=fK (e:=e) (n:=n) fs (off+1) ks cs xs bQ (by simpa using hl) (fun i t hi=>by have:=hc (i+1) t (by simpa using hi);rwa[show off+1+i=off+(i+1) by omega])
     simp only[List.forIn_cons,Sem.run_bind,qa,ne_eq,not_false_eq_true,if_true,oX,ga hu tu zq,Result.andThen_ok,qh hu tu,Sem.run_pure]
     exact ih
theorem ig:∀(ks:List kP) (cs:List T),hasAll ks cs=true→cs.length=ks.length
 | [],[],_=>rfl
 | _ :: ks,_ :: cs,h=>by simp[hasAll]at h;simp[ig ks cs h.2]
 | [],_ :: _,h=>by simp[hasAll]at h
 | _ :: _,[],h=>by simp[hasAll]at h
theorem eu {e:Bool}{ty:TypeId}{kt:KT}{k:T}{vk:Value}(dU:fm P ty kt=true)(hk:VR g w k vk)(h:k.dt kt=true):(Instr.checkKey e 10000 ty vk).run P w=.ok () w:=by
 cases kt with
 | sc t =>
  simp only[fm]at dU
  cases hu:P.underlying ty with
  | none=>simp[hu]at dU
  | some d=>simp[hu]at dU;exact qh (n:=9999) hu dU
 | st ks =>
  simp only[fm]at dU
  cases hu:P.underlying ty with
  | none=>simp[hu]at dU
  | some d =>
   cases d<;>simp[hu]at dU
   rename_i fs
   cases k<;>simp[T.dt]at h
   rename_i cs
   obtain⟨xs,rfl,tv,_⟩:=hk.cg
   show(Instr.checkKey e (9998+1+1) ty _).run P w=_
   rw[Instr.checkKey];simp only[Sem.run_bind,run_underlying hu,Result.andThen_ok]
   rw[←Array.forIn_toList]
   rw[fK (g:=g) (e:=e) (n:=9998) fs.toList 0 ks cs xs.toArray dU.1 (ig _ _ h) (fun i t hi=>by simpa using tv.cj i t hi)]
   rfl
theorem qi {n:Nat}{ty:TypeId}{kt:KT}{a b:T}{va vb:Value}{r:Bool}(dU:fm P ty kt=true)(ha:VR g w a va)(hb:VR g w b vb)(hk:a.dt kt=true)(he:dk a b=some r) :
  (Op.equalIn (n+1+1) ty va vb).run P w=.ok r w:=by
 cases kt with
 | sc t =>
  simp only[fm]at dU
  cases hu:P.underlying ty with
  | none=>simp[hu]at dU
  | some d =>
   simp[hu]at dU
   have we:dz a b=some r:=by
    cases a<;>simp[T.dt]at hk<;>(first|exact he|(cases t<;>simp[T.mL]at hk))
   exact nG hu dU ha hb hk we
 | st ks =>
  simp only[fm]at dU
  cases hu:P.underlying ty with
  | none=>simp[hu]at dU
  | some d =>
   cases d<;>simp[hu]at dU
   rename_i fs
   cases a<;>simp[T.dt]at hk
   rename_i cs
   cases b<;>simp[dk,dz]at he
   rename_i ds
   obtain⟨xs,rfl,tv,_⟩:=ha.cg
   obtain⟨ys,rfl,CM,_⟩:=hb.cg
   exact jv hu dU.1 (by simpa using dU.2) hk tv CM he n
theorem mT {t:kP}{d:TypeDesc}{a b:T}{va vb:Value}{r:Bool}(hd:tt t d=true)(ha:VR g w a va)(hb:VR g w b vb)(hk:a.mL t=true)(he:dk a b=some r):Instr.sameNow d va vb=some r:=by
 cases t<;>cases d<;>simp[tt]at hd<;>cases ha<;>simp[T.mL]at hk<;>cases hb<;>simp[dk,dz]at he
 ·obtain⟨rfl,rfl⟩:=he;simp[Instr.sameNow]
 ·subst he;simp[Instr.sameNow,dj,beq_toListBytes]
 ·subst he;simp[Instr.sameNow]
theorem kp {ty:TypeId}{kt:KT}{k:T}{vk:Value}(dU:fm P ty kt=true)(hk:VR g w k vk)(h:k.dt kt=true)(es:List (T×T))(ah:List MapEntry)(hl:ah.length=es.length)
  (hh:∀(i:Nat) (e:T×T) (m:MapEntry),es[i]?=some e→ah[i]?=some m→VR g w e.1 m.key∧VR g w e.2 m.val) {r:Option Nat} (hr:bl k es=some r) :
  (Instr.findKey ty vk ah).run P w=.ok (r.bind fun i=>(ah[i]?).map fun m=>(i,m.val)) w:=by
 cases kt with
 | sc t =>
  simp only[fm]at dU
  cases hu:P.underlying ty with
  | none=>simp[hu]at dU
  | some d =>
   simp[hu]at dU
   have key:∀(es:List (T×T)) (ah:List MapEntry) (j:Nat) (r:Option Nat),ah.length=es.length→(∀(i:Nat) (e:T×T) (m:MapEntry),es[i]?=some e→ah[i]?=some m→VR g w e.1 m.key∧VR g w e.2 m.val) →
     bl k es=some r→Instr.findNow d vk ah j=some (r.bind fun i=>(ah[i]?).map fun m=>(j+i,m.val)):=by
    intro es
    induction es with
    | nil =>
     intro ah j r hl _ hr
     simp[bl]at hr;subst hr
     cases ah with
     | nil=>rfl
     | cons _ _=>simp at hl
    | cons e es ih =>
     intro ah j r hl hh hr
     cases ah with
     | nil=>simp at hl
     | cons m ah =>
      have h0:=hh 0 e m rfl rfl
      simp only[bl]at hr
      cases he:dk k e.1 with
      | none=>simp[he]at hr
      | some b =>
       have hs:=mT dU hk h0.1 h he
       cases b with
       | true=>simp[he]at hr;subst hr;simp[Instr.findNow,hs]
       | false =>
        simp only[he,Option.map_eq_some_iff]at hr
        obtain⟨r',h1,rfl⟩:=hr
        simp only[Instr.findNow,hs]
        rw[ih ah (j+1) r' (by simpa using hl) (fun i e' m' a b=>hh (i+1) e' m' (by simpa using a) (by simpa using b)) h1]
        cases r' with
        | none=>rfl
        | some i=>simp;cases ah[i]?<;>simp;omega
   have:=key es ah 0 r hl hh hr
   simp only[Instr.findKey,Sem.run_bind,run_underlying hu,Result.andThen_ok,this,Sem.run_pure]
   simp
 | st ks =>
  have CQ:=dU
  simp only[fm]at dU
  cases hu:P.underlying ty with
  | none=>simp[hu]at dU
  | some d =>
   cases d<;>simp[hu]at dU
   rename_i fs
   have key:∀(es:List (T×T)) (ah:List MapEntry) (j:Nat) (r:Option Nat),ah.length=es.length→(∀(i:Nat) (e:T×T) (m:MapEntry),es[i]?=some e→ah[i]?=some m→VR g w e.1 m.key∧VR g w e.2 m.val) →
     bl k es=some r→(Instr.findAsking ty vk ah j).run P w=.ok (r.bind fun i=>(ah[i]?).map fun m=>(j+i,m.val)) w:=by
    intro es
    induction es with
    | nil =>
     intro ah j r hl _ hr
     simp[bl]at hr;subst hr
     cases ah with
     | nil=>rfl
     | cons _ _=>simp at hl
    | cons e es ih =>
     intro ah j r hl hh hr
     cases ah with
     | nil=>simp at hl
     | cons m ah =>
      have h0:=hh 0 e m rfl rfl
      simp only[bl]at hr
      cases he:dk k e.1 with
      | none=>simp[he]at hr
      | some b =>
       have hs:(Op.equal ty vk m.key).run P w=.ok b w:=qi (n:=9998) CQ hk h0.1 h he
       cases b with
       | true=>simp[he]at hr;subst hr;simp[Instr.findAsking,hs]
       | false =>
        simp only[he,Option.map_eq_some_iff]at hr
        obtain⟨r',h1,rfl⟩:=hr
        simp only[Instr.findAsking,Sem.run_bind,hs,Result.andThen_ok,Bool.false_eq_true,if_false]
        rw[ih ah (j+1) r' (by simpa using hl) (fun i e' m' a b=>hh (i+1) e' m' (by simpa using a) (by simpa using b)) h1]
        cases r' with
        | none=>rfl
        | some i=>simp;cases ah[i]?<;>simp;omega
   have nI:=key es ah 0 r hl hh hr
   cases ah with
   | nil =>
    simp only[Instr.findKey,Sem.run_bind,run_underlying hu,Result.andThen_ok,Instr.findNow,Sem.run_pure]
    exact nI
   | cons m ah =>
    have:Instr.findNow (.struct fs) vk (m :: ah) 0=none:=by simp[Instr.findNow,Instr.sameNow]
    simp only[Instr.findKey,Sem.run_bind,run_underlying hu,Result.andThen_ok,this]
    simpa using nI
def qj (w:World)(vm:Value)(ah:Array MapEntry):Prop:=(vm=.map none∧ah=#[])∨∃r c,vm=.map (some r)∧w.heap[r]?=some (.map ah c)
theorem o3 {m:T}{vm:Value}{es:List (T×T)}(h:SR w0 g H w)(hm:VR g w m vm)(eY:cp H m=some es):∃ah,qj w vm ah∧bB g w es ah:=by
 cases hm<;>simp[cp]at eY
 ·subst eY;exact⟨#[],.inl ⟨rfl,rfl⟩,⟨rfl,by simp⟩⟩
 ·rename_i b r' o q hφ
  cases hb:H[b]? with
  | none=>simp[hb]at eY
  | some y =>
   cases y<;>simp[hb]at eY
   ·subst eY
    obtain⟨_,ah,c,h2,h3,_⟩:=h.du b _ hb r' o q hφ
    exact⟨ah,.inr ⟨r',c,rfl,h2⟩,h3⟩
   ·subst eY
    obtain⟨r2,o',q',dR,_,ah,c,h2,h3,_⟩:=h.du b _ hb
    rw[hφ]at dR;cases dR
    exact⟨ah,.inr ⟨r',c,rfl,h2⟩,h3⟩
theorem ij {ty key elem:TypeId}{ei:TypeInfo}{zv vm vk:Value}{ok:Bool}{ah:Array MapEntry}{r:Option (Nat×Value)}(hu:P.underlying ty=some (.map key elem))(hi:P.info? elem=some ei)(hz:ei.zero=some zv)
  (he:qj w vm ah) (hc:(Instr.checkKey ah.isEmpty 10000 key vk).run P w=.ok () w) (hf:(Instr.findKey key vk ah.toList).run P w=.ok r w) :
  (Instr.lookup ty vm vk ok).run P w=.ok (match r with|some (_,v)=>if ok then .tuple #[v,.bool true]else v|none=>if ok then .tuple #[zv,.bool false]else zv) w:=by
 rcases he with⟨rfl,rfl⟩|⟨rr,c,rfl,h2⟩
 ·have Cd:(Instr.findKey key vk []).run P w=.ok r w:=hf
  have ib:(Instr.checkKey true 10000 key vk).run P w=.ok () w:=hc
  simp only[Instr.lookup,Sem.run_bind,run_underlying hu,Result.andThen_ok]
  cases r with
  | none=>simp[ib,Cd,zeroValue,ar hi,hz]
  | some x=>obtain⟨i,v⟩:=x;simp[ib,Cd]
 ·simp only[Instr.lookup,Sem.run_bind,run_underlying hu,Result.andThen_ok]
  cases r with
  | none=>simp[getObj,Sem.run,h2,hc,hf,zeroValue,ar hi,hz]
  | some x=>obtain⟨i,v⟩:=x;simp[getObj,Sem.run,h2,hc,hf]
theorem nJ {ty key elem:TypeId}{ei:TypeInfo}{zv:Value}{kt:KT}{z m k t:T}{ok:Bool}{vm vk:Value}{es:List (T×T)}{r:Option Nat}(hu:P.underlying ty=some (.map key elem))(hi:P.info? elem=some ei)(hz:ei.zero=some zv)(iX:fk zv=some z)
  (dU:fm P key kt=true) (h:SR w0 g H w) (hm:VR g w m vm) (hk:VR g w k vk) (mU:k.dt kt=true)
  (eY:cp H m=some es) (hr:bl k es=some r)
  (ht:(match r with|some i=>(es[i]?).map fun e=>if ok then T.bg [e.2,.bool true]else e.2|none=>some (if ok then .bg [z,.bool false]else z))=some t):aI P w0 g H w (Instr.lookup ty vm vk ok) t H:=by
 obtain⟨ah,Fg,hE⟩:=o3 h hm eY
 have hf:=kp dU hk mU es ah.toList (by simpa using hE.1) (fun i e m a b=>hE.2 i e m a (by simpa using b)) hr
 have hc:=eu (e:=ah.isEmpty) dU hk mU
 have Fh:VR g w z zv:=eN iX
 cases r with
 | none =>
  simp only[Option.some.injEq]at ht
  subst ht
  refine aI.same h (ij hu hi hz Fg hc hf) ?_
  cases ok
  ·exact Fh
  ·exact ax.bg (ax.cons Fh (ax.cons (.bool _) ax.nil))
 | some i =>
  cases he:es[i]? with
  | none=>simp[he]at ht
  | some e =>
   have aD:i<ah.size:=by rw[hE.1];exact(List.getElem?_eq_some_iff.1 he).1
   have xE:ah[i]?=some ah[i]:=Array.getElem?_eq_getElem aD
   have hv:=(hE.2 i e _ he xE).2
   simp only[he,Option.map_some,Option.some.injEq]at ht
   subst ht
   have hx:((some i:Option Nat).bind fun i=>(ah.toList[i]?).map fun m=>(i,m.val))=some (i,ah[i].val):=by simp[aD]
   rw[hx]at hf
   refine aI.same h (ij hu hi hz Fg hc hf) ?_
   cases ok
   ·exact hv
   ·exact ax.bg (ax.cons hv (ax.cons (.bool _) ax.nil))
theorem um {vs:List T}{i:Nat}{t:T}{vx:Value}(h:SR w0 g H w)(hx:VR g w (.bg vs) vx)(he:vs[i]?=some t):aI P w0 g H w (Instr.extract vx i) t H:=by
 obtain⟨xs,rfl,tv⟩:=hx.tQ
 obtain⟨v,h1,h2⟩:=tv.cj i t he
 exact aI.same h (by simp at h1;simp[Instr.extract,h1]) h2
theorem xF {rt:TypeId}{dq:Array TypeId}{k k':IntKind}{a b:Int}{vx vy:Value}(h:SR w0 g H w)(hx:VR g w (.int k a) vx)(hy:VR g w (.int k' b) vy):aI P w0 g H w (Builtin.min_ dq rt #[vx,vy]) (.int k (if b<a then b else a)) H:=by
 cases hx;cases hy
 exact aI.same h (by simp[Builtin.min_,Builtin.min2]) (.int _ _)
theorem xG {rt:TypeId}{dq:Array TypeId}{k k':IntKind}{a b:Int}{vx vy:Value}(h:SR w0 g H w)(hx:VR g w (.int k a) vx)(hy:VR g w (.int k' b) vy):aI P w0 g H w (Builtin.max_ dq rt #[vx,vy]) (.int k (if b>a then b else a)) H:=by
 cases hx;cases hy
 exact aI.same h (by simp[Builtin.max_,Builtin.max2]) (.int _ _)
end
section
variable {P:Program} {w0 w:World} {g:Ctx} {H:aa}
def cu:Nat→Nat→Prop:=fun _ _=>False
def cW:Nat→Prop:=fun _=>False
theorem Tr.drew (w:World):Tr w w.drew cu cW:=⟨⟨Nat.le_refl _,fun _ _ _ _=>rfl,fun _ _ _ h=>h,fun _ _ _ _ h=>h,fun _ _ _ _=>rfl,rfl,rfl⟩,fun _ _ _=>rfl⟩
theorem Tr.refl (w:World):Tr w w cu cW:=⟨⟨Nat.le_refl _,fun _ _ _ _=>rfl,fun _ _ _ h=>h,fun _ _ _ _ h=>h,fun _ _ _ _=>rfl,rfl,rfl⟩,fun _ _ _=>rfl⟩
theorem Tr.alloc (w:World)(o:Obj):Tr w (w.alloc o) cu cW where
 size:=by simp
 cell r j hr _:=World.cell?_alloc_lt w o ⟨r,j,none⟩ hr
 pL r j hr:=World.frozen?_alloc_old w o ⟨r,j,none⟩ (Nat.ne_of_lt hr)
 fh r j hr h:=by rw[World.cell?_alloc_lt w o ⟨r,j,none⟩ hr];exact h
 maps r x _ _ h:=by
  have hr:r<w.heap.size:=(Array.getElem?_eq_some_iff.1 h).1
  simp only[World.alloc,Array.getElem?_push];rw[if_neg (by omega)];exact h
 ep r hr _ _:=by simp only[World.alloc,Array.getElem?_push];rw[if_neg (by omega)]
 env:=⟨rfl,rfl⟩
theorem Tr.trans {w w' zo:World}{S:Nat→Nat→Prop}{M:Nat→Prop}(h:Tr w w' S M)(h':Tr w' zo S M):Tr w zo S M where
 size:=Nat.le_trans h.size h'.size
 cell r j hr hs:=(h'.cell r j (Nat.lt_of_lt_of_le hr h.size) hs).trans (h.cell r j hr hs)
 pL r j hr:=(h'.pL r j (Nat.lt_of_lt_of_le hr h.size)).trans (h.pL r j hr)
 fh r j hr hs:=h'.fh r j (Nat.lt_of_lt_of_le hr h.size) (h.fh r j hr hs)
 maps r x hm hs h1:=h'.maps r x hm hs (h.maps r x hm hs h1)
 ep r hr hm hs:=(h'.ep r (Nat.lt_of_lt_of_le hr h.size) hm hs).trans (h.ep r hr hm hs)
 env:=⟨h'.env.1.trans h.env.1,h'.env.2.trans h.env.2⟩
theorem aW (r:Nat):∀(vs:List Value) (o:Nat) (w:World) (r' j:Nat),¬(r'=r∧o≤j∧j<o+vs.length)→(w.setCells r o vs).cell? ⟨r',j,none⟩=w.cell? ⟨r',j,none⟩
 | [],_,_,_,_,_=>rfl
 | v :: vs,o,w,r',j,h=>by
  rw[World.setCells,aW r vs (o+1) _ r' j (by simp at h ⊢;omega),World.cell?_setCell_other]
  intro e
  simp at e
  exact h ⟨e.1.symm,by omega,by simp;omega⟩
theorem aY (r:Nat):∀(vs:List Value) (o:Nat) (w:World),(∀j,o≤j→j<o+vs.length→(w.cell? ⟨r,j,none⟩).isSome=true)→∀(i:Nat) (v:Value),vs[i]?=some v→(w.setCells r o vs).cell? ⟨r,o+i,none⟩=some v
 | [],_,_,_,i,v,h=>by simp at h
 | u :: vs,o,w,hs,i,v,h=>by
  rw[World.setCells]
  cases i with
  | zero =>
   simp at h;subst h
   rw[aW r vs (o+1) _ r _ (by omega)]
   obtain⟨x,hx⟩:=Option.isSome_iff_exists.1 (hs o (Nat.le_refl _) (by simp))
   exact World.cell?_setCell_same w ⟨r,o,none⟩ u hx
  | succ i =>
   have:=aY r vs (o+1) (w.setCell ⟨r,o,none⟩ u) (fun j h1 h2=>by
    rw[World.cell?_setCell_other _ _ _ _ (by simp;omega)]
    exact hs j (by omega) (by simp;omega)) i v (by simpa using h)
   rwa[show o+(i+1)=o+1+i by omega]
theorem bw (r:Nat):∀(vs:List Value) (o:Nat) (w:World),(w.setCells r o vs).heap.size=w.heap.size
 | [],_,_=>rfl
 | v :: vs,o,w=>by rw[World.setCells,bw r vs,World.size_setCell]
theorem eZ (r:Nat):∀(vs:List Value) (o:Nat) (w:World) (r':Nat),r'≠r→(w.setCells r o vs).heap[r']?=w.heap[r']?
 | [],_,_,_,_=>rfl
 | v :: vs,o,w,r',h=>by
  rw[World.setCells,eZ r vs _ _ r' h]
  simp only[World.setCell,Array.getElem?_modify];rw[if_neg (fun e=>h e.symm)]
theorem fL (r:Nat):∀(vs:List Value) (o:Nat) (w:World) (r':Nat) (x:Obj),cr x=true→w.heap[r']?=some x→(w.setCells r o vs).heap[r']?=some x
 | [],_,_,_,_,_,h=>h
 | v :: vs,o,w,r',x,hs,h=>by
  rw[World.setCells]
  refine fL r vs _ _ r' x hs ?_
  simp only[World.setCell,Array.getElem?_modify]
  split
  ·rename_i e;rw[h];cases x<;>simp[cr]at hs<;>rfl
  ·exact h
theorem fM (r:Nat):∀(vs:List Value) (o:Nat) (w:World),(w.setCells r o vs).os=w.os∧(w.setCells r o vs).output=w.output
 | [],_,_=>⟨rfl,rfl⟩
 | v :: vs,o,w=>by rw[World.setCells];exact fM r vs _ _
def lz (r o n:Nat):Nat→Nat→Prop:=fun r' j=>r'=r∧o≤j∧j<o+n
theorem Tr.setCells (w:World)(r o:Nat)(vs:List Value)(hs:∀j,o≤j→j<o+vs.length→(w.cell? ⟨r,j,none⟩).isSome=true):Tr w (w.setCells r o vs) (lz r o vs.length) cW where
 size:=by rw[bw];exact Nat.le_refl _
 cell r' j _ h:=aW r vs o w r' j h
 pL r' j _:=World.frozen?_setCells r vs o w _
 fh r' j _ h:=by
  by_cases e:r'=r∧o≤j∧j<o+vs.length
  ·obtain⟨rfl,e1,e2⟩:=e
   have hi:j-o<vs.length:=by omega
   have:=aY r' vs o w hs (j-o) _ (List.getElem?_eq_getElem hi)
   rw[show o+(j-o)=j by omega]at this
   rw[this];rfl
  ·rw[aW r vs o w r' j e];exact h
 maps r' x _ hs h:=fL r vs o w r' x hs h
 ep r' _ _ h:=by
  by_cases e:r'=r
  ·cases vs with
   | nil=>rfl
   | cons v vs=>exact absurd ⟨e,Nat.le_refl _,by simp⟩ (h o)
  ·exact eZ r vs o w r' e
 env:=fM r vs o w
def Ctx.row (g:Ctx)(r:Nat)(f:Nat→Ow):Ctx:={ g with κ:=fun r' j=>if r'=r then f j else g.κ r' j }
def Ctx.at (g:Ctx)(b:Nat)(x:Nat×Nat×Nat):Ctx:={ g with φ:=fun b'=>if b'=b then some x else g.φ b' }
def Ctx.tok (g:Ctx)(t e:Nat)(x:Nat×Nat×Nat):Ctx:={ g with π:=fun t' e'=>if t'=t∧e'=e then some x else g.π t' e' }
theorem Le.cJ {w':World}{g':Ctx}{S:Nat→Nat→Prop}{M:Nat→Prop}(tr:Tr w w' S M)(hφ:∀b x,g.φ b=some x→g'.φ b=some x)(hκ:∀r o,g.κ r o=.cG→g'.κ r o=.cG)(hπ:∀t e x,g.π t e=some x→g'.π t e=some x)
  (hS:∀r j,S r j→g.κ r j≠.cG) (FZ:g'.ck=g.ck:=by rfl):Le g w g' w' :=
 ⟨hφ,hκ,hπ,fun r o v hk hc=>by rw[tr.cell r o (dQ hc) (fun hs=>hS r o hs hk)];exact hc,FZ⟩
theorem SR.zu {c:Array Value}{ty:TypeId}{fr:Nat×Nat}{w1:World}(h:SR w0 g H w)(tr:Tr w w1 cu cW)(hz:w1.heap.size=w.heap.size) :
  Le g w (g.row w.heap.size fun _=>.cG) (w1.alloc (.cells c ty fr))∧SR w0 (g.row w.heap.size fun _=>.cG) H (w1.alloc (.cells c ty fr))∧Fr g H (g.row w.heap.size fun _=>.cG) H ∧
  ∀(j:Nat) (v:Value),c[j]?=some v→mF (g.row w.heap.size fun _=>.cG) (w1.alloc (.cells c ty fr)) w.heap.size j v:=by
 have jy:=tr.trans (Tr.alloc w1 (.cells c ty fr))
 have le:Le g w (g.row w.heap.size fun _=>.cG) (w1.alloc (.cells c ty fr)):=Le.cJ jy (fun _ _ h=>h) (fun r o hk=>by simp only[Ctx.row];split;rfl;exact hk) (fun _ _ _ h=>h) (fun _ _ hs=>hs.elim)
 refine⟨le,?_,⟨Nat.le_refl _,fun _ _ a _ b=>⟨a,b⟩⟩,fun j v hj=>⟨by simp[Ctx.row],?_⟩⟩
 ·refine h.step (fun _=>False) jy le (fun _ _ hs=>hs.elim) (fun _ hm=>hm.elim) (fun r o hr=>?_) h.gQ h.cq (fun _ _ _=>rfl) (fun r j b _=>?_) (fun _ _ _ _=>rfl) (fun b x hx=>.inl ⟨fun hf=>hf,hx⟩)
  ·simp at hr
   simp only[Ctx.row];rw[if_neg (by omega)];exact h.fresh r o (by omega)
  ·have aG:∀ow,g.κ r j=ow→ow≠.free→r≠w.heap.size:=by rintro ow e hn rfl;exact hn (e▸h.fresh _ j (Nat.le_refl _))
   constructor<;>intro e<;>simp only[Ctx.row]<;>rw[if_neg (aG _ e (by simp))]<;>exact e
 ·rw[←hz]
  have:(w1.alloc (.cells c ty fr)).heap[w1.heap.size]?=some (.cells c ty fr):=by
   show(w1.heap.push (.cells c ty fr))[w1.heap.size]?=_
   simp
  unfold World.cell?
  rw[this]
  exact hj
theorem SR.cG {c:Array Value}{ty:TypeId}{w1:World}(h:SR w0 g H w)(tr:Tr w w1 cu cW)(hz:w1.heap.size=w.heap.size) :
  Le g w (g.row w.heap.size fun _=>.cG) (w1.alloc (.cells c ty))∧SR w0 (g.row w.heap.size fun _=>.cG) H (w1.alloc (.cells c ty))∧Fr g H (g.row w.heap.size fun _=>.cG) H ∧
  ∀(j:Nat) (v:Value),c[j]?=some v→mF (g.row w.heap.size fun _=>.cG) (w1.alloc (.cells c ty)) w.heap.size j v:=h.zu tr hz
theorem SR.mut {c:Array Value}{ty:TypeId}{w1:World}{H':aa}{b:Nat}{cs:List T}(h:SR w0 g H w)(tr:Tr w w1 cu cW)(hz:w1.heap.size=w.heap.size)
  (hb:H'[b]?=some (.cells cs)) (hn:g.φ b=none) (hH:∀b' x,b'≠b→H'[b']?=some x→H[b']?=some x∨x=.dead) (hl:H.length≤H'.length) (y7:∀b' x,H[b']?=some x→(∀e,x≠.tok e)→g.φ b'=none→b'≠b→H'[b']?=some x)
  (hc:∀(i:Nat) (t:T),cs[i]?=some t→t.one=true∧∃v,c[i]?=some v∧VR g w t v) :
  Le g w ((g.row w.heap.size fun _=>.mut b).at b (w.heap.size,0,c.size)) (w1.alloc (.cells c ty))∧SR w0 ((g.row w.heap.size fun _=>.mut b).at b (w.heap.size,0,c.size)) H' (w1.alloc (.cells c ty)) ∧
  (∀b' x,H[b']?=some x→(∀e,x≠.tok e)→g.φ b'=none→b'≠b→H'[b']?=some x∧((g.row w.heap.size fun _=>.mut b).at b (w.heap.size,0,c.size)).φ b'=none):=by
 have jy:=tr.trans (Tr.alloc w1 (.cells c ty))
 have aG:∀r j ow,g.κ r j=ow→ow≠.free→r≠w.heap.size:=by rintro r j ow e hn rfl;exact hn (e▸h.fresh _ j (Nat.le_refl _))
 have le:Le g w ((g.row w.heap.size fun _=>.mut b).at b (w.heap.size,0,c.size)) (w1.alloc (.cells c ty)):=Le.cJ jy
  (fun b' x hx=>by simp only[Ctx.at,Ctx.row];split;rename_i e;subst e;rw[hn]at hx;simp at hx;exact hx)
  (fun r o hk=>by simp only[Ctx.row,Ctx.at];rw[if_neg (aG r o _ hk (by simp))];exact hk) (fun _ _ _ h=>h) (fun _ _ hs=>hs.elim)
 refine⟨le,?_,fun b' x a a' d e=>⟨y7 b' x a a' d e,by simp only[Ctx.at,Ctx.row];rw[if_neg e];exact d⟩⟩
 refine h.step (fun b'=>b'=b) jy le (fun _ _ hs=>hs.elim) (fun _ hm=>hm.elim) (fun r o hr=>?_) (fun b' x hx=>?_) (fun t e x hx=>Nat.lt_of_lt_of_le (h.cq t e x hx) hl) (fun b' _ cV=>?_) (fun r j b' cV=>?_) (fun _ _ _ _=>rfl) (fun b' x hx=>?_)
 ·simp at hr
  simp only[Ctx.row,Ctx.at];rw[if_neg (by omega)];exact h.fresh r o (by omega)
 ·simp only[Ctx.at,Ctx.row]at hx
  split at hx
  ·rename_i e;subst e;exact(List.getElem?_eq_some_iff.1 hb).1
  ·exact Nat.lt_of_lt_of_le (h.gQ b' x hx) hl
 ·simp only[Ctx.at,Ctx.row];rw[if_neg cV]
 ·constructor<;>intro e<;>simp only[Ctx.row,Ctx.at]<;>rw[if_neg (aG r j _ e (by simp))]<;>exact e
 ·by_cases e:b'=b
  ·subst e
   right
   rw[hb]at hx;cases hx
   intro r o q hq
   simp only[Ctx.at,if_true,Option.some.injEq,Prod.mk.injEq]at hq
   obtain⟨rfl,rfl,rfl⟩:=hq
   have kS:∀i,i<cs.length→i<c.size:=fun i hi=>by
    obtain⟨_,v,hv,_⟩:=hc i _ (List.getElem?_eq_getElem hi)
    exact(Array.getElem?_eq_some_iff.1 hv).1
   refine⟨?_,fun j _ hj=>⟨by simp[Ctx.row,Ctx.at],fun j0=>by rw[←hz];simp,by rw[←hz,World.cell?_alloc_new,Array.getElem?_eq_getElem hj];rfl⟩,fun i t hi=>?_⟩
   ·cases g6:cs.length with
    | zero=>omega
    | succ n=>have:=kS n (by omega);omega
   ·obtain⟨h1,v,h2,h3⟩:=hc i t hi
    exact⟨h1,v,by rw[←hz,World.cell?_alloc_new,Nat.zero_add];exact h2,h3.mono le⟩
  ·rcases hH b' x e hx with en|rfl
   ·exact .inl ⟨e,en⟩
   ·right;trivial
theorem bm (H:aa)(x:B):(H++[x])[H.length]?=some x:=by simp
theorem aN {H:aa}{x y:B}{b:Nat}(hb:b≠H.length)(h:(H++[x])[b]?=some y):H[b]?=some y:=by
 rw[List.getElem?_append]at h
 split at h
 ·exact h
 ·rename_i aD
  have:b-H.length≠0:=by omega
  cases hk:b-H.length with
  | zero=>omega
  | succ n=>simp[hk]at h
theorem bh {H:aa}{x y:B}{b:Nat}(h:H[b]?=some y):(H++[x])[b]?=some y:=by
 rw[List.getElem?_append_left (List.getElem?_eq_some_iff.1 h).1];exact h
theorem SR.tw (h:SR w0 g H w){b:Nat}(hb:H.length≤b):g.φ b=none:=by
 cases e:g.φ b with
 | none=>rfl
 | some x=>have:=h.gQ b x e;omega
theorem SR.CR (h:SR w0 g H w){t e:Nat}(hb:H.length≤t):g.π t e=none:=by
 cases e':g.π t e with
 | none=>rfl
 | some x=>have:=h.cq t e x e';omega
theorem SR.cQ {c:Array Value}{ty:TypeId}{w1:World}{cs:List T}(h:SR w0 g H w)(tr:Tr w w1 cu cW)(hz:w1.heap.size=w.heap.size)
  (hc:∀(i:Nat) (t:T),cs[i]?=some t→t.one=true∧∃v,c[i]?=some v∧VR g w t v) :
  ∃g',Le g w g' (w1.alloc (.cells c ty))∧SR w0 g' (H++[.cells cs]) (w1.alloc (.cells c ty))∧Fr g H g' (H++[.cells cs])∧g'.φ H.length=some (w.heap.size,0,c.size):=by
 obtain⟨le,sr,fr⟩:=h.mut (H':=H++[.cells cs]) (b:=H.length) (ty:=ty) tr hz (bm _ _) (h.tw (Nat.le_refl _)) (fun b' x e hx=>.inl (aN e hx)) (by simp) (fun b' x hx _ _ _=>bh hx) hc
 exact⟨_,le,sr,⟨by simp,fun b x a a' d=>fr b x a a' d (by have:=(List.getElem?_eq_some_iff.1 a).1;omega)⟩,by simp[Ctx.at]⟩
theorem ax.xH {cs:List T}{vs:List Value}(h:ax g w cs vs)(ho:aS cs):∀(i:Nat) (t:T),cs[i]?=some t→t.one=true∧∃v,vs.toArray[i]?=some v∧VR g w t v :=
 fun i t hi=>⟨ho t (List.mem_of_getElem? hi),h.cj i t hi⟩
theorem o4 {ty:TypeId}{i:TypeInfo}{zv:Value}{z:List T}(hi:P.info? ty=some i)(hz:i.zero=some zv)(hc:bO zv.cells.toList=some z)(h:SR w0 g H w) :
  aI P w0 g H w (Instr.alloc ty true (.tuple #[])) (.ptr H.length 0) (H++[.cells z]):=by
 obtain⟨hv,ho⟩:=bu (g:=g) (w:=w) _ _ hc
 obtain⟨g',le,sr,fr,hφ⟩:=h.cQ (c:=zv.cells) (ty:=ty) (w1:=w) (Tr.refl w) rfl (by simpa using hv.xH ho)
 refine⟨.pointer (some ⟨w.heap.size,0,none⟩),_,g',?_,le,sr,.ptr hφ,fr⟩
 simp[Instr.alloc,zeroValue,ar hi,hz,newVar,newRow]
theorem uo {ty:TypeId}{x:T}{cs:List T}{vx:Value}(h:SR w0 g H w)(hx:VR g w x vx)(hc:x.cells?=some cs) :
  aI P w0 g H w (Instr.box ty vx) (.ptr H.length 0) (H++[.cells cs]):=by
 obtain⟨hv,ho⟩:=dD hx hc
 obtain⟨g',le,sr,fr,hφ⟩:=h.cQ (c:=vx.cells) (ty:=ty) (w1:=w) (Tr.refl w) rfl (by simpa using hv.xH ho)
 refine⟨.pointer (some ⟨w.heap.size,0,none⟩),_,g',?_,le,sr,.ptr hφ,fr⟩
 simp[Instr.box,newVar,newRow]
theorem SR.qk {b:Nat}{H':aa}(h:SR w0 g H w)(hb:H'[b]?=some (.map []))(hn:g.φ b=none)(hH:∀b' x,b'≠b→H'[b']?=some x→H[b']?=some x)(hl:H.length≤H'.length) :
  Le g w ((g.row w.heap.size fun _=>.mut b).at b (w.heap.size,0,0)) (w.alloc (.map #[] 0))∧SR w0 ((g.row w.heap.size fun _=>.mut b).at b (w.heap.size,0,0)) H' (w.alloc (.map #[] 0)):=by
 have jy:=Tr.alloc w (.map #[] 0)
 have aG:∀r j ow,g.κ r j=ow→ow≠.free→r≠w.heap.size:=by rintro r j ow e hn rfl;exact hn (e▸h.fresh _ j (Nat.le_refl _))
 have le:Le g w ((g.row w.heap.size fun _=>.mut b).at b (w.heap.size,0,0)) (w.alloc (.map #[] 0)):=Le.cJ jy
  (fun b' x hx=>by simp only[Ctx.at,Ctx.row];split;rename_i e;subst e;rw[hn]at hx;simp at hx;exact hx)
  (fun r o hk=>by simp only[Ctx.row,Ctx.at];rw[if_neg (aG r o _ hk (by simp))];exact hk) (fun _ _ _ h=>h) (fun _ _ hs=>hs.elim)
 refine⟨le,?_⟩
 refine h.step (fun b'=>b'=b) jy le (fun _ _ hs=>hs.elim) (fun _ hm=>hm.elim) (fun r o hr=>?_) (fun b' x hx=>?_) (fun t e x hx=>Nat.lt_of_lt_of_le (h.cq t e x hx) hl) (fun b' _ cV=>?_) (fun r j b' cV=>?_) (fun _ _ _ _=>rfl) (fun b' x hx=>?_)
 ·simp at hr
  simp only[Ctx.row,Ctx.at];rw[if_neg (by omega)];exact h.fresh r o (by omega)
 ·simp only[Ctx.at,Ctx.row]at hx
  split at hx
  ·rename_i e;subst e;exact(List.getElem?_eq_some_iff.1 hb).1
  ·exact Nat.lt_of_lt_of_le (h.gQ b' x hx) hl
 ·simp only[Ctx.at,Ctx.row];rw[if_neg cV]
 ·constructor<;>intro e<;>simp only[Ctx.row,Ctx.at]<;>rw[if_neg (aG r j _ e (by simp))]<;>exact e
 ·by_cases e:b'=b
  ·subst e
   right
   rw[hb]at hx;cases hx
   intro r o q hq
   simp only[Ctx.at,if_true,Option.some.injEq,Prod.mk.injEq]at hq
   obtain⟨rfl,rfl,rfl⟩:=hq
   exact⟨by simp[Ctx.row,Ctx.at],#[],0,by show(w.heap.push _)[w.heap.size]?=_;simp,⟨rfl,by simp⟩,by simp[bV]⟩
  ·exact .inl ⟨e,hH b' x e hx⟩
theorem uq {ty:TypeId}(h:SR w0 g H w):aI P w0 g H w (Instr.makeMap ty none) (.map H.length) (H++[.map []]):=by
 obtain⟨le,sr⟩:=h.qk (H':=H++[.map []]) (b:=H.length) (bm _ _) (h.tw (Nat.le_refl _)) (fun b' x e hx=>aN e hx) (by simp)
 refine⟨.map (some w.heap.size),_,_,?_,le,sr,.map (r:=w.heap.size) (o:=0) (q:=0) (by simp[Ctx.at]),by simp,fun b x a _ d=>⟨bh a,?_⟩⟩
 ·simp[Instr.makeMap]
 ·have:=(List.getElem?_eq_some_iff.1 a).1
  simp only[Ctx.at,Ctx.row];rw[if_neg (by omega)];exact d
end
section
variable {P:Program} {w0 w:World} {g:Ctx} {H:aa}
theorem bj {H:aa}{b b':Nat}{x y:B}(aD:b<H.length)(h:(H.set b x)[b']?=some y):(b'=b∧y=x)∨(b'≠b∧H[b']?=some y):=by
 rw[List.getElem?_set]at h
 split at h
 ·rename_i e;subst e;simp[aD]at h;exact .inl ⟨rfl,h.symm⟩
 ·rename_i e;exact .inr ⟨fun e'=>e e'.symm,h⟩
theorem bE {H:aa}{b b':Nat}{x y:B}(h:H[b']?=some y)(aG:b'≠b):(H.set b x)[b']?=some y:=by
 rw[List.getElem?_set,if_neg (fun e=>aG e.symm)];exact h
theorem SR.store {b off r o q:Nat}{cs ts:List T}{vs:List Value}(h:SR w0 g H w)(hb:H[b]?=some (.cells cs))(hφ:g.φ b=some (r,o,q))(hle:off+ts.length≤cs.length)(hv:ax g w ts vs)(ho:aS ts) :
  Le g w g (w.setCells r (o+off) vs)∧SR w0 g (H.set b (.cells (cs.take off++ts++cs.drop (off+ts.length)))) (w.setCells r (o+off) vs):=by
 have fo:b<H.length:=(List.getElem?_eq_some_iff.1 hb).1
 obtain⟨h1,h2,h3⟩:=h.du b _ hb r o q hφ
 have hl:=hv.1
 have hs:∀j,o+off≤j→j<o+off+vs.length→(w.cell? ⟨r,j,none⟩).isSome=true:=fun j a c=>(h2 j (by omega) (by omega)).2.2
 have tr:=Tr.setCells w r (o+off) vs hs
 have hS:∀r' j,lz r (o+off) vs.length r' j→g.κ r' j=.mut b:=by
  rintro r' j⟨rfl,a,c⟩;exact(h2 j (by omega) (by omega)).1
 have le:Le g w g (w.setCells r (o+off) vs):=Le.cJ tr (fun _ _ h=>h) (fun _ _ h=>h) (fun _ _ _ h=>h) (fun r' j gR e=>by rw[hS r' j gR]at e;cases e)
 refine⟨le,h.step (fun b'=>b'=b) tr le (fun r' j gR=>.inr (.inl ⟨b,hS r' j gR,rfl⟩)) (fun _ hm=>hm.elim) (fun r' j hr=>h.fresh r' j (by rwa[bw]at hr)) (fun b' x hx=>by rw[List.length_set];exact h.gQ b' x hx)
  (fun t e x hx=>by rw[List.length_set];exact h.cq t e x hx) (fun _ _ _=>rfl) (fun _ _ _ _=>⟨id,id⟩) (fun _ _ _ _=>rfl) (fun b' x hx=>?_)⟩
 rcases bj fo hx with⟨rfl,rfl⟩|⟨aG,en⟩
 ·right
  intro r' o' q' dR
  rw[hφ]at dR;cases dR
  have hlen:(cs.take off++ts++cs.drop (off+ts.length)).length=cs.length:=by simp;omega
  refine⟨by rw[hlen];exact h1,fun j a c=>⟨(h2 j a c).1,fun j0=>by rw[World.frozen?_setCells];exact(h2 j a c).2.1 j0,tr.fh r j ?_ (h2 j a c).2.2⟩,fun i t hi=>?_⟩
  ·obtain⟨x,hx⟩:=Option.isSome_iff_exists.1 (h2 j a c).2.2;exact dQ hx
  ·have fY:i<cs.length:=by rw[←hlen];exact(List.getElem?_eq_some_iff.1 hi).1
   by_cases jf:off≤i∧i<off+ts.length
   ·have ht:ts[i-off]?=some t:=by
     rw[List.append_assoc,List.getElem?_append_right (by simp;omega),List.getElem?_append_left (by simp;omega)]at hi
     rw[←hi];congr 1;simp;omega
    have aD:i-off<vs.length:=by omega
    refine⟨ho t (List.mem_of_getElem? ht),vs[i-off],?_,(hv.2 _ t _ ht (List.getElem?_eq_getElem aD)).mono le⟩
    have:=aY r vs (o+off) w hs (i-off) _ (List.getElem?_eq_getElem aD)
    rwa[show o+off+(i-off)=o+i by omega]at this
   ·have ht:cs[i]?=some t:=by
     by_cases aD:i<off
     ·rw[List.append_assoc,List.getElem?_append_left (by simp;omega),List.getElem?_take,if_pos aD]at hi;exact hi
     ·rw[List.getElem?_append_right (by simp;omega),List.getElem?_drop]at hi
      rw[←hi];congr 1;simp;omega
    obtain⟨a,v,xI,xJ⟩:=h3 i t ht
    refine⟨a,v,?_,xJ.mono le⟩
    rw[aW r vs (o+off) w r (o+i) (by omega)];exact xI
 ·exact .inl ⟨aG,en⟩
theorem kr {ty:TypeId}{i:TypeInfo}{v:Value}{r o:Nat}(hi:P.info? ty=some i)(cX:v.cells.size=i.size)(hc:∀j,j<v.cells.toList.length→(w.cell? ⟨r,o+j,none⟩).isSome=true)
  (hf:∀j,j<v.cells.toList.length→w.frozen? ⟨r,o+j,none⟩=false) (h1:∀x∈v.cells.toList,x.oneCell'=true) :
  (storeVar ty ⟨r,o,none⟩ v).run P w=.ok () (w.setCells r o v.cells.toList):=by
 have:=run_storeCells_cells (P:=P) r o v.cells.toList 0 w (by simpa using hc) (by simpa using hf) h1
 simp[storeVar,sizeOf,ar hi,cX]
 simpa using this
theorem xK {ty:TypeId}{i:TypeInfo}{p x:T}{vp vx:Value}{ts:List T}{H':aa}(hi:P.info? ty=some i)(h:SR w0 g H w)(hp:VR g w p vp)(hx:VR g w x vx)(hc:x.cells?=some ts)(hn:ts.length=i.size)(he:tJ H ts p=some H') :
  ∃w' g',(Instr.storeAt ty vp vx).run P w=.ok () w'∧Le g w g' w'∧SR w0 g' H' w'∧Fr g H g' H':=by
 obtain⟨hv,ho⟩:=dD hx hc
 cases hp<;>simp only[tJ]at he<;>(try (simp at he;done))
 rename_i b off r o q hφ
 cases hb:H[b]? with
 | none=>simp[hb]at he
 | some y =>
  cases y<;>simp only[hb]at he<;>(try (simp at he;done))
  rename_i cs
  split at he
  ·rename_i hle
   simp only[Option.some.injEq]at he;subst he
   have fo:b<H.length:=(List.getElem?_eq_some_iff.1 hb).1
   obtain⟨h1,h2,h3⟩:=h.du b _ hb r o q hφ
   obtain⟨le,sr⟩:=h.store hb hφ hle hv ho
   have hl:=hv.1
   refine⟨_,g,?_,le,sr,by simp,fun b' y' a _ d=>⟨bE a ?_,d⟩⟩
   ·have:=kr (P:=P) (w:=w) (ty:=ty) (r:=r) (o:=o+off) hi (v:=vx) (by rw[←hn,hl];simp) (fun j hj=>(h2 _ (by omega) (by omega)).2.2) (fun j hj=>(h2 (o+off+j) (by omega) (by omega)).2.1 _) (hv.dp ho)
    simpa[Instr.storeAt,Instr.sureAddr]using this
   ·rintro rfl;rw[hφ]at d;cases d
  ·simp at he
def World.aK (w:World)(r:Nat)(o:Obj):World:={ w with heap:=w.heap.setIfInBounds r o }
theorem ik (w:World){r r':Nat}(o:Obj)(h:r'≠r):(World.aK w r o).heap[r']?=w.heap[r']?:=by
 unfold World.aK;simp only[Array.getElem?_setIfInBounds];rw[if_neg (fun e=>h e.symm)]
theorem il (w:World){r:Nat}(o:Obj)(h:r<w.heap.size):(World.aK w r o).heap[r]?=some o:=by
 unfold World.aK;simp[h]
theorem lA (w:World){r:Nat}{x x':Obj}(hs:cr x=true)(gR:cr x'=true)(h:w.heap[r]?=some x)(a:Addr):(World.aK w r x').cell? a=w.cell? a:=by
 have aD:r<w.heap.size:=(Array.getElem?_eq_some_iff.1 h).1
 unfold World.cell?
 by_cases e:a.block=r
 ·rw[e,il w _ aD,h]
  cases x<;>simp[cr]at hs<;>cases x'<;>simp[cr]at gR<;>rfl
 ·rw[ik w _ e]
theorem mV (w:World){r:Nat}{x x':Obj}(hs:cr x=true)(gR:cr x'=true)(h:w.heap[r]?=some x)(a:Addr):(World.aK w r x').frozen? a=w.frozen? a:=by
 have aD:r<w.heap.size:=(Array.getElem?_eq_some_iff.1 h).1
 unfold World.frozen?
 by_cases e:a.block=r
 ·rw[e,il w _ aD,h]
  cases x<;>simp[cr]at hs<;>cases x'<;>simp[cr]at gR<;>rfl
 ·rw[ik w _ e]
theorem Tr.mW (w:World)(r:Nat){x x':Obj}(hs:cr x=true)(gR:cr x'=true)(h:w.heap[r]?=some x):Tr w (World.aK w r x') cu (fun r'=>r'=r) where
 size:=by simp[World.aK]
 cell r' j _ _:=lA w hs gR h _
 pL r' j _:=mV w hs gR h _
 fh r' j _ hk:=by rw[lA w hs gR h];exact hk
 maps r' x hm _ hk:=by rw[ik w _ hm];exact hk
 ep r' _ hm _:=ik w _ hm
 env:=⟨rfl,rfl⟩
theorem SR.ku {b r o q:Nat}{es zw:List (T×T)}{ah im:Array MapEntry}{c c':Nat}(h:SR w0 g H w)(hb:H[b]?=some (.map es))(hφ:g.φ b=some (r,o,q))(hr:w.heap[r]?=some (.map ah c))(hE:bB g w zw im)(hB:bV im c') :
  Le g w g (World.aK w r (.map im c'))∧SR w0 g (H.set b (.map zw)) (World.aK w r (.map im c'))∧Fr g H g (H.set b (.map zw)):=by
 have fo:b<H.length:=(List.getElem?_eq_some_iff.1 hb).1
 obtain⟨h1,_⟩:=h.du b _ hb r o q hφ
 have tr:=Tr.mW w r (x:=.map ah c) (x':=.map im c') rfl rfl hr
 have le:Le g w g (World.aK w r (.map im c')):=Le.cJ tr (fun _ _ h=>h) (fun _ _ h=>h) (fun _ _ _ h=>h) (fun _ _ hs=>hs.elim)
 refine⟨le,h.step (fun b'=>b'=b) tr le (fun _ _ hs=>hs.elim) (fun r' hm=>⟨b,by rw[hm];exact h1,rfl⟩) (fun r' j e6=>h.fresh r' j (by simpa[World.aK]using e6)) (fun b' x hx=>by rw[List.length_set];exact h.gQ b' x hx)
  (fun t e x hx=>by rw[List.length_set];exact h.cq t e x hx) (fun _ _ _=>rfl) (fun _ _ _ _=>⟨id,id⟩) (fun _ _ _ _=>rfl) (fun b' x hx=>?_),by simp,fun b' x a _ d=>⟨bE a (by rintro rfl;rw[hφ]at d;cases d),d⟩⟩
 rcases bj fo hx with⟨rfl,rfl⟩|⟨aG,en⟩
 ·right
  intro r' o' q' dR
  rw[hφ]at dR;cases dR
  refine⟨h1,im,c',?_,hE.mono le,hB⟩
  have aD:r<w.heap.size:=(Array.getElem?_eq_some_iff.1 hr).1
  simp[World.aK,aD]
 ·exact .inl ⟨aG,en⟩
theorem gg {n:Nat}{a b:T}{va vb:Value}(ha:VR g w a va)(hb:VR g w b vb)(he:dz a b=some true):Instr.sameBits n va vb=true:=by
 cases ha<;>cases hb<;>simp[dz]at he
 ·obtain⟨rfl,rfl⟩:=he;cases n<;>simp[Instr.sameBits]
 ·subst he;cases n<;>simp[Instr.sameBits]
 ·rename_i s1 s2
  have e:(s1==s2)=true:=by rw[beq_toListBytes];exact he
  cases n<;>exact e
theorem fN {n:Nat}:∀(as bs:List T) (xs ys:List Value),ax g w as xs→ax g w bs ys→aM as bs=some true→xs.length=ys.length∧(xs.zip ys).all (fun (x,y)=>Instr.sameBits n x y)=true
 | [],[],xs,ys,hx,hy,_=>by
  have a:=hx.1;have b:=hy.1
  simp at a b
  have e1:xs=[]:=List.eq_nil_of_length_eq_zero (by omega)
  have e2:ys=[]:=List.eq_nil_of_length_eq_zero (by omega)
  subst e1;subst e2;simp
 | a :: as,b :: bs,xs,ys,hx,hy,he=>by
  cases xs with
  | nil=>have:=hx.1;simp at this
  | cons x xs =>
   cases ys with
   | nil=>have:=hy.1;simp at this
   | cons y ys =>
    simp only[aM]at he
    cases e1:dz a b with
    | none=>simp[e1]at he
    | some r1 =>
     cases e2:aM as bs with
     | none=>simp[e1,e2]at he
     | some r2 =>
      simp[e1,e2]at he
      obtain⟨rfl,rfl⟩:=he
      obtain⟨h1,h2⟩:=fN as bs xs ys hx.tail hy.tail e2
      exact⟨by simp[h1],by simp[gg hx.head hy.head e1];simpa using h2⟩
 | [],_ :: _,_,_,_,_,he=>by simp[aM]at he
 | _ :: _,[],_,_,_,_,he=>by simp[aM]at he
theorem iq {a b:T}{va vb:Value}(ha:VR g w a va)(hb:VR g w b vb)(he:dk a b=some true):Instr.sameBits 10000 va vb=true:=by
 by_cases h:∃as bs,a=.agg as∧b=.agg bs
 ·obtain⟨as,bs,rfl,rfl⟩:=h
  obtain⟨xs,rfl,hx,_⟩:=ha.cg
  obtain⟨ys,rfl,hy,_⟩:=hb.cg
  obtain⟨h1,h2⟩:=fN (n:=9999) as bs xs ys hx hy he
  show Instr.sameBits (9999+1) _ _=true
  rw[Instr.sameBits]
  simp[h1]
  simpa using h2
 ·have:dz a b=some true:=by
   cases a<;>first|exact he|(cases b<;>first|exact he|exact absurd ⟨_,_,rfl,rfl⟩ h)
  exact gg ha hb this
theorem ir:∀(k:T) (es:List (T×T)) (i:Nat),bl k es=some (some i)→∃e,es[i]?=some e∧dk k e.1=some true
 | k,[],i,h=>by simp[bl]at h
 | k,e :: es,i,h=>by
  simp only[bl]at h
  cases hk:dk k e.1 with
  | none=>simp[hk]at h
  | some b =>
   cases b with
   | true=>simp[hk]at h;subst h;exact⟨e,rfl,hk⟩
   | false =>
    simp only[hk,Option.map_eq_some_iff]at h
    obtain⟨r,h1,h2⟩:=h
    cases r with
    | none=>simp at h2
    | some j =>
     simp at h2;subst h2
     obtain⟨e',h3,h4⟩:=ir k es j h1
     exact⟨e',by simpa using h3,h4⟩
theorem bB.set {es:List (T×T)}{ah:Array MapEntry}(h:bB g w es ah){k v:T}{vk vv:Value}(hk:VR g w k vk)(hv:VR g w v vv)(i:Nat) :
  bB g w (es.set i (k,v)) (ah.modify i fun e=>{ e with key:=vk,val:=vv }):=by
 refine⟨by simp[h.1],fun j e m a b=>?_⟩
 rw[List.getElem?_set]at a
 rw[Array.getElem?_modify]at b
 split at a
 ·rename_i e'
  rw[if_pos e']at b
  subst e'
  split at a
  ·simp at a b
   obtain⟨m',_,rfl⟩:=b
   subst a
   exact⟨hk,hv⟩
  ·cases a
 ·rename_i e'
  rw[if_neg e']at b
  exact h.2 j e m a b
theorem bB.push {es:List (T×T)}{ah:Array MapEntry}(h:bB g w es ah){k v:T}{vk vv:Value}(hk:VR g w k vk)(hv:VR g w v vv)(c:Nat) :
  bB g w (es++[(k,v)]) (ah.push { key:=vk,val:=vv,born:=c }):=by
 refine⟨by simp[h.1],fun j e m a b=>?_⟩
 rw[Array.getElem?_push,h.1]at b
 rw[List.getElem?_append]at a
 split at b
 ·rename_i e'
  subst e'
  simp at a b
  subst a;subst b
  exact⟨hk,hv⟩
 ·rename_i e'
  split at a
  ·exact h.2 j e m a b
  ·have:j<ah.size:=(Array.getElem?_eq_some_iff.1 b).1
   rw[h.1]at this;omega
theorem bB.erase {es:List (T×T)}{ah:Array MapEntry}(h:bB g w es ah)(i:Nat)(hi:i<es.length):bB g w (es.eraseIdx i) (ah.eraseIdxIfInBounds i):=by
 have cX:i<ah.size:=by rw[h.1];exact hi
 have e1:(ah.eraseIdxIfInBounds i).toList=ah.toList.eraseIdx i:=by simp[Array.eraseIdxIfInBounds,cX]
 refine⟨by rw[←Array.length_toList,e1,List.length_eraseIdx,List.length_eraseIdx,if_pos hi,Array.length_toList,if_pos cX,h.1],fun j e m a b=>?_⟩
 have b':(ah.toList.eraseIdx i)[j]?=some m:=by rw[←e1,Array.getElem?_toList];exact b
 rw[List.getElem?_eraseIdx]at a b'
 split at a
 ·rename_i aD;rw[if_pos aD]at b';exact h.2 j e m a (by simpa using b')
 ·rename_i aD;rw[if_neg aD]at b';exact h.2 _ e m a (by simpa using b')
theorem bV.set {ah:Array MapEntry}{c:Nat}(h:bV ah c)(k v:Value)(i:Nat):bV (ah.modify i fun e=>{ e with key:=k,val:=v }) c:=by
 have e:(ah.modify i fun e=>{ e with key:=k,val:=v }).toList.map (·.born)=ah.toList.map (·.born):=by
  apply List.ext_getElem?
  intro j
  simp only[List.getElem?_map,Array.getElem?_toList,Array.getElem?_modify]
  split
  ·cases ah[j]?<;>rfl
  ·rfl
 refine⟨fun m hm=>?_,by rw[e];exact h.2⟩
 have:=List.mem_map_of_mem (f:=fun m:MapEntry=>m.born) hm
 rw[e]at this
 obtain⟨m',h1,h2⟩:=List.mem_map.1 this
 rw[←h2];exact h.1 m' h1
theorem bV.push {ah:Array MapEntry}{c:Nat}(h:bV ah c)(k v:Value):bV (ah.push { key:=k,val:=v,born:=c }) (c+1):=by
 refine⟨fun m hm=>?_,?_⟩
 ·rw[Array.toList_push,List.mem_append]at hm
  rcases hm with hm|hm
  ·exact Nat.lt_succ_of_lt (h.1 m hm)
  ·simp at hm;subst hm;exact Nat.lt_succ_self _
 ·rw[Array.toList_push,List.map_append,List.nodup_append]
  refine⟨h.2,by simp,fun a ha b hb=>?_⟩
  simp at hb
  subst hb
  obtain⟨m,hm,rfl⟩:=List.mem_map.1 ha
  exact Nat.ne_of_lt (h.1 m hm)
theorem bV.erase {ah:Array MapEntry}{c:Nat}(h:bV ah c)(i:Nat):bV (ah.eraseIdxIfInBounds i) c:=by
 by_cases cX:i<ah.size
 ·have e1:(ah.eraseIdxIfInBounds i).toList=ah.toList.eraseIdx i:=by simp[Array.eraseIdxIfInBounds,cX]
  exact⟨fun m hm=>h.1 m (by rw[e1]at hm;exact(List.eraseIdx_sublist _ _).subset hm),by rw[e1];exact h.2.sublist ((List.eraseIdx_sublist _ _).map _)⟩
 ·have e1:ah.eraseIdxIfInBounds i=ah:=by simp[Array.eraseIdxIfInBounds,cX]
  rw[e1];exact h
theorem ur {ty key elem:TypeId}{kt:KT}{b:Nat}{k v:T}{vm vk vv:Value}{es:List (T×T)}{r:Option Nat}(hu:P.underlying ty=some (.map key elem))(dU:fm P key kt=true)
  (h:SR w0 g H w) (hm:VR g w (.map b) vm) (hk:VR g w k vk) (hv:VR g w v vv) (mU:k.dt kt=true) (hb:H[b]?=some (.map es)) (hr:bl k es=some r) :
  ∃w' g',(Instr.mapUpdate ty vm vk vv).run P w=.ok () w'∧Le g w g' w'∧SR w0 g' (H.set b (.map (match r with|some i=>es.set i (k,v)|none=>es++[(k,v)]))) w'∧Fr g H g' (H.set b (.map (match r with|some i=>es.set i (k,v)|none=>es++[(k,v)]))):=by
 cases hm with
 | @map _ rr o q hφ =>
  obtain⟨h1,ah,c,h2,hE,hB⟩:=h.du b _ hb rr o q hφ
  have hf:=kp dU hk mU es ah.toList (by simpa using hE.1) (fun i e m a b=>hE.2 i e m a (by simpa using b)) hr
  have hc:=eu (P:=P) (w:=w) (e:=false) dU hk mU
  cases r with
  | none =>
   obtain⟨le,sr,fr⟩:=h.ku (c':=c+1) hb hφ h2 (hE.push hk hv c) (hB.push _ _)
   refine⟨_,g,?_,le,sr,fr⟩
   simp at hf
   simp[Instr.mapUpdate,run_underlying hu,getObj,setObj,Sem.run,h2,hc,hf,World.aK]
  | some i =>
   obtain⟨e,he,y8⟩:=ir k es i hr
   have aD:i<ah.size:=by rw[hE.1];exact(List.getElem?_eq_some_iff.1 he).1
   have xE:ah[i]?=some ah[i]:=Array.getElem?_eq_getElem aD
   have jx:=(hE.2 i e _ he xE).1
   have Ce:=iq hk jx y8
   have CS:Instr.sameBits 10000 ah[i].key vk=true:=by
    have:dk e.1 k=some true∨True:=.inr trivial
    by_cases h':∃as bs,k=.agg as∧e.1=.agg bs
    ·obtain⟨as,bs,rfl,e2⟩:=h'
     have F0:∀(as bs:List T),aM as bs=some true→aM bs as=some true:=by
      intro as
      induction as with
      | nil=>intro bs nK;cases bs<;>simp[aM]at nK ⊢
      | cons a as ih =>
       intro bs nK
       cases bs with
       | nil=>simp[aM]at nK
       | cons b bs =>
        simp only[aM]at nK ⊢
        cases e1:dz a b with
        | none=>simp[e1]at nK
        | some r1 =>
         cases e2:aM as bs with
         | none=>simp[e1,e2]at nK
         | some r2 =>
          simp[e1,e2]at nK
          obtain⟨rfl,rfl⟩:=nK
          have:dz b a=some true:=by
           cases a<;>cases b<;>simp[dz,dj]at e1 ⊢
           ·exact⟨e1.1.symm,e1.2.symm⟩
           ·exact e1.symm
           ·exact e1.symm
          simp[this,ih bs e2]
     rw[e2]at jx y8
     exact iq jx hk (F0 _ _ y8)
    ·have e1:dz k e.1=some true:=by
      generalize e.1=d at *
      cases k<;>first|exact y8|(cases d<;>first|exact y8|exact absurd ⟨_,_,rfl,rfl⟩ h')
     have e2:dz e.1 k=some true:=by
      generalize e.1=d at *
      cases k<;>cases d<;>simp[dz,dj]at e1 ⊢
      ·exact⟨e1.1.symm,e1.2.symm⟩
      ·exact e1.symm
      ·exact e1.symm
     exact gg jx hk e2
   obtain⟨le,sr,fr⟩:=h.ku (c':=c) hb hφ h2 (hE.set hk hv i) (hB.set _ _ i)
   refine⟨_,g,?_,le,sr,fr⟩
   have hx:((some i:Option Nat).bind fun i=>(ah.toList[i]?).map fun m=>(i,m.val))=some (i,ah[i].val):=by simp[aD]
   rw[hx]at hf
   have F1:(Instr.keyThatStays ah[i].key vk).run P w=.ok vk w:=by simp[Instr.keyThatStays,CS]
   simp[Instr.mapUpdate,run_underlying hu,getObj,setObj,Sem.run,h2,hc,hf,aD,F1,World.aK]
theorem uu {ty key elem xt rt:TypeId}{kt:KT}{b:Nat}{k:T}{vm vk:Value}{es:List (T×T)}{r:Option Nat}(hu:P.underlying ty=some (.map key elem))(dU:fm P key kt=true)
  (h:SR w0 g H w) (hm:VR g w (.map b) vm) (hk:VR g w k vk) (mU:k.dt kt=true) (hb:H[b]?=some (.map es)) (hr:bl k es=some r) :
  aI P w0 g H w (Builtin.delete_ #[ty,xt] rt #[vm,vk]) (.bg []) (match r with|some i=>H.set b (.map (es.eraseIdx i))|none=>H):=by
 cases hm with
 | @map _ rr o q hφ =>
  obtain⟨h1,ah,c,h2,hE,hB⟩:=h.du b _ hb rr o q hφ
  have hf:=kp dU hk mU es ah.toList (by simpa using hE.1) (fun i e m a b=>hE.2 i e m a (by simpa using b)) hr
  have hc:=eu (P:=P) (w:=w) (e:=ah.isEmpty) dU hk mU
  cases r with
  | none =>
   obtain⟨le,sr,fr⟩:=h.ku (c':=c) hb hφ h2 hE hB
   have hH:H.set b (.map es)=H:=by
    apply List.ext_getElem?
    intro j
    rw[List.getElem?_set]
    split
    ·rename_i e;subst e;rw[if_pos (List.getElem?_eq_some_iff.1 hb).1,hb]
    ·rfl
   rw[hH]at sr fr
   refine⟨.tuple #[],_,g,?_,le,sr,.bg rfl (by simp),fr⟩
   simp at hf
   simp[Builtin.delete_,run_underlying hu,getObj,setObj,Sem.run,h2,hc,hf,World.aK]
  | some i =>
   obtain⟨e,he,y8⟩:=ir k es i hr
   have Fi:i<es.length:=(List.getElem?_eq_some_iff.1 he).1
   have aD:i<ah.size:=by rw[hE.1];exact Fi
   obtain⟨le,sr,fr⟩:=h.ku (c':=c) hb hφ h2 (hE.erase i Fi) (hB.erase i)
   refine⟨.tuple #[],_,g,?_,le,sr,.bg rfl (by simp),fr⟩
   have hx:((some i:Option Nat).bind fun i=>(ah.toList[i]?).map fun m=>(i,m.val))=some (i,ah[i].val):=by simp[aD]
   rw[hx]at hf
   simp[Builtin.delete_,run_underlying hu,getObj,setObj,Sem.run,h2,hc,hf,World.aK]
end
section
variable {P:Program} {w0 w:World} {g:Ctx} {H:aa}
theorem ew {n:Nat}:∀(es:List (List T)),(∀c∈es,c.length=n)→∀(i j:Nat) (c:List T) (t:T),es[i]?=some c→c[j]?=some t→es.flatten[i*n+j]?=some t
 | [],_,i,j,c,t,h,_=>by simp at h
 | d :: es,hn,i,j,c,t,h,hj=>by
  have hd:=hn d (by simp)
  cases i with
  | zero =>
   simp at h;subst h
   have aD:j<d.length:=(List.getElem?_eq_some_iff.1 hj).1
   simp only[List.flatten_cons,Nat.zero_mul,Nat.zero_add]
   rw[List.getElem?_append_left aD];exact hj
  | succ i =>
   have ih:=ew es (fun c hc=>hn c (by simp[hc])) i j c t (by simpa using h) hj
   simp only[List.flatten_cons]
   rw[List.getElem?_append_right (by rw[hd,Nat.succ_mul];omega)]
   rw[show(i+1)*n+j-d.length=i*n+j by rw[hd,Nat.succ_mul];omega];exact ih
theorem cw {n:Nat}(es:List (List T))(hn:∀c∈es,c.length=n):es.flatten.length=es.length*n:=by
 induction es with
 | nil=>simp
 | cons d es ih=>simp only[List.flatten_cons,List.length_append,List.length_cons,Nat.succ_mul,hn d (by simp),ih (fun c hc=>hn c (by simp[hc]))];omega
theorem VR.gh {k:SK}{es:List (List T)}{r o cap n:Nat}{vs:List Value}(hn:∀c∈es,c.length=n)(hv:ax g w es.flatten vs)(ho:aS es.flatten)(hc:es.length≤cap)(hk:oS g k r o es.length cap n)
  (hi:∀(j:Nat) (v:Value),vs[j]?=some v→mF g w r (o+j) v):VR g w (.sl k es) (.slice (some ⟨r,o,none⟩) es.length cap):=by
 have key:∀(i j:Nat) (c:List T) (t:T),es[i]?=some c→c[j]?=some t→es.flatten[i*n+j]?=some t∧vs[i*n+j]?=some (vs.getD (i*n+j) undef):=by
  intro i j c t a b
  have h1:=ew es hn i j c t a b
  have aD:i*n+j<vs.length:=by rw[←hv.1];exact(List.getElem?_eq_some_iff.1 h1).1
  exact⟨h1,by rw[List.getElem?_eq_getElem aD,List.getD_eq_getElem?_getD,List.getElem?_eq_getElem aD,Option.getD_some]⟩
 refine .sl (n:=n) (fun i j=>vs.getD (i*n+j) undef) hk hc hn (fun i j c t a b=>?_) (fun i j c t a b=>?_)
 ·obtain⟨h1,h2⟩:=key i j c t a b
  exact⟨ho t (List.mem_of_getElem? h1),by rw[Nat.add_assoc];exact hi _ _ h2⟩
 ·obtain⟨h1,h2⟩:=key i j c t a b
  exact hv.2 _ t _ h1 h2
theorem fO (es:List (List T)):(es.map (·.map T.erase)).flatten=es.flatten.map T.erase:=by
 induction es with
 | nil=>rfl
 | cons c es ih=>simp only[List.map_cons,List.flatten_cons,List.map_append,ih]
theorem ax.erase {ts:List T}{vs:List Value}(h:ax g w ts vs):ax g w (ts.map T.erase) vs :=
 ⟨by simp[h.1],fun i t v a b=>by
  rw[List.getElem?_map]at a
  obtain⟨t',h1,rfl⟩:=Option.map_eq_some_iff.1 a
  exact(h.2 i t' v h1 b).erase⟩
theorem iu {ts:List T}(h:aS ts):aS (ts.map T.erase):=by
 intro t ht
 obtain⟨t',h1,rfl⟩:=List.mem_map.1 ht
 rw[oT];exact h t' h1
theorem xL {n:Nat}{y:T}{vy:Value}{new:List (List T)}(h:SR w0 g H w)(hy:VR g w y vy)(he:aJ H n y=some new) :
  ∃vs:List Value,(Builtin.lenOf vy).run P w=.ok new.length w∧(Builtin.firstCells n new.length vy).run P w=.ok vs.toArray w∧ax g w new.flatten vs∧aS new.flatten∧(∀c∈new,c.length=n)∧vs.length=new.length*n:=by
 by_cases hs:∃s,y=.str s
 ·obtain⟨s,rfl⟩:=hs
  cases hy
  simp only[aJ]at he
  split at he
  ·rename_i hn
   subst hn
   simp at he
   have hlen:new.length=s.size:=by rw[←he,List.length_map];exact Array.length_toList
   have gI:new.flatten=s.data.toList.map fun c=>T.int .u8 c.toNat:=by
    rw[←he]
    generalize s.data.toList=l
    induction l with
    | nil=>rfl
    | cons c l ih=>simp only[List.map_cons,List.flatten_cons,ih];rfl
   have hex:s.extract 0 s.size=s:=by simp
   refine⟨s.data.toList.map fun c=>.int .u8 c.toNat,by simp[Builtin.lenOf,hlen],?_,?_,?_,?_,?_⟩
   ·rw[hlen]
    simp only[Builtin.firstCells,hex,Sem.run_pure]
    congr 1
    apply Array.ext';simp
   ·rw[gI]
    refine⟨by simp,fun i t v a b=>?_⟩
    rw[List.getElem?_map]at a b
    obtain⟨c,h1,rfl⟩:=Option.map_eq_some_iff.1 a
    rw[h1]at b;simp at b;subst b
    exact .int _ _
   ·rw[gI];intro t ht
    obtain⟨c,_,rfl⟩:=List.mem_map.1 ht;rfl
   ·rw[←he];intro c hc
    obtain⟨_,_,rfl⟩:=List.mem_map.1 hc;rfl
   ·rw[hlen,List.length_map,Nat.mul_one];exact Array.length_toList
  ·simp at he
 ·obtain⟨a,cap,vs,rfl,_,h1,h2,h3,h4,h5,h6⟩:=fI h hy he (fun s e=>hs ⟨s,e⟩)
  refine⟨vs,by simp[Builtin.lenOf],?_,h3,h5,h6,h4⟩
  cases a with
  | none =>
   have:=(h1 rfl).1
   subst this
   simp at h4
   simp[Builtin.firstCells,h4]
  | some a =>
   obtain⟨_,h7⟩:=h2 a rfl
   have:=run_loadCells_list (P:=P) w a vs h7
   rw[h4]at this
   simpa[Builtin.firstCells]using this
theorem nL (dN:Nat):∀(k c:Nat),c≤dN+(dN+768)/4→Builtin.growBy dN k c≤dN+(dN+768)/4
 | 0,c,h=>h
 | k+1,c,h=>by
  rw[Builtin.growBy]
  split
  ·exact h
  ·exact nL dN k _ (by omega)
theorem uv {dN cap:Nat}(h:cap<dN):Builtin.nextslicecap dN cap≤dN+dN/4+512:=by
 unfold Builtin.nextslicecap
 split
 ·omega
 ·split
  ·omega
  ·have:=nL dN 4 cap (by omega)
   omega
theorem nN {dN cap bytes:Nat}(h:cap<dN)(hr:dM dN bytes=true):¬Builtin.nextslicecap dN cap*bytes>2^48:=by
 have h1:=Nat.mul_le_mul_right bytes (uv h)
 simp only[dM,decide_eq_true_eq]at hr
 omega
structure gi (P:Program)(sT xT elem:TypeId)(ei:TypeInfo)(zv:Value)(n bytes:Nat):Prop where
 hu:P.underlying sT=some (.slice elem)
 hi:P.info? elem=some ei
 hx:∃d,P.underlying xT=some d∧∀k,d≠.int k
 hn:ei.size=n
 hz:ei.zero=some zv
 uw:zv.cells.size=n
 hb:ei.bytes=bytes
 CT:bytes≠0
theorem e7 {sT xT elem rt:TypeId}{ei:TypeInfo}{zv x:Value}{n bytes r o len cap m:Nat}{vs:List Value}(E:gi P sT xT elem ei zv n bytes)(hl:(Builtin.lenOf x).run P w=.ok m w)(hf:(Builtin.firstCells n m x).run P w=.ok vs.toArray w)
  (ey:len+m≤cap) (hs:(storeCells ⟨r,o+len*n,none⟩ vs).run P w=.ok () (w.setCells r (o+len*n) vs)) :
  (Builtin.append_ #[sT,xT] rt #[.slice (some ⟨r,o,none⟩) len cap,x]).run P w=.ok (.slice (some ⟨r,o,none⟩) (len+m) cap) (w.setCells r (o+len*n) vs):=by
 obtain⟨d,h1,h2⟩:=E.hx
 have hz:(match d with | .int _=>true|_=>false)=false:=by cases d<;>first|rfl|exact absurd rfl (h2 _)
 simp[Builtin.append_,run_underlying E.hu,run_underlying h1,hz,sizeOf,ar E.hi,E.hn,hl,hf,ey,a8,hs]
theorem eA {sT xT elem rt:TypeId}{ei:TypeInfo}{zv x:Value}{n bytes:Nat}{base:Option Addr}{len cap:Nat}(E:gi P sT xT elem ei zv n bytes)(hl:(Builtin.lenOf x).run P w=.ok 0 w)(hf:(Builtin.firstCells n 0 x).run P w=.ok #[] w)(ey:len≤cap) :
  (Builtin.append_ #[sT,xT] rt #[.slice base len cap,x]).run P w=.ok (.slice base len cap) w:=by
 obtain⟨d,h1,h2⟩:=E.hx
 have hz:(match d with | .int _=>true|_=>false)=false:=by cases d<;>first|rfl|exact absurd rfl (h2 _)
 cases base<;>simp[Builtin.append_,run_underlying E.hu,run_underlying h1,hz,sizeOf,ar E.hi,E.hn,hl,hf,ey,storeCells]
theorem eB (zc:Array Value)(n:Nat):(Builtin.zeroCells zc n).size=n*zc.size:=by simp[Builtin.zeroCells]
theorem cY {sT xT elem rt:TypeId}{ei:TypeInfo}{zv x:Value}{n bytes:Nat}{base:Option Addr}{len cap m:Nat}{ep vs:List Value}(E:gi P sT xT elem ei zv n bytes)(hl:(Builtin.lenOf x).run P w=.ok m w)(hf:∀w':World,w'.heap=w.heap→(Builtin.firstCells n m x).run P w'=.ok vs.toArray w')
  (ho:∀w':World,w'.heap=w.heap→(Builtin.firstCells n len (.slice base len cap)).run P w'=.ok ep.toArray w') (mX:cap<len+m) (hr:dM (len+m) bytes=true) :
  ∃(bK:Nat) (rest:List Value),len+m≤bK∧rest.length=(bK-(len+m))*n ∧
   (Builtin.append_ #[sT,xT] rt #[.slice base len cap,x]).run P w=.ok (.slice (some ⟨w.heap.size,0,none⟩) (len+m) bK) (w.drew.alloc (.cells (ep++vs++rest).toArray elem)):=by
 obtain⟨d,h1,h2⟩:=E.hx
 have hz:(match d with | .int _=>true|_=>false)=false:=by cases d<;>first|rfl|exact absurd rfl (h2 _)
 have cZ:=nN mX hr
 have ey:¬len+m≤cap:=by omega
 let bK:=Question.cut (.appendCap (len+m) cap elem) (w.tape w.drawn (.appendCap (len+m) cap elem))
 have fJ:len+m≤bK:=by simp only[bK,Question.cut];omega
 refine⟨bK,(Builtin.zeroCells zv.cells (bK-(len+m))).toList,fJ,?_,?_⟩
 ·rw[Array.length_toList,eB,E.uw]
 ·have Cd:=hf w.drew rfl
  have fp:=ho w.drew rfl
  have CT:ei.bytes≠0:=by rw[E.hb];exact E.CT
  simp only[gt_iff_lt,Nat.not_lt]at cZ
  have ql:Builtin.nextslicecap (len+m) cap*ei.bytes≤2^48:=by rw[E.hb];exact cZ
  simp only[Builtin.append_,List.getElem?_toArray,List.getElem?_cons_zero,List.getElem?_cons_succ,Sem.run_bind,run_underlying E.hu,run_underlying h1,Result.andThen_ok,sizeOf,ar E.hi,E.hn,hl,Sem.run_pure,ey,if_false]
  cases d<;>first
   | exact absurd rfl (h2 _)
   | (simp[hl,ey,ar E.hi,CT,ql,Nat.not_lt.2 ql,run_choose,Question.forced,fp,Cd,zeroValue,E.hz,newRow,bK];congr 2;apply Array.ext';simp)
theorem SR.zx {t e r p q m:Nat}{vs:List Value}(h:SR w0 g H w)(ht:H[t]?=some (.tok e))(hp:g.π t e=some (r,p,q))(hm:0<m)(ey:p+vs.length≤q) :
  let g':=((g.row r fun j=>if p≤j∧j<p+vs.length then .cG else g.κ r j).tok t (e+m) (r,p+vs.length,q))
  Le g w g' (w.setCells r p vs)∧SR w0 g' (H.set t (.tok (e+m))) (w.setCells r p vs)∧Fr g H g' (H.set t (.tok (e+m)))∧∀(i:Nat) (v:Value),vs[i]?=some v→mF g' (w.setCells r p vs) r (p+i) v:=by
 intro g'
 have zy:t<H.length:=(List.getElem?_eq_some_iff.1 ht).1
 obtain⟨r1,p1,q1,e1,h2,h3,h4⟩:=h.du t _ ht
 rw[hp]at e1;cases e1
 have hs:∀j,p≤j→j<p+vs.length→(w.cell? ⟨r,j,none⟩).isSome=true:=fun j a c=>(h3 j a (by omega)).2.2
 have tr:=Tr.setCells w r p vs hs
 have hS:∀r' j,lz r p vs.length r' j→g.κ r' j=.spare t:=by
  rintro r' j⟨rfl,a,c⟩;exact(h3 j a (by omega)).1
 have hκ:∀r' j,g'.κ r' j=if r'=r∧p≤j∧j<p+vs.length then .cG else g.κ r' j:=by
  intro r' j
  simp only[g',Ctx.tok,Ctx.row]
  by_cases e:r'=r
  ·subst e;simp
  ·simp[e]
 have hπ:∀t' e',g'.π t' e'=if t'=t∧e'=e+m then some (r,p+vs.length,q)else g.π t' e':=fun t' e'=>rfl
 have le:Le g w g' (w.setCells r p vs):=Le.cJ tr (fun _ _ h=>h) (fun r' o hk=>by rw[hκ];split;rfl;exact hk)
  (fun t' e' x hx=>by rw[hπ];split;rename_i c;obtain⟨rfl,rfl⟩:=c;rw[h4 _ (by omega)]at hx;cases hx;exact hx)
  (fun r' j gR e=>by rw[hS r' j gR]at e;cases e)
 have cG:∀(i:Nat) (v:Value),vs[i]?=some v→mF g' (w.setCells r p vs) r (p+i) v:=fun i v hi=>by
  have aD:i<vs.length:=(List.getElem?_eq_some_iff.1 hi).1
  exact⟨by rw[hκ];simp;omega,aY r vs p w hs i v hi⟩
 refine⟨le,h.step (fun b'=>b'=t) tr le (fun r' j gR=>.inr (.inr ⟨t,hS r' j gR,rfl⟩)) (fun _ hm=>hm.elim) (fun r' j hr=>?_) (fun b' x hx=>by rw[List.length_set];exact h.gQ b' x hx)
  (fun t' e' x hx=>?_) (fun _ _ _=>rfl) (fun r' j b' cV=>?_) (fun t' e' _ cV=>?_) (fun b' x hx=>?_),⟨by simp,fun b' x a c d=>⟨bE a (by rintro rfl;rw[ht]at a;cases a;exact absurd rfl (c e)),d⟩⟩,cG⟩
 ·rw[bw]at hr
  rw[hκ];split
  ·rename_i c;obtain⟨rfl,a,c⟩:=c
   have:=h.fresh r' j hr
   rw[(h3 j a (by omega)).1]at this;cases this
  ·exact h.fresh r' j hr
 ·rw[List.length_set]
  rw[hπ]at hx
  split at hx
  ·rename_i c;rw[c.1];exact zy
  ·exact h.cq t' e' x hx
 ·constructor<;>intro e'<;>rw[hκ]<;>split
  ·rename_i c;obtain⟨rfl,a,c⟩:=c;rw[(h3 j a (by omega)).1]at e';cases e'
  ·exact e'
  ·rename_i c;obtain⟨rfl,a,c⟩:=c;rw[(h3 j a (by omega)).1]at e';cases e';exact absurd rfl cV
  ·exact e'
 ·rw[hπ,if_neg (fun c=>cV c.1)]
 ·rcases bj zy hx with⟨rfl,rfl⟩|⟨aG,en⟩
  ·right
   refine⟨r,p+vs.length,q,by rw[hπ];simp,ey,fun j a c=>⟨?_,?_,?_⟩,fun e' he=>by rw[hπ,if_neg (by omega)];exact h4 e' (by omega)⟩
   ·rw[hκ,if_neg (by omega)];exact(h3 j (by omega) c).1
   ·intro j0;rw[World.frozen?_setCells];exact(h3 j (by omega) c).2.1 j0
   ·rw[aW r vs p w r j (by omega)];exact(h3 j (by omega) c).2.2
  ·exact .inl ⟨aG,en⟩
theorem SR.qm {c:Array Value}{ty:TypeId}{w1:World}{H':aa}{t e k:Nat}(h:SR w0 g H w)(tr:Tr w w1 cu cW)(hz:w1.heap.size=w.heap.size)(ht:H'[t]?=some (.tok e))(hk:k≤c.size)
  (gj:∀e',e≤e'→g.π t e'=none) (hH:∀b' x,b'≠t→H'[b']?=some x→H[b']?=some x) (hl:H.length≤H'.length) (y7:∀(b':Nat) (x:B),H[b']?=some x→(∀e:Nat,x≠.tok e)→H'[b']?=some x) :
  let g':=((g.row w.heap.size fun j=>if j<k then .cG else .spare t).tok t e (w.heap.size,k,c.size))
  Le g w g' (w1.alloc (.cells c ty))∧SR w0 g' H' (w1.alloc (.cells c ty))∧Fr g H g' H'∧(∀(j:Nat) (v:Value),j<k→c[j]?=some v→mF g' (w1.alloc (.cells c ty)) w.heap.size j v)∧g'.π t e=some (w.heap.size,k,c.size):=by
 intro g'
 have jy:=tr.trans (Tr.alloc w1 (.cells c ty))
 have aG:∀r j ow,g.κ r j=ow→ow≠.free→r≠w.heap.size:=by rintro r j ow e hn rfl;exact hn (e▸h.fresh _ j (Nat.le_refl _))
 have hπ:∀t' e',g'.π t' e'=if t'=t∧e'=e then some (w.heap.size,k,c.size)else g.π t' e':=fun t' e'=>rfl
 have hκ:∀r j,g'.κ r j=if r=w.heap.size then(if j<k then .cG else .spare t)else g.κ r j:=fun r j=>rfl
 have le:Le g w g' (w1.alloc (.cells c ty)):=Le.cJ jy (fun _ _ h=>h) (fun r o hk=>by rw[hκ,if_neg (aG r o _ hk (by simp))];exact hk)
  (fun t' e' x hx=>by rw[hπ];split;rename_i c;obtain⟨rfl,rfl⟩:=c;rw[gj _ (Nat.le_refl _)]at hx;cases hx;exact hx) (fun _ _ hs=>hs.elim)
 refine⟨le,?_,⟨hl,fun b' x a c d=>⟨y7 b' x a c,d⟩⟩,fun j v hj hv=>⟨by rw[hκ];simp[hj],by rw[←hz,World.cell?_alloc_new];exact hv⟩,by rw[hπ];simp⟩
 refine h.step (fun b'=>b'=t) jy le (fun _ _ hs=>hs.elim) (fun _ hm=>hm.elim) (fun r o hr=>?_) (fun b' x hx=>Nat.lt_of_lt_of_le (h.gQ b' x hx) hl) (fun t' e' x hx=>?_) (fun _ _ _=>rfl) (fun r j b' cV=>?_) (fun t' e' _ cV=>?_) (fun b' x hx=>?_)
 ·simp at hr
  rw[hκ,if_neg (by omega)];exact h.fresh r o (by omega)
 ·rw[hπ]at hx
  split at hx
  ·rename_i c;rw[c.1];exact(List.getElem?_eq_some_iff.1 ht).1
  ·exact Nat.lt_of_lt_of_le (h.cq t' e' x hx) hl
 ·constructor<;>intro e'<;>rw[hκ,if_neg (aG r j _ e' (by simp))]<;>exact e'
 ·rw[hπ,if_neg (fun c=>cV c.1)]
 ·by_cases e':b'=t
  ·subst e'
   right
   rw[ht]at hx;cases hx
   refine⟨w.heap.size,k,c.size,by rw[hπ];simp,hk,fun j a b=>⟨by rw[hκ];simp;omega,by rw[←hz];simp,by rw[←hz,World.cell?_alloc_new,Array.getElem?_eq_getElem b];rfl⟩,fun ux he=>by rw[hπ,if_neg (by omega)];exact gj ux (by omega)⟩
  ·exact .inl ⟨e',hH b' x e' hx⟩
theorem g7 (w:World):Tr w w.drew cu cW:=Tr.drew w
theorem gk {w w':World}(h:w'.heap=w.heap)(a:Addr):w'.cell? a=w.cell? a:=by unfold World.cell?;rw[h]
theorem nO {n:Nat}{y:T}{vy:Value}{new:List (List T)}(h:SR w0 g H w)(hy:VR g w y vy)(he:aJ H n y=some new) :
  ∃vs:List Value,(Builtin.lenOf vy).run P w=.ok new.length w∧(∀w':World,w'.heap=w.heap→(Builtin.firstCells n new.length vy).run P w'=.ok vs.toArray w')∧ax g w new.flatten vs∧aS new.flatten∧(∀c∈new,c.length=n)∧vs.length=new.length*n:=by
 obtain⟨vs,h1,h2,h3,h4,h5,h6⟩:=xL (P:=P) h hy he
 refine⟨vs,h1,fun w' mY=>?_,h3,h4,h5,h6⟩
 by_cases hs:∃s,y=.str s
 ·obtain⟨s,rfl⟩:=hs
  cases hy
  simp only[Builtin.firstCells,Sem.run_pure,Result.ok.injEq,and_true]at h2 ⊢
  exact h2
 ·obtain⟨a,cap,yY,rfl,_,k1,k2,k3,k4,k5,k6⟩:=fI h hy he (fun s e=>hs ⟨s,e⟩)
  cases a with
  | none =>
   simp only[Builtin.firstCells,Sem.run_pure,Result.ok.injEq,and_true]at h2 ⊢
   exact h2
  | some a =>
   obtain⟨_,h7⟩:=k2 a rfl
   have a1:=run_loadCells_list (P:=P) w a yY h7
   have a2:=run_loadCells_list (P:=P) w' a yY (fun j v hj=>by rw[gk mY];exact h7 j v hj)
   rw[k4]at a1 a2
   simp only[Builtin.firstCells]at h2 ⊢
   rw[a1]at h2
   rw[a2]
   simp at h2
   rw[h2]
theorem uy {sT xT elem rt:TypeId}{ei:TypeInfo}{zv:Value}{n bytes:Nat}{k:SK}{es new:List (List T)}{y t:T}{vx vy:Value}{H':aa}(E:gi P sT xT elem ei zv n bytes)
  (h:SR w0 g H w) (hx:VR g w (.sl k es) vx) (hy:VR g w y vy) (et:es.all (·.length==n)=true) (jg:aJ H n y=some new) (he:mM H bytes k es new=some (t,H')) :
  aI P w0 g H w (Builtin.append_ #[sT,xT] rt #[vx,vy]) t H':=by
 obtain⟨vs,s1,s2,s3,s4,s5,s6⟩:=nO (P:=P) h hy jg
 obtain⟨a,cap,ep,rfl,fJ,x1,x2,x3,x4,x5,x6⟩:=fI (n:=n) (es:=es) h hx (by simp only[aJ,et,if_true]) (fun s e=>by cases e)
 have fJ:es.length≤cap:=fJ
 cases gj:new with
 | nil =>
  subst gj
  simp only[mM,Option.some.injEq,Prod.mk.injEq]at he
  obtain⟨rfl,rfl⟩:=he
  have fZ:vs=[]:=by simpa using s6
  subst fZ
  exact aI.same h (eA E s1 (s2 w rfl) fJ) hx
 | cons c0 CU =>
  have hlen:0<new.length:=by rw[gj];simp
  rw[gj]at he
  simp only[mM]at he
  rw[←gj]at he
  split at he
  ·rename_i cZ
   have tq:∀c∈es++new.map (·.map T.erase),c.length=n:=by
    intro c hc
    rcases List.mem_append.1 hc with hc|hc
    ·exact x6 c hc
    ·obtain⟨c',h1,rfl⟩:=List.mem_map.1 hc
     rw[List.length_map];exact s5 c' h1
   have gI:(es++new.map (·.map T.erase)).flatten=es.flatten++new.flatten.map T.erase:=by rw[List.flatten_append,fO]
   have wg:(es++new.map (·.map T.erase)).length=es.length+new.length:=by simp
   have ho:aS (es++new.map (·.map T.erase)).flatten:=by
    rw[gI];intro t ht
    rcases List.mem_append.1 ht with ht|ht
    ·exact x5 t ht
    ·exact iu s4 t ht
   have iW:(ep++vs).length=(es.length+new.length)*n:=by rw[List.length_append,x4,s6,Nat.add_mul]
   have grow:∀(t' e':Nat) (Hn:aa),cap<es.length+new.length→Hn[t']?=some (.tok e')→(∀ux,e'≤ux→g.π t' ux=none)→(∀b' x,b'≠t'→Hn[b']?=some x→H[b']?=some x)→H.length≤Hn.length →
     (∀(b':Nat) (x:B),H[b']?=some x→(∀e:Nat,x≠.tok e)→Hn[b']?=some x)→aI P w0 g H w (Builtin.append_ #[sT,xT] rt #[.slice a es.length cap,vy]) (.sl (.own t' e') (es++new.map (·.map T.erase))) Hn:=by
    intro t' e' Hn mX k1 k2 k3 k4 k5
    have yZ:∀w':World,w'.heap=w.heap→(Builtin.firstCells n es.length (.slice a es.length cap)).run P w'=.ok ep.toArray w':=by
     intro w' mY
     cases a with
     | none =>
      have:=(x1 rfl).1
      subst this
      have:ep=[]:=by simpa using x4
      subst this
      simp[Builtin.firstCells]
     | some a =>
      obtain⟨_,h7⟩:=x2 a rfl
      have:=run_loadCells_list (P:=P) w' a ep (fun j v hj=>by rw[gk mY];exact h7 j v hj)
      rw[x4]at this
      simpa[Builtin.firstCells]using this
    obtain⟨bK,rest,uz,uA,aL⟩:=cY (rt:=rt) (w:=w) E s1 s2 yZ mX cZ
    have cX:(ep++vs++rest).toArray.size=bK*n:=by
     simp only[List.size_toArray]
     rw[List.length_append,iW,uA,←Nat.add_mul];congr 1;omega
    obtain⟨le,sr,fr,cG,hp⟩:=h.qm (c:=(ep++vs++rest).toArray) (ty:=elem) (k:=(es.length+new.length)*n) (g7 w) rfl k1 (by rw[cX];exact Nat.mul_le_mul_right _ uz) k2 k3 k4 k5
    refine⟨_,_,_,aL,le,sr,?_,fr⟩
    have hv:ax g w (es++new.map (·.map T.erase)).flatten (ep++vs):=by rw[gI];exact ax.append x3 s3.erase
    have:=VR.gh (k:=.own t' e') (r:=w.heap.size) (o:=0) (cap:=bK) tq (hv.mono le) ho (by rw[wg];exact uz) ⟨by rw[hp,wg,cX];simp,by rw[wg];omega⟩ (fun j v hj=>?_)
    ·rw[wg]at this;exact this
    ·have aD:j<(ep++vs).length:=(List.getElem?_eq_some_iff.1 hj).1
     rw[Nat.zero_add]
     refine cG j v (by omega) ?_
     rw[List.getElem?_toArray,List.getElem?_append_left aD];exact hj
   cases k with
   | nil =>
    simp only[Option.some.injEq,Prod.mk.injEq]at he
    obtain⟨rfl,rfl⟩:=he
    have mR:cap<es.length+new.length:=by
     cases hx with
     | slnil=>simpa using hlen
     | sl a7 hk=>exact hk.elim
    exact grow H.length _ _ mR (bm _ _) (fun ux _=>h.CR (Nat.le_refl _)) (fun b' x e hx=>aN e hx) (by simp) (fun b' x hx _=>bh hx)
   | full =>
    simp only[Option.some.injEq,Prod.mk.injEq]at he
    obtain⟨rfl,rfl⟩:=he
    have mR:cap<es.length+new.length:=by
     cases hx with
     | sl a7 hk=>simp only[oS]at hk;omega
    exact grow H.length _ _ mR (bm _ _) (fun ux _=>h.CR (Nat.le_refl _)) (fun b' x e hx=>aN e hx) (by simp) (fun b' x hx _=>bh hx)
   | arg=>cases he
   | own t0 e0 =>
    cases ht:H[t0]? with
    | none=>simp[ht]at he
    | some bt =>
     cases bt with
     | tok e1 =>
      simp only[ht]at he
      split at he
      ·rename_i F2
       subst F2
       simp only[Option.some.injEq,Prod.mk.injEq]at he
       obtain⟨rfl,rfl⟩:=he
       have zy:t0<H.length:=(List.getElem?_eq_some_iff.1 ht).1
       obtain⟨r1,p1,q1,Fj,CV,mH,zz⟩:=h.du t0 _ ht
       by_cases ey:es.length+new.length≤cap
       ·-- in place
        cases hx with
        | @sl _ _ r o _ n' a7 hk hc hn h3 h4 =>
         simp only[oS]at hk
         obtain⟨CW,F3⟩:=hk
         have tZ:n'=n:=by
          cases es with
          | nil=>simp at F3
          | cons c es=>rw[←hn c (by simp),x6 c (by simp)]
         subst tZ
         rw[Fj]at CW
         simp only[Option.some.injEq,Prod.mk.injEq]at CW
         obtain⟨rfl,rfl,rfl⟩:=CW
         have xM:o+es.length*n'+vs.length≤o+cap*n':=by
          rw[s6,Nat.add_assoc,←Nat.add_mul]
          exact Nat.add_le_add_left (Nat.mul_le_mul_right _ ey) _
         obtain⟨le,sr,fr,cG⟩:=h.zx (m:=new.length) (vs:=vs) ht Fj hlen xM
         have g8:=run_storeCells_cells (P:=P) r1 (o+es.length*n') vs 0 w (fun j hj=>by simpa using (mH (o+es.length*n'+j) (by omega) (by omega)).2.2) (fun j hj=>(mH (o+es.length*n'+j) (by omega) (by omega)).2.1 _) (s3.dp s4)
         rw[Nat.add_zero]at g8
         have aL:=e7 (rt:=rt) (cap:=cap) E s1 (s2 w rfl) ey g8
         refine⟨_,_,_,aL,le,sr,?_,fr⟩
         have hv:ax g w (es++new.map (·.map T.erase)).flatten (ep++vs):=by rw[gI];exact ax.append x3 s3.erase
         have zA:∀(j:Nat) (v:Value),ep[j]?=some v→mF g w r1 (o+j) v:=by
          intro j v hj
          have aD:j<es.length*n':=by rw[←x4];exact(List.getElem?_eq_some_iff.1 hj).1
          obtain⟨_,h7⟩:=x2 _ rfl
          have cK:=h7 j v hj
          rw[a8]at cK
          have zB:0<n':=by
           rcases Nat.eq_zero_or_pos n' with e|e
           ·subst e;simp at aD
           ·exact e
          have hi:j/n'<es.length:=Nat.div_lt_of_lt_mul (by rw[Nat.mul_comm];exact aD)
          have e1:es[j/n']?=some es[j/n']:=List.getElem?_eq_getElem hi
          have hm:j%n'<(es[j/n']).length:=by rw[x6 _ (List.getElem_mem hi)];exact Nat.mod_lt _ zB
          have:=(h3 (j/n') (j%n') _ _ e1 (List.getElem?_eq_getElem hm)).2
          have ee:o+j/n'*n'+j%n'=o+j:=by rw[Nat.add_assoc,Nat.mul_comm,Nat.div_add_mod]
          rw[ee]at this
          exact⟨this.1,cK⟩
         have:=VR.gh (k:=.own t0 (e0+new.length)) (r:=r1) (o:=o) (cap:=cap) tq (hv.mono le) ho (by rw[wg];exact ey) ⟨by rw[wg];simp[Ctx.tok,s6,Nat.add_mul,Nat.add_assoc],by rw[wg];omega⟩ (fun j v hj=>?_)
         ·rw[wg]at this;exact this
         ·rw[List.getElem?_append]at hj
          split at hj
          ·exact(zA j v hj).mono le
          ·rename_i pO
           have:=cG _ v hj
           rw[x4]at this pO
           rwa[show o+es.length*n'+(j-es.length*n')=o+j by omega]at this
       ·exact grow t0 (e0+new.length) _ (by omega) (by simp[zy]) (fun ux he=>zz ux (by omega)) (fun b' x aG hx=>by
          rcases bj zy hx with⟨e,_⟩|⟨_,en⟩
          ·exact absurd e aG
          ·exact en) (by simp) (fun b' x CX aG=>bE CX (by rintro rfl;rw[ht]at CX;cases CX;exact absurd rfl (aG e0)))
      ·cases he
     | cells _=>simp[ht]at he
     | map _=>simp[ht]at he
     | _=>simp[ht]at he
  ·cases he
end
section
variable {P:Program} {w0 w:World} {g:Ctx} {H:aa}
theorem SR.zC {b r o q:Nat}{cs ts:List T}{vs:List Value}(h:SR w0 g H w)(hb:H[b]?=some (.cells cs))(hφ:g.φ b=some (r,o,q))(hv:ax g w ts vs)(ho:aS ts)(ey:o+cs.length+ts.length≤q) :
  let g':=((g.row r fun j=>if o≤j∧j<q then .mut H.length else g.κ r j).at H.length (r,o,q))
  Le g w g' (w.setCells r (o+cs.length) vs)∧SR w0 g' (H.set b .dead++[.cells (cs++ts)]) (w.setCells r (o+cs.length) vs)∧Fr g H g' (H.set b .dead++[.cells (cs++ts)]):=by
 intro g'
 have fo:b<H.length:=(List.getElem?_eq_some_iff.1 hb).1
 obtain⟨h1,h2,h3⟩:=h.du b _ hb r o q hφ
 have hl:=hv.1
 have hs:∀j,o+cs.length≤j→j<o+cs.length+vs.length→(w.cell? ⟨r,j,none⟩).isSome=true:=fun j a c=>(h2 j (by omega) (by omega)).2.2
 have tr:=Tr.setCells w r (o+cs.length) vs hs
 have hS:∀r' j,lz r (o+cs.length) vs.length r' j→g.κ r' j=.mut b:=by
  rintro r' j⟨rfl,a,c⟩;exact(h2 j (by omega) (by omega)).1
 have hκ:∀r' j,g'.κ r' j=if r'=r∧o≤j∧j<q then .mut H.length else g.κ r' j:=by
  intro r' j
  simp only[g',Ctx.at,Ctx.row]
  by_cases e:r'=r
  ·subst e;simp
  ·simp[e]
 have dR:∀b',g'.φ b'=if b'=H.length then some (r,o,q)else g.φ b':=fun b'=>rfl
 have le:Le g w g' (w.setCells r (o+cs.length) vs):=Le.cJ tr
  (fun b' x hx=>by rw[dR];split;rename_i e;rw[e,h.tw (Nat.le_refl _)]at hx;cases hx;exact hx)
  (fun r' j hk=>by rw[hκ];split;rename_i c;obtain⟨rfl,a,c⟩:=c;rw[(h2 j a c).1]at hk;cases hk;exact hk) (fun _ _ _ h=>h) (fun r' j gR e=>by rw[hS r' j gR]at e;cases e)
 refine⟨le,h.step (fun b'=>b'=b∨b'=H.length) tr le (fun r' j gR=>.inr (.inl ⟨b,hS r' j gR,.inl rfl⟩)) (fun _ hm=>hm.elim) (fun r' j hr=>?_) (fun b' x hx=>?_) (fun t e x hx=>?_) (fun b' cV hn=>?_) (fun r' j b' hn=>?_) (fun _ _ _ _=>rfl) (fun b' x hx=>?_),?_,fun b' x a c d=>?_⟩
 ·rw[bw]at hr
  rw[hκ];split
  ·rename_i c;obtain⟨rfl,a,c⟩:=c
   have:=h.fresh r' j hr
   rw[(h2 j a c).1]at this;cases this
  ·exact h.fresh r' j hr
 ·rw[dR]at hx
  simp only[List.length_append,List.length_set,List.length_singleton]
  split at hx
  ·omega
  ·have:=h.gQ b' x hx;omega
 ·simp only[List.length_append,List.length_set,List.length_singleton]
  have:=h.cq t e x hx;omega
 ·rw[dR,if_neg (by omega)]
 ·constructor<;>intro e<;>rw[hκ]<;>split
  ·rename_i c;obtain⟨rfl,a,c⟩:=c;rw[(h2 j a c).1]at e;cases e;exact absurd (.inl rfl) hn
  ·exact e
  ·rename_i c;obtain⟨rfl,a,c⟩:=c;rw[(h2 j a c).1]at e;cases e
  ·exact e
 ·by_cases e:b'=H.length
  ·right
   subst e
   have en:x=.cells (cs++ts):=by
    have:(H.set b B.dead++[.cells (cs++ts)])[H.length]?=some (.cells (cs++ts)):=by
     rw[List.getElem?_append_right (by simp)];simp
    rw[this]at hx;cases hx;rfl
   subst en
   intro r' o' q' hq
   rw[dR,if_pos rfl]at hq
   simp only[Option.some.injEq,Prod.mk.injEq]at hq
   obtain⟨rfl,rfl,rfl⟩:=hq
   refine⟨by rw[List.length_append];omega,fun j a c=>⟨by rw[hκ];simp[a,c],fun j0=>by rw[World.frozen?_setCells];exact(h2 j a c).2.1 j0,tr.fh r j ?_ (h2 j a c).2.2⟩,fun i t hi=>?_⟩
   ·obtain⟨x,hx⟩:=Option.isSome_iff_exists.1 (h2 j a c).2.2;exact dQ hx
   ·rw[List.getElem?_append]at hi
    split at hi
    ·rename_i aD
     obtain⟨a,v,xI,xJ⟩:=h3 i t hi
     exact⟨a,v,by rw[aW r vs _ w r (o+i) (by omega)];exact xI,xJ.mono le⟩
    ·rename_i pO
     have aD:i-cs.length<vs.length:=by rw[←hl];exact(List.getElem?_eq_some_iff.1 hi).1
     refine⟨ho t (List.mem_of_getElem? hi),_,?_,(hv.2 _ t _ hi (List.getElem?_eq_getElem aD)).mono le⟩
     have:=aY r vs (o+cs.length) w hs (i-cs.length) _ (List.getElem?_eq_getElem aD)
     rwa[show o+cs.length+(i-cs.length)=o+i by omega]at this
  ·have zD:(H.set b B.dead)[b']?=some x:=aN (by simpa using e) hx
   rcases bj fo zD with⟨rfl,rfl⟩|⟨aG,en⟩
   ·right;trivial
   ·exact .inl ⟨by rintro (h|h);exact aG h;exact e h,en⟩
 ·simp
 ·have aD:b'<H.length:=(List.getElem?_eq_some_iff.1 a).1
  have aG:b'≠b:=by rintro rfl;rw[hφ]at d;cases d
  exact⟨bh (bE a aG),by rw[dR,if_neg (by omega)];exact d⟩
theorem qn {x:T}{vx:Value}(hx:VR g w x vx)(hk:pU x=true):∃(a:Option Addr) (l c:Nat),vx=.slice a l c∧l≤c:=by
 cases hx with
 | slnil=>exact⟨_,_,_,rfl,Nat.le_refl _⟩
 | dn=>exact⟨_,_,_,rfl,Nat.le_refl _⟩
 | sl a7 nI hc hn h1 h2=>exact⟨_,_,_,rfl,hc⟩
 | aQ h hc hq=>exact⟨_,_,_,rfl,hc⟩
 | _=>simp[pU]at hk
theorem qo {sT xT elem rt:TypeId}{ei:TypeInfo}{zv:Value}{n bytes:Nat}{x y t:T}{new:List (List T)}{vx vy:Value}{H':aa}(E:gi P sT xT elem ei zv n bytes)
  (h:SR w0 g H w) (hx:VR g w x vx) (hy:VR g w y vy) (jg:aJ H n y=some new) (he:oO H n bytes x new=some (t,H')) :
  aI P w0 g H w (Builtin.append_ #[sT,xT] rt #[vx,vy]) t H':=by
 obtain⟨vs,s1,s2,s3,s4,s5,s6⟩:=nO (P:=P) h hy jg
 have iW:=cw new s5
 cases gj:new with
 | nil =>
  subst gj
  simp only[oO]at he
  split at he
  case isFalse=>cases he
  rename_i hk
  simp only[Option.some.injEq,Prod.mk.injEq]at he
  obtain⟨rfl,rfl⟩:=he
  have fZ:vs=[]:=by simpa using s6
  subst fZ
  have:∃a l c,vx=.slice a l c∧l≤c:=qn hx hk
  obtain⟨a,l,c,rfl,y9⟩:=this
  exact aI.same h (eA E s1 (s2 w rfl) y9) hx
 | cons c0 CU =>
  have hlen:0<new.length:=by rw[gj];simp
  rw[gj]at he
  simp only[oO]at he
  rw[←gj]at he
  have empty:∀(a:Option Addr),vx=.slice a 0 0→dM (0+new.length) bytes=true→t=.aQ H.length 0 new.length n→H'=H++[.cells new.flatten]→aI P w0 g H w (Builtin.append_ #[sT,xT] rt #[vx,vy]) t H':=by
   rintro a rfl cZ rfl rfl
   have zE:∀w':World,w'.heap=w.heap→(Builtin.firstCells n 0 (.slice a 0 0)).run P w'=.ok ([]:List Value).toArray w':=by
    intro w' _
    cases a with
    | none=>simp[Builtin.firstCells]
    | some a=>simpa[Builtin.firstCells]using run_loadCells_list (P:=P) w' a [] (by simp)
   obtain⟨bK,rest,uz,uA,aL⟩:=cY (rt:=rt) (w:=w) E s1 s2 zE (by omega) cZ
   have cX:(([]:List Value)++vs++rest).toArray.size=bK*n:=by
    simp only[List.size_toArray,List.nil_append]
    rw[List.length_append,s6,uA,←Nat.add_mul];congr 1;omega
   have cK:∀(i:Nat) (t:T),new.flatten[i]?=some t→t.one=true∧∃v,(([]:List Value)++vs++rest).toArray[i]?=some v∧VR g w t v:=by
    intro i t hi
    obtain⟨v,h1,h2⟩:=s3.cj i t hi
    refine⟨s4 t (List.mem_of_getElem? hi),v,?_,h2⟩
    simp only[List.nil_append,List.getElem?_toArray]at h1 ⊢
    rw[List.getElem?_append_left (List.getElem?_eq_some_iff.1 h1).1];exact h1
   obtain⟨g',le,sr,fr,hφ⟩:=h.cQ (c:=([]++vs++rest).toArray) (ty:=elem) (cs:=new.flatten) (g7 w) rfl cK
   refine⟨_,_,g',aL,le,sr,?_,fr⟩
   rw[Nat.zero_add]at uz ⊢
   exact .aQ (r:=w.heap.size) (o:=0) (off:=0) hφ uz (by rw[cX];simp)
  cases x with
  | sl k es =>
   cases k with
   | nil =>
    simp only at he
    split at he
    ·rename_i hc
     obtain⟨cZ,rfl⟩:=hc
     simp only[Option.some.injEq,Prod.mk.injEq]at he
     cases hx with
     | slnil=>exact empty none rfl (by simpa using cZ) he.1.symm he.2.symm
     | sl a7 hk=>exact hk.elim
    ·cases he
   | full =>
    simp only at he
    split at he
    ·rename_i hc
     obtain⟨cZ,rfl⟩:=hc
     simp only[Option.some.injEq,Prod.mk.injEq]at he
     cases hx with
     | sl a7 hk =>
      simp only[oS,List.length_nil]at hk
      subst hk
      exact empty _ rfl (by simpa using cZ) he.1.symm he.2.symm
    ·cases he
   | arg=>cases he
   | own _ _=>cases he
  | aQ b off len n' =>
   simp only at he
   cases hb:H[b]? with
   | none=>simp[hb]at he
   | some z =>
    cases z with
    | cells cs =>
     simp only[hb]at he
     split at he
     ·rename_i hc
      obtain⟨rfl,rfl,kS,cZ⟩:=hc
      simp only[Option.some.injEq,Prod.mk.injEq]at he
      obtain⟨rfl,rfl⟩:=he
      cases hx with
      | @aQ _ _ _ _ r o q cap hφ fJ hq =>
       obtain⟨h1,h2,h3⟩:=h.du b _ hb r o q hφ
       have fo:b<H.length:=(List.getElem?_eq_some_iff.1 hb).1
       by_cases ey:len+new.length≤cap
       ·have Fk:o+cs.length+new.flatten.length≤q:=by
         rw[iW,←kS,←hq,Nat.add_assoc,←Nat.add_mul]
         have:=Nat.mul_le_mul_right n' ey
         omega
        obtain⟨le,sr,fr⟩:=h.zC hb hφ s3 s4 Fk
        have fZ:vs.length=new.flatten.length:=by rw[s6,iW]
        have g8:=run_storeCells_cells (P:=P) r (o+0+len*n') vs 0 w (fun j hj=>by simpa using (h2 (o+len*n'+j) (by omega) (by omega)).2.2) (fun j hj=>(h2 (o+len*n'+j) (by omega) (by omega)).2.1 _) (s3.dp s4)
        rw[Nat.add_zero]at g8
        have aL:=e7 (rt:=rt) (cap:=cap) E s1 (s2 w rfl) ey g8
        rw[kS]at aL
        refine⟨_,_,_,aL,le,sr,?_,fr⟩
        exact .aQ (off:=0) (r:=r) (o:=o) (q:=q) (by simp[Ctx.at]) ey (by rw[←hq])
       ·have hp:gG H (len*n') (.ptr b 0)=some cs:=by simp[gG,hb,kS]
        obtain⟨r',o',ep,e1,e2,e3,e4,e5⟩:=fj h (.ptr hφ) hp
        cases e1
        have yZ:∀w':World,w'.heap=w.heap→(Builtin.firstCells n' len (.slice (some ⟨r,o+0,none⟩) len cap)).run P w'=.ok ep.toArray w':=by
         intro w' mY
         have:=run_loadCells_list (P:=P) w' ⟨r,o+0,none⟩ ep (fun j v hj=>by rw[gk mY,a8];exact e3 j v hj)
         rw[e2]at this
         simpa[Builtin.firstCells]using this
        obtain⟨bK,rest,uz,uA,aL⟩:=cY (rt:=rt) (w:=w) E s1 s2 yZ (by omega) cZ
        have cX:(ep++vs++rest).toArray.size=bK*n':=by
         simp only[List.size_toArray]
         rw[List.length_append,List.length_append,e2,s6,uA,←Nat.add_mul,←Nat.add_mul];congr 1;omega
        have qp:ax g w (cs++new.flatten) (ep++vs):=ax.append e4 s3
        obtain⟨le,sr,fr⟩:=h.mut (c:=(ep++vs++rest).toArray) (ty:=elem) (H':=H.set b .dead++[.cells (cs++new.flatten)]) (b:=H.length) (cs:=cs++new.flatten) (g7 w) rfl
         (by rw[List.getElem?_append_right (by simp)];simp) (h.tw (Nat.le_refl _))
         (fun b' x aG hx=>by
          have zD:(H.set b B.dead)[b']?=some x:=aN (by simpa using aG) hx
          rcases bj fo zD with⟨_,rfl⟩|⟨_,en⟩
          ·exact .inr rfl
          ·exact .inl en) (by simp)
         (fun b' x a _ d _=>bh (bE a (by rintro rfl;rw[hφ]at d;cases d)))
         (fun i t hi=>by
          obtain⟨v,k1,k2⟩:=qp.cj i t hi
          refine⟨?_,v,?_,k2⟩
          ·rcases List.mem_append.1 (List.mem_of_getElem? hi)with hm|hm
           ·exact e5 t hm
           ·exact s4 t hm
          ·simp only[List.getElem?_toArray]at k1 ⊢
           rw[List.getElem?_append_left (List.getElem?_eq_some_iff.1 k1).1];exact k1)
        refine⟨_,_,_,aL,le,sr,.aQ (r:=w.heap.size) (o:=0) (off:=0) (q:=(ep++vs++rest).toArray.size) (by simp[Ctx.at]) uz (by rw[cX];simp),by simp,fun b' x a c d=>fr b' x a c d (by have:=(List.getElem?_eq_some_iff.1 a).1;omega)⟩
     ·cases he
    | map _=>simp[hb]at he
    | tok _=>simp[hb]at he
    | _=>simp[hb]at he
  | _=>simp at he
theorem jz:∀(vs:List Value) (k off:Nat) (cells:Array Value),off+k+vs.length≤cells.size →
  ((vs.zipIdx k).foldl (fun (cs:Array Value) (x:Value×Nat)=>cs.setIfInBounds (off+x.2) x.1) cells).toList=cells.toList.take (off+k)++vs++cells.toList.drop (off+k+vs.length)
 | [],k,off,cells,_=>by simp
 | v :: vs,k,off,cells,h=>by
  simp only[List.length_cons]at h
  rw[List.zipIdx_cons,List.foldl_cons,jz vs (k+1) off _ (by simp;omega)]
  simp only[Array.toList_setIfInBounds,List.length_cons]
  have aD:off+k<cells.toList.length:=by simp;omega
  rw[show off+(k+1)=off+k+1 by omega,List.take_add_one]
  rw[show off+k+1+vs.length=off+k+(vs.length+1) by omega]
  rw[List.take_set_of_le (Nat.le_refl _),List.getElem?_set_self aD,List.drop_set_of_lt (by omega)]
  simp
theorem gm {off size:Nat}{v:Value}{cells:Array Value}(hs:v.cells.size=size)(hle:off+size≤cells.size) :
  (v.cells.zipIdx.foldl (fun (cs:Array Value) (x:Value×Nat)=>cs.setIfInBounds (off+x.2) x.1) cells).toList=cells.toList.take off++v.cells.toList++cells.toList.drop (off+size):=by
 have:=jz v.cells.toList 0 off cells (by simp[hs];omega)
 rw[←Array.foldl_toList,Array.toList_zipIdx]
 simpa[hs]using this
def placesOf (P:Program):List Field→List (Nat×Nat)
 | []=>[]
 | f :: fs=>(f.offset,P.cellsOf f.type) :: placesOf P fs
theorem run_places {fs:List Field}(hi:∀f∈fs,∃i,P.info? f.type=some i):(fs.mapM fun f=>do pure (f.offset,←sizeOf f.type):Sem (List (Nat×Nat))).run P w=.ok (placesOf P fs) w:=by
 induction fs with
 | nil=>simp[placesOf]
 | cons f fs ih =>
  obtain⟨i,hf⟩:=hi f (by simp)
  have ih:=ih (fun f' h'=>hi f' (by simp[h']))
  have h0:(sizeOf f.type).run P w=.ok i.size w:=by simp[sizeOf,ar hf]
  rw[List.mapM_cons]
  simp only[Sem.run_bind,h0,Result.andThen_ok,Sem.run_pure,ih]
  simp[placesOf,Program.cellsOf,hf]
inductive PV (g:Ctx)(w:World)(R:ai):List (Nat×X)→List (Nat×Value)→Prop
 | nil:PV g w R [] []
 | cons {i:Nat} {x:X} {v:Value} {ps:List (Nat×X)} {pv:List (Nat×Value)} (h:VR g w (x.ev R) v) (hs:PV g w R ps pv):PV g w R ((i,x) :: ps) ((i,v) :: pv)
theorem uB {R:ai}{place:Nat→Option (Nat×Nat)}{ps:List (Nat×X)}{pv:List (Nat×Value)}(hv:PV g w R ps pv):∀(l:List (Nat×List T)) (z cs:List T) (cells:Array Value),(∀p∈ps,(place p.1).isSome=true) →
  bU R (ps.map fun p=>(((place p.1).getD (0,0)).1,((place p.1).getD (0,0)).2,p.2))=some l→eX z l=some cs→ax g w z cells.toList→aS z →
  ∃a9,Instr.fill place cells pv=some a9∧ax g w cs a9.toList∧aS cs∧a9.size=cells.size:=by
 induction hv with
 | nil =>
  intro l z cs cells hp hl hf hz ho
  simp[bU]at hl;subst hl
  simp[eX]at hf;subst hf
  exact⟨cells,rfl,hz,ho,rfl⟩
 | @cons i x v ps pv zF _ ih =>
  intro l z cs cells hp hl hf hz ho
  have Cf:=hp (i,x) (by simp)
  cases xN:place i with
  | none=>simp[xN]at Cf
  | some os =>
   obtain⟨off,size⟩:=os
   simp only[List.map_cons,xN,Option.getD_some]at hl
   simp only[bU]at hl
   cases hc:(x.ev R).cells? with
   | none=>simp[hc]at hl
   | some c =>
    cases hr:bU R (ps.map fun p=>(((place p.1).getD (0,0)).1,((place p.1).getD (0,0)).2,p.2))with
    | none=>simp[hc,hr]at hl
    | some l' =>
     simp only[hc,hr]at hl
     split at hl
     ·rename_i g6
      simp at hl;subst hl
      simp only[eX]at hf
      split at hf
      ·rename_i hle
       obtain⟨nP,zG⟩:=dD zF hc
       have cX:v.cells.size=size:=by have:=nP.1;simp at this;omega
       have lB:z.length=cells.size:=by have:=hz.1;simpa using this
       have CY:off+size≤cells.size:=by omega
       have bI:=gm cX CY
       have iX:ax g w (z.take off++c++z.drop (off+c.length)) (v.cells.zipIdx.foldl (fun (cs:Array Value) (x:Value×Nat)=>cs.setIfInBounds (off+x.2) x.1) cells).toList:=by
        rw[bI,g6]
        exact ax.append (ax.append (hz.take off) nP) (hz.drop (off+size))
       have fp:aS (z.take off++c++z.drop (off+c.length)):=by
        intro t ht
        rcases List.mem_append.1 ht with ht|ht
        ·rcases List.mem_append.1 ht with ht|ht
         ·exact ho t (List.mem_of_mem_take ht)
         ·exact zG t ht
        ·exact ho t (List.mem_of_mem_drop ht)
       obtain⟨a9,k1,k2,k3,k4⟩:=ih l' _ cs _ (fun x hx=>hp x (by simp[hx])) hr hf iX fp
       refine⟨a9,?_,k2,k3,?_⟩
       ·simp only[Instr.fill,xN]
        rw[if_neg]
        ·exact k1
        ·simp[cX];omega
       ·rw[k4]
        have:=congrArg List.length bI
        simp only[Array.length_toList,List.length_append,List.length_take,List.length_drop]at this
        omega
      ·cases hf
     ·cases hl
theorem o5 {ty:TypeId}{fs:Array Field}{i:TypeInfo}{zv:Value}{R:ai}{ps:List (Nat×X)}{pv:List (Nat×Value)}{z cs:List T}{l:List (Nat×List T)}(hu:P.underlying ty=some (.struct fs))(hi:P.info? ty=some i)(hz:i.zero=some zv)(qq:bO zv.cells.toList=some z)
  (F4:∀f∈fs.toList,∃i,P.info? f.type=some i) (hp:∀p∈ps,p.1<fs.size) (h:SR w0 g H w) (hv:PV g w R ps pv)
  (hl:bU R (ps.map fun p=>((((placesOf P fs.toList)[p.1]?).getD (0,0)).1,(((placesOf P fs.toList)[p.1]?).getD (0,0)).2,p.2))=some l) (hf:eX z l=some cs) :
  aI P w0 g H w (Instr.build ty pv.toArray) (.agg cs) H:=by
 obtain⟨o6,pP⟩:=bu (g:=g) (w:=w) _ _ qq
 have hlen:∀l:List Field,(placesOf P l).length=l.length:=by
  intro l;induction l with
  | nil=>rfl
  | cons f l ih=>simp[placesOf,ih]
 have Cg:∀p∈ps,((placesOf P fs.toList)[p.1]?).isSome=true:=fun p F5=>by
  have:=hp p F5
  rw[List.getElem?_eq_getElem (by rw[hlen];simpa using this)];rfl
 obtain⟨a9,k1,k2,k3,_⟩:=uB (place:=fun (i:Nat)=>(placesOf P fs.toList)[i]?) hv l z cs zv.cells Cg hl hf o6 pP
 refine aI.same h (v:=.agg a9) ?_ (by have:=k2.agg k3;simpa using this)
 have xN:(fs.mapM fun f=>do pure (f.offset,←sizeOf f.type):Sem (Array (Nat×Nat))).run P w=.ok (placesOf P fs.toList).toArray w:=by
  rw[Array.mapM_eq_mapM_toList]
  simp only[Sem.run_map,run_places F4,Result.andThen_ok]
 simp only[Instr.build,zeroValue,Sem.run_bind,ar hi,hz,Result.andThen_ok,Sem.run_pure,run_underlying hu,xN]
 have e:(fun (x:Nat)=>(placesOf P fs.toList).toArray[x]?)=fun (i:Nat)=>(placesOf P fs.toList)[i]?:=by funext x;simp
 simp[e,k1]
end
section
variable {P:Program} {w0 w:World} {g:Ctx} {H:aa}
theorem eC {n:Nat}:∀(es:List (List T)) (i:Nat) (c:List T),(∀c∈es,c.length=n)→i<es.length→(es.set i c).flatten=es.flatten.take (i*n)++c++es.flatten.drop (i*n+n)
 | [],i,c,_,h=>by simp at h
 | d :: es,0,c,hn,_=>by
  have hd:=hn d (by simp)
  simp[←hd]
 | d :: es,i+1,c,hn,h=>by
  have hd:=hn d (by simp)
  have ih:=eC es i c (fun c hc=>hn c (by simp[hc])) (by simpa using h)
  simp only[List.set_cons_succ,List.flatten_cons,ih]
  have e1:(d++es.flatten).take ((i+1)*n)=d++es.flatten.take (i*n):=by
   rw[List.take_append,hd,Nat.succ_mul]
   rw[List.take_of_length_le (by omega)]
   congr 2;omega
  have e2:(d++es.flatten).drop ((i+1)*n+n)=es.flatten.drop (i*n+n):=by
   rw[List.drop_append,hd,Nat.succ_mul]
   rw[List.drop_of_length_le (by omega)]
   simp only[List.nil_append]
   congr 1;omega
  rw[e1,e2];simp
theorem qt {R:ai}{n:Nat}{ps:List (Nat×X)}{pv:List (Nat×Value)}(hv:PV g w R ps pv):∀(es fs:List (List T)) (cells:Array Value),dA n es R ps=some fs→(∀c∈es,c.length=n)→ax g w es.flatten cells.toList→aS es.flatten →
  ∃a9,Instr.fill (fun i=>some (i*n,n)) cells pv=some a9∧ax g w fs.flatten a9.toList∧aS fs.flatten∧(∀c∈fs,c.length=n)∧fs.length=es.length:=by
 induction hv with
 | nil =>
  intro es fs cells he hn hz ho
  simp[dA]at he;subst he
  exact⟨cells,rfl,hz,ho,hn,rfl⟩
 | @cons i x v ps pv zF _ ih =>
  intro es fs cells he hn hz ho
  simp only[dA]at he
  cases hc:(x.ev R).cells? with
  | none=>simp[hc]at he
  | some c =>
   simp only[hc]at he
   split at he
   ·rename_i aB
    obtain⟨g6,hi⟩:=aB
    obtain⟨nP,zG⟩:=dD zF hc
    have cX:v.cells.size=n:=by have:=nP.1;simp at this;omega
    have gI:=cw es hn
    have lB:es.flatten.length=cells.size:=by have:=hz.1;simpa using this
    have hle:i*n+n≤cells.size:=by
     rw[←lB,gI,←Nat.succ_mul];exact Nat.mul_le_mul_right _ hi
    have bI:=gm cX hle
    have mZ:=eC es i (c.map T.erase) hn hi
    have iX:ax g w (es.set i (c.map T.erase)).flatten (v.cells.zipIdx.foldl (fun (cs:Array Value) (x:Value×Nat)=>cs.setIfInBounds (i*n+x.2) x.1) cells).toList:=by
     rw[bI,mZ]
     exact ax.append (ax.append (hz.take _) nP.erase) (hz.drop _)
    have fp:aS (es.set i (c.map T.erase)).flatten:=by
     rw[mZ]
     intro t ht
     rcases List.mem_append.1 ht with ht|ht
     ·rcases List.mem_append.1 ht with ht|ht
      ·exact ho t (List.mem_of_mem_take ht)
      ·exact iu zG t ht
     ·exact ho t (List.mem_of_mem_drop ht)
    obtain⟨a9,k1,k2,k3,k4,k5⟩:=ih _ fs _ he (fun c' ib=>by
     rcases List.mem_or_eq_of_mem_set ib with h|h
     ·exact hn c' h
     ·rw[h,List.length_map];exact g6) iX fp
    refine⟨a9,?_,k2,k3,k4,by simpa using k5⟩
    simp only[Instr.fill]
    rw[if_neg]
    ·exact k1
    ·simp[cX];omega
   ·cases he
theorem eD {n:Nat}{z:List T}{zc:Array Value}(hz:ax g w z zc.toList)(hn:z.length=n)(m:Nat):ax g w (List.replicate m z).flatten ((Array.range (m*n)).map (fun i=>zc[i%zc.size]!)).toList:=by
 have uw:zc.size=n:=by have:=hz.1;simp at this;omega
 refine⟨by simp[hn],fun i t v a b=>?_⟩
 have hi:i<m*n:=by
  have:=(List.getElem?_eq_some_iff.1 b).1
  simpa using this
 have zH:0<n:=by
  rcases Nat.eq_zero_or_pos n with e|e
  ·subst e;simp at hi
  ·exact e
 have F6:i/n<m:=Nat.div_lt_of_lt_mul (by rw[Nat.mul_comm];exact hi)
 have zI:i%n<z.length:=by rw[hn];exact Nat.mod_lt _ zH
 have e1:(List.replicate m z)[i/n]?=some z:=by simp[F6]
 have:=ew (n:=n) (List.replicate m z) (fun c hc=>by rw[List.eq_of_mem_replicate hc];exact hn) (i/n) (i%n) z _ e1 (List.getElem?_eq_getElem zI)
 rw[show i/n*n+i%n=i by rw[Nat.mul_comm,Nat.div_add_mod]]at this
 rw[this]at a
 simp at a;subst a
 have aD:i%zc.size<zc.toList.length:=by rw[uw];simp[uw];exact Nat.mod_lt _ zH
 have e2:zc.toList[i%zc.size]?=some v:=by
  simp[hi]at b
  rw[←b,List.getElem?_eq_getElem aD]
  have:i%zc.size<zc.size:=by simpa using aD
  simp[this]
 rw[uw]at e2
 exact hz.2 (i%n) _ v (List.getElem?_eq_getElem zI) e2
theorem dE {z:List T}(ho:aS z)(m:Nat):aS (List.replicate m z).flatten:=by
 intro t ht
 obtain⟨c,h1,h2⟩:=List.mem_flatten.1 ht
 rw[List.eq_of_mem_replicate h1]at h2
 exact ho t h2
theorem qu (w:World):Tr w w cu cW:=Tr.refl w
theorem uC {ty elem:TypeId}{ei:TypeInfo}{zv:Value}{R:ai}{ps:List (Nat×X)}{pv:List (Nat×Value)}{z:List T}{len:Nat}{fs:List (List T)}(hu:P.underlying ty=some (.slice elem))(hi:P.info? elem=some ei)(hz:ei.zero=some zv)(qq:bO zv.cells.toList=some z)
  (m0:z.length=ei.size) (cX:len*ei.size≤2^24) (h:SR w0 g H w) (hv:PV g w R ps pv) (he:dA z.length (List.replicate len z) R ps=some fs) :
  aI P w0 g H w (Instr.buildSlice ty len pv.toArray) (.sl .full fs) H:=by
 obtain⟨o6,pP⟩:=bu (g:=g) (w:=w) _ _ qq
 have CZ:=eD o6 m0 len
 have zE:=dE pP len
 rw[m0]at he
 obtain⟨a9,k1,k2,k3,k4,k5⟩:=qt hv _ fs ((Array.range (len*ei.size)).map (fun i=>zv.cells[i%zv.cells.size]!)) he (fun c hc=>by rw[List.eq_of_mem_replicate hc];exact m0) CZ zE
 have hlen:fs.length=len:=by rw[k5];simp
 obtain⟨le,sr,fr,cG⟩:=h.cG (c:=a9) (ty:=elem) (qu w) rfl
 refine⟨.slice (some ⟨w.heap.size,0,none⟩) len len,_,_,?_,le,sr,?_,fr⟩
 ·have qv:¬len*ei.size>2^24:=by omega
  by_cases h0:len*ei.size=0
  ·have e0:((Array.range (len*ei.size)).map (fun i=>zv.cells[i%zv.cells.size]!))=((Array.range (len*ei.size)).map (fun i=>(#[]:Array Value)[i%(#[]:Array Value).size]!)):=by
    rw[h0];simp
   rw[e0]at k1
   simp only[Instr.buildSlice,Sem.run_bind,run_underlying hu,Result.andThen_ok,sizeOf,ar hi,Sem.run_pure,qv,if_false,h0,if_true]
   rw[h0]at k1
   simp at k1
   simp[k1,newRow]
  ·simp only[Instr.buildSlice,Sem.run_bind,run_underlying hu,Result.andThen_ok,sizeOf,ar hi,Sem.run_pure,qv,if_false,h0,zeroValue,hz]
   simp[k1,newRow]
 ·have:=VR.gh (k:=.full) (r:=w.heap.size) (o:=0) (cap:=fs.length) k4 (k2.mono le) k3 (Nat.le_refl _) rfl (fun j v hj=>by rw[Nat.zero_add];exact cG j v (by simpa using hj))
  rw[hlen]at this;exact this
theorem wrap_i64 {n:Int}(h0:0≤n)(h1:n≤9223372036854775807):IntKind.i64.wrap n=n:=IntWalk.i64_in n (by omega)
theorem run_makeSlice {ty elem:TypeId}{ei:TypeInfo}{zv:Value}{k1 k2:IntKind}{l c:Int}(hu:P.underlying ty=some (.slice elem))(hi:P.info? elem=some ei)(hz:ei.zero=some zv)(h0:0≤l)(y9:l≤c)(hc:c*ei.bytes≤281474976710656)(ib:c≤9223372036854775807) :
  (Instr.makeSlice ty (.int k1 l) (.int k2 c)).run P w=.ok (.slice (some ⟨w.heap.size,0,none⟩) l.toNat c.toNat)
   (w.alloc (.cells ((Array.range (c.toNat*ei.size)).map (fun i=>(if c.toNat*ei.size=0 then(#[]:Array Value)else zv.cells)[i%(if c.toNat*ei.size=0 then(#[]:Array Value)else zv.cells).size]!)) elem)):=by
 have e1:=wrap_i64 h0 (by omega:l≤9223372036854775807)
 have e2:=wrap_i64 (by omega:0≤c) ib
 have t1:((decide (c<0)||decide ((ei.bytes:Int)*c>2^48))||decide (l<0)||decide (l>c))=false:=by
  have:(ei.bytes:Int)*c=c*ei.bytes:=Int.mul_comm _ _
  simp[this];omega
 simp only[Instr.makeSlice,Sem.run_bind,run_underlying hu,Result.andThen_ok,asInt,asIntOf,Sem.run_pure,ar hi,e1,e2,t1]
 by_cases hn:c.toNat*ei.size=0
 ·simp[sizeOf,ar hi,hn,newRow]
 ·simp[sizeOf,ar hi,hn,zeroValue,hz,newRow]
theorem uD {ty elem:TypeId}{ei:TypeInfo}{zv:Value}{mu:Bool}{z:List T}{x y t:T}{l c:Nat}{vx vy:Value}{H':aa}(hu:P.underlying ty=some (.slice elem))(hi:P.info? elem=some ei)(hz:ei.zero=some zv)(qq:bO zv.cells.toList=some z)(m0:z.length=ei.size)(zH:ei.size≠0)
  (h:SR w0 g H w) (hx:VR g w x vx) (hy:VR g w y vy) (hl:aR x=some l) (hc:aR y=some c) (y9:l≤c) (hb:c*ei.bytes≤281474976710656) (Iy:c≤9223372036854775807)
  (he:(if mu then(T.aQ H.length 0 l z.length,H++[.cells (List.replicate l z).flatten])else if l=0 then(.sl .arg [],H)else(.sl (.own H.length l) (List.replicate l z),H++[.tok l]))=(t,H')) :
  aI P w0 g H w (Instr.makeSlice ty vx vy) t H':=by
 obtain⟨o6,pP⟩:=bu (g:=g) (w:=w) _ _ qq
 obtain⟨k1,n1,rfl,a1,b1⟩:=bD hx hl
 obtain⟨k2,n2,rfl,a2,b2⟩:=bD hy hc
 have aL:=run_makeSlice (P:=P) (w:=w) (k1:=k1) (k2:=k2) hu hi hz a1 (by omega:n1≤n2) (by
  have:(n2.toNat:Int)=n2:=Int.toNat_of_nonneg a2
  rw[←this,b2];omega) (by omega)
 rw[b1,b2]at aL
 have tz:=eD o6 m0 c
 have bL:=dE pP c
 have qw:(List.replicate c z).flatten=(List.replicate l z).flatten++(List.replicate (c-l) z).flatten:=by
  rw[←List.flatten_append,List.replicate_append_replicate];congr 2;omega
 have Fl:(List.replicate l z).flatten.length=l*ei.size:=by rw[cw (n:=ei.size) _ (fun c hc=>by rw[List.eq_of_mem_replicate hc];exact m0),List.length_replicate]
 have fP:(Array.range (c*ei.size)).map (fun i=>(if c*ei.size=0 then(#[]:Array Value)else zv.cells)[i%(if c*ei.size=0 then(#[]:Array Value)else zv.cells).size]!)=(Array.range (c*ei.size)).map (fun i=>zv.cells[i%zv.cells.size]!):=by
  by_cases h0:c*ei.size=0
  ·rw[h0];simp
  ·simp only[h0,if_false]
 rw[fP]at aL
 generalize hA:(Array.range (c*ei.size)).map (fun i=>zv.cells[i%zv.cells.size]!)=A at aL tz
 have cX:A.size=c*ei.size:=by rw[←hA];simp
 have cK:∀(i:Nat) (t:T),(List.replicate l z).flatten[i]?=some t→t.one=true∧∃v,A[i]?=some v∧VR g w t v:=by
  intro i t fY
  have e:(List.replicate c z).flatten[i]?=some t:=by
   rw[qw,List.getElem?_append_left (List.getElem?_eq_some_iff.1 fY).1];exact fY
  obtain⟨v,h1,h2⟩:=tz.cj i t e
  exact⟨bL t (List.mem_of_getElem? e),v,by simpa using h1,h2⟩
 cases mu with
 | true =>
  simp only[if_true,Prod.mk.injEq]at he
  obtain⟨rfl,rfl⟩:=he
  obtain⟨g',le,sr,fr,hφ⟩:=h.cQ (c:=A) (ty:=elem) (qu w) rfl cK
  exact⟨_,_,g',aL,le,sr,.aQ (r:=w.heap.size) (o:=0) (off:=0) hφ y9 (by rw[cX,m0];simp),fr⟩
 | false =>
  simp only[Bool.false_eq_true,if_false]at he
  split at he
  ·rename_i y0
   subst y0
   simp only[Prod.mk.injEq]at he
   obtain⟨rfl,rfl⟩:=he
   obtain⟨le,sr,fr,cG⟩:=h.cG (c:=A) (ty:=elem) (qu w) rfl
   exact⟨_,_,_,aL,le,sr,.sl (n:=0) (fun _ _=>.nilIface) trivial (by simp) (by simp) (by simp) (by simp),fr⟩
  ·rename_i y0
   simp only[Prod.mk.injEq]at he
   obtain⟨rfl,rfl⟩:=he
   obtain⟨le,sr,fr,cG,hp⟩:=h.qm (c:=A) (ty:=elem) (t:=H.length) (e:=l) (k:=l*ei.size) (H':=H++[.tok l]) (qu w) rfl (bm _ _) (by rw[cX];exact Nat.mul_le_mul_right _ y9) (fun ux _=>h.CR (Nat.le_refl _))
    (fun b' x e hx=>aN e hx) (by simp) (fun b' x hx _=>bh hx)
   refine⟨_,_,_,aL,le,sr,?_,fr⟩
   have hv:ax g w (List.replicate l z).flatten (A.toList.take (l*ei.size)):=by
    have:=tz.take (l*ei.size)
    rwa[qw,List.take_append_of_le_length (by omega),List.take_of_length_le (by omega)]at this
   have:=VR.gh (k:=.own H.length l) (r:=w.heap.size) (o:=0) (cap:=c) (n:=ei.size) (es:=List.replicate l z) (fun c hc=>by rw[List.eq_of_mem_replicate hc];exact m0) (hv.mono le) (dE pP l) (by simpa using y9)
    ⟨by rw[hp,cX];simp,by simp;omega⟩ (fun j v hj=>by
     rw[Nat.zero_add]
     rw[List.getElem?_take]at hj
     split at hj
     ·rename_i aD;exact cG j v aD (by simpa using hj)
     ·cases hj)
   simpa using this
theorem uE {f:Nat}{er:List T}{vs:List Value}(h:SR w0 g H w)(hv:ax g w er vs):aI P w0 g H w (Instr.makeFunc (.func f) #[] vs.toArray) (.fn f er) H :=
 aI.same h rfl (.fn (by simp[hv.1]) (fun i t v a b=>hv.2 i t v a (by simpa using b)))
end
section
variable {P:Program} {w0 w:World} {g:Ctx} {H:aa}
theorem VR.yX {t:T}{v:Value}(h:VR g w t v):VR g w (yX t) v:=by
 cases h with
 | bT h hc hq=>exact .aQ h hc hq
 | aQ h hc hq=>exact .aQ h hc hq
 | int k n=>exact .int k n
 | bool b=>exact .bool b
 | str s=>exact .str s
 | aF=>exact .aF
 | ptr h=>exact .ptr h
 | cD a7 h1 h2=>exact .cD a7 h1 h2
 | b7=>exact .b7
 | map h=>exact .map h
 | slnil=>exact .slnil
 | dn a=>exact .dn a
 | sl a7 hk hc hn h1 h2=>exact .sl a7 hk hc hn h1 h2
 | di=>exact .di
 | fn hl h=>exact .fn hl h
 | gY h=>exact .gY h
 | cE=>exact .cE
 | agg hl h1 h2=>exact .agg hl h1 h2
 | bg hl h2=>exact .bg hl h2
theorem uF {ty rt:TypeId}{e:TypeId}{b off len n c:Nat}{vx:Value}(hu:P.underlying ty=some (.slice e))(h:SR w0 g H w)(hx:VR g w (.bT b off len n c) vx) :
  aI P w0 g H w (Builtin.cap_ #[ty] rt #[vx]) (.int .i64 (c:Nat)) H:=by
 cases hx with
 | bT hφ hc hq=>exact aI.same h (v:=.int .i64 c) (by simp[Builtin.cap_,run_underlying hu,goInt]) (.int _ _)
theorem iv (cs:List T)(off n:Nat):∀k,off+k*n≤cs.length→((List.range k).map fun i=>(cs.drop (off+i*n)).take n).flatten=(cs.drop off).take (k*n)
 | 0,_=>by simp
 | k+1,h=>by
  have h':off+k*n≤cs.length:=by rw[Nat.succ_mul]at h;omega
  rw[List.range_succ,List.map_append,List.flatten_append,iv cs off n k h',Nat.succ_mul,List.take_add]
  simp[List.drop_drop]
theorem jA {n k:Nat}{y:T}{vy:Value}{new:List (List T)}(h:SR w0 g H w)(hy:VR g w y vy)(he:fg H n k y=some new) :
  ∃r o ly cap vs,vy=.slice (some ⟨r,o,none⟩) ly cap∧tL y=some ly∧(∀(j:Nat) (v:Value),vs[j]?=some v→w.cell? ⟨r,o+j,none⟩=some v)∧ax g w new.flatten vs∧vs.length=k*n∧aS new.flatten∧new.flatten.length=k*n:=by
 have key:∀(b off:Nat) (r o q:Nat),g.φ b=some (r,o,q)→(match H[b]? with|some (.cells cs)=>if off+k*n≤cs.length then some ((List.range k).map fun i=>(cs.drop (off+i*n)).take n)else none|_=>none)=some new →
   ∃vs,(∀(j:Nat) (v:Value),vs[j]?=some v→w.cell? ⟨r,o+off+j,none⟩=some v)∧ax g w new.flatten vs∧vs.length=k*n∧aS new.flatten∧new.flatten.length=k*n:=by
  intro b off r o q hφ he
  cases hb:H[b]? with
  | none=>simp[hb]at he
  | some z =>
   cases z<;>simp only[hb]at he<;>(try (cases he;done))
   rename_i cs
   split at he
   ·rename_i hle
    simp only[Option.some.injEq]at he
    have gI:=iv cs off n k hle
    rw[he]at gI
    have hp:gG H (k*n) (.ptr b off)=some new.flatten:=by simp[gG,hb,hle,gI]
    obtain⟨r',o',vs,e1,e2,e3,e4,e5⟩:=fj h (.ptr hφ) hp
    cases e1
    exact⟨vs,e3,e4,e2,e5,by rw[gI,List.length_take,List.length_drop];omega⟩
   ·cases he
 cases hy<;>simp only[fg]at he<;>(try (cases he;done))
 ·rename_i b off len n' r o q cap hφ hc hq
  obtain⟨vs,a1,a2,a3,a4,a5⟩:=key b off r o q hφ (by
   cases hb:H[b]? with
   | none=>simp[hb]at he
   | some z =>
    cases z<;>simp only[hb]at he ⊢<;>(try (cases he;done))
    split at he
    ·rename_i kv;rw[if_pos kv.2];exact he
    ·cases he)
  exact⟨r,o+off,len,cap,vs,rfl,rfl,a1,a2,a3,a4,a5⟩
 ·rename_i b off len n' r o q cap hφ hc hq
  obtain⟨vs,a1,a2,a3,a4,a5⟩:=key b off r o q hφ (by
   cases hb:H[b]? with
   | none=>simp[hb]at he
   | some z =>
    cases z<;>simp only[hb]at he ⊢<;>(try (cases he;done))
    split at he
    ·rename_i kv;rw[if_pos kv.2];exact he
    ·cases he)
  exact⟨r,o+off,len,cap,vs,rfl,rfl,a1,a2,a3,a4,a5⟩
theorem SR.xO {b off r o q:Nat}{cs ts:List T}{vs:List Value}(h:SR w0 g H w)(hb:H[b]?=some (.cells cs))(hφ:g.φ b=some (r,o,q))(oX:off≤cs.length)(hle:o+off+ts.length≤q)(hv:ax g w ts vs)(ho:aS ts) :
  Le g w g (w.setCells r (o+off) vs)∧SR w0 g (H.set b (.cells (cs.take off++ts++cs.drop (off+ts.length)))) (w.setCells r (o+off) vs):=by
 have fo:b<H.length:=(List.getElem?_eq_some_iff.1 hb).1
 obtain⟨h1,h2,h3⟩:=h.du b _ hb r o q hφ
 have hl:=hv.1
 have hs:∀j,o+off≤j→j<o+off+vs.length→(w.cell? ⟨r,j,none⟩).isSome=true:=fun j a c=>(h2 j (by omega) (by omega)).2.2
 have tr:=Tr.setCells w r (o+off) vs hs
 have hS:∀r' j,lz r (o+off) vs.length r' j→g.κ r' j=.mut b:=by
  rintro r' j⟨rfl,a,c⟩;exact(h2 j (by omega) (by omega)).1
 have le:Le g w g (w.setCells r (o+off) vs):=Le.cJ tr (fun _ _ h=>h) (fun _ _ h=>h) (fun _ _ _ h=>h) (fun r' j gR e=>by rw[hS r' j gR]at e;cases e)
 refine⟨le,h.step (fun b'=>b'=b) tr le (fun r' j gR=>.inr (.inl ⟨b,hS r' j gR,rfl⟩)) (fun _ hm=>hm.elim) (fun r' j hr=>h.fresh r' j (by rwa[bw]at hr)) (fun b' x hx=>by rw[List.length_set];exact h.gQ b' x hx)
  (fun t e x hx=>by rw[List.length_set];exact h.cq t e x hx) (fun _ _ _=>rfl) (fun _ _ _ _=>⟨id,id⟩) (fun _ _ _ _=>rfl) (fun b' x hx=>?_)⟩
 rcases bj fo hx with⟨rfl,rfl⟩|⟨aG,en⟩
 ·right
  intro r' o' q' dR
  rw[hφ]at dR;cases dR
  have hlen:(cs.take off++ts++cs.drop (off+ts.length)).length=max cs.length (off+ts.length):=by simp;omega
  refine⟨by rw[hlen];omega,fun j a c=>⟨(h2 j a c).1,fun j0=>by rw[World.frozen?_setCells];exact(h2 j a c).2.1 j0,tr.fh r j ?_ (h2 j a c).2.2⟩,fun i t hi=>?_⟩
  ·obtain⟨x,hx⟩:=Option.isSome_iff_exists.1 (h2 j a c).2.2;exact dQ hx
  ·have fY:i<max cs.length (off+ts.length):=by rw[←hlen];exact(List.getElem?_eq_some_iff.1 hi).1
   by_cases jf:off≤i∧i<off+ts.length
   ·have ht:ts[i-off]?=some t:=by
     rw[List.append_assoc,List.getElem?_append_right (by simp;omega),List.getElem?_append_left (by simp;omega)]at hi
     rw[←hi];congr 1;simp;omega
    have aD:i-off<vs.length:=by omega
    refine⟨ho t (List.mem_of_getElem? ht),vs[i-off],?_,(hv.2 _ t _ ht (List.getElem?_eq_getElem aD)).mono le⟩
    have:=aY r vs (o+off) w hs (i-off) _ (List.getElem?_eq_getElem aD)
    rwa[show o+off+(i-off)=o+i by omega]at this
   ·have ht:cs[i]?=some t:=by
     by_cases aD:i<off
     ·rw[List.append_assoc,List.getElem?_append_left (by simp;omega),List.getElem?_take,if_pos aD]at hi;exact hi
     ·rw[List.getElem?_append_right (by simp;omega),List.getElem?_drop]at hi
      rw[←hi];congr 1;simp;omega
    obtain⟨a,v,xI,xJ⟩:=h3 i t ht
    refine⟨a,v,?_,xJ.mono le⟩
    rw[aW r vs (o+off) w r (o+i) (by omega)];exact xI
 ·exact .inl ⟨aG,en⟩
theorem o7 (w:World)(dT sT ty elem:TypeId){ei:TypeInfo}(b o xP C0:Nat)(a:Addr)(xQ C1:Nat)(cs:List Value)
  (hu:P.underlying dT=some (.slice elem)) (hi:P.info? elem=some ei) (hn:cs.length=Nat.min xQ xP*ei.size)
  (jg:∀(j:Nat) v,cs[j]?=some v→w.cell? (a.add j)=some v) (hc:∀j,j<cs.length→(w.cell? ⟨b,o+j,none⟩).isSome=true) (hf:∀j,j<cs.length→w.frozen? ⟨b,o+j,none⟩=false) (h1:∀v∈cs,v.oneCell'=true) :
  (Builtin.copy_ #[dT,sT] ty #[.slice (some ⟨b,o,none⟩) xP C0,.slice (some a) xQ C1]).run P w=.ok (goInt (Nat.min xQ xP:Nat)) (w.setCells b o cs):=by
 have hl:=run_loadCells_list (P:=P) w a cs jg
 have g8:=run_storeCells_cells (P:=P) b o cs 0 w (by simpa using hc) (by simpa using hf) h1
 rw[hn]at hl
 have hq:(typeInfo elem).run P w=.ok ei w:=ar hi
 simp[Builtin.copy_,run_underlying hu,Builtin.lenOf,Builtin.firstCells,sizeOf,hq,hl,g8]
theorem uG {dT sT rt elem:TypeId}{ei:TypeInfo}{x y t:T}{vx vy:Value}{H':aa}(hu:P.underlying dT=some (.slice elem))(hi:P.info? elem=some ei)
  (h:SR w0 g H w) (hx:VR g w x vx) (hy:VR g w y vy) (he:pV H ei.size x y=some (t,H')):aI P w0 g H w (Builtin.copy_ #[dT,sT] rt #[vx,vy]) t H':=by
 have key:∀b off len n' r o q cap,g.φ b=some (r,o,q)→len≤cap→o+off+cap*n'=q→vx=.slice (some ⟨r,o+off,none⟩) len cap →
   (∀ly,tL y=some ly→∀cs new,H[b]?=some (.cells cs)→fg H ei.size (min ly len) y=some new→n'=ei.size∧ei.size≠0∧off≤cs.length →
    t=.int .i64 (min ly len:Nat)→H'=H.set b (.cells (cs.take off++new.flatten++cs.drop (off+(min ly len)*ei.size)))→aI P w0 g H w (Builtin.copy_ #[dT,sT] rt #[vx,vy]) t H'):=by
  rintro b off len n' r o q cap hφ hc hq rfl ly xR cs new hb hK⟨rfl,zH,oX⟩ rfl rfl
  obtain⟨r2,o2,Iz,ko,vs,rfl,zJ,a1,a2,a3,a4,a5⟩:=jA h hy hK
  rw[xR]at zJ;cases zJ
  have fo:b<H.length:=(List.getElem?_eq_some_iff.1 hb).1
  obtain⟨h1,h2,h3⟩:=h.du b _ hb r o q hφ
  have hmul:min ly len*ei.size≤cap*ei.size:=Nat.mul_le_mul_right _ (by omega)
  have aL:=o7 (P:=P) w dT sT rt elem r (o+off) len cap ⟨r2,o2,none⟩ ly ko vs hu hi (by rw[a3]) (fun j v hj=>by rw[a8];exact a1 j v hj) (fun j hj=>(h2 _ (by omega) (by omega)).2.2) (fun j hj=>(h2 (o+off+j) (by omega) (by omega)).2.1 _) (a2.dp a4)
  obtain⟨le,sr⟩:=h.xO hb hφ oX (by rw[a5];omega) a2 a4
  rw[a5]at sr
  refine⟨_,_,g,aL,le,sr,by simpa[goInt]using .int _ _,by simp,fun b' y' a _ d=>⟨bE a ?_,d⟩⟩
  rintro rfl;rw[hφ]at d;cases d
 unfold pV at he
 cases hx<;>simp only[]at he<;>(try (cases he;done))
 all_goals
  rename_i b off len n' r o q cap hφ hc hq
  cases xR:tL y with
  | none=>simp[xR]at he
  | some ly =>
   simp only[xR]at he
   cases hb:H[b]? with
   | none=>simp[hb]at he
   | some z =>
    cases hK:fg H ei.size (min ly len) y with
    | none=>cases z<;>simp[hb,hK]at he
    | some new =>
     cases z<;>simp only[hb,hK]at he<;>(try (cases he;done))
     split at he
     ·rename_i kv
      simp only[Option.some.injEq,Prod.mk.injEq]at he
      exact key b off len n' r o q cap hφ hc hq rfl ly xR _ new hb hK kv he.1.symm he.2.symm
     ·cases he
theorem qx {R:ai}{n:Nat}{ps:List (Nat×X)}{pv:List (Nat×Value)}(hv:PV g w R ps pv):∀(es fs:List (List T)) (cells:Array Value),dB n es R ps=some fs→(∀c∈es,c.length=n)→ax g w es.flatten cells.toList→aS es.flatten →
  ∃a9,Instr.fill (fun i=>some (i*n,n)) cells pv=some a9∧ax g w fs.flatten a9.toList∧aS fs.flatten∧(∀c∈fs,c.length=n)∧fs.length=es.length:=by
 induction hv with
 | nil =>
  intro es fs cells he hn hz ho
  simp[dB]at he;subst he
  exact⟨cells,rfl,hz,ho,hn,rfl⟩
 | @cons i x v ps pv zF _ ih =>
  intro es fs cells he hn hz ho
  simp only[dB]at he
  cases hc:(x.ev R).cells? with
  | none=>simp[hc]at he
  | some c =>
   simp only[hc]at he
   split at he
   ·rename_i aB
    obtain⟨g6,hi⟩:=aB
    obtain⟨nP,zG⟩:=dD zF hc
    have cX:v.cells.size=n:=by have:=nP.1;simp at this;omega
    have gI:=cw es hn
    have lB:es.flatten.length=cells.size:=by have:=hz.1;simpa using this
    have hle:i*n+n≤cells.size:=by
     rw[←lB,gI,←Nat.succ_mul];exact Nat.mul_le_mul_right _ hi
    have bI:=gm cX hle
    have mZ:=eC es i c hn hi
    have iX:ax g w (es.set i c).flatten (v.cells.zipIdx.foldl (fun (cs:Array Value) (x:Value×Nat)=>cs.setIfInBounds (i*n+x.2) x.1) cells).toList:=by
     rw[bI,mZ]
     exact ax.append (ax.append (hz.take _) nP) (hz.drop _)
    have fp:aS (es.set i c).flatten:=by
     rw[mZ]
     intro t ht
     rcases List.mem_append.1 ht with ht|ht
     ·rcases List.mem_append.1 ht with ht|ht
      ·exact ho t (List.mem_of_mem_take ht)
      ·exact zG t ht
     ·exact ho t (List.mem_of_mem_drop ht)
    obtain⟨a9,k1,k2,k3,k4,k5⟩:=ih _ fs _ he (fun c' ib=>by
     rcases List.mem_or_eq_of_mem_set ib with h|h
     ·exact hn c' h
     ·rw[h];exact g6) iX fp
    refine⟨a9,?_,k2,k3,k4,by simpa using k5⟩
    simp only[Instr.fill]
    rw[if_neg]
    ·exact k1
    ·simp[cX];omega
   ·cases he
theorem SR.o8 {c:Array Value}{ty:TypeId}{cs:List T}(h:SR w0 g H w)(cX:cs.length=c.size)
  (hc:∀(i:Nat) (t:T),cs[i]?=some t→t.one=true∧∃v,c[i]?=some v∧VR g w t v) :
  ∃g',Le g w g' (w.alloc (.cells c ty))∧SR w0 g' (H++[.lit cs]) (w.alloc (.cells c ty))∧Fr g H g' (H++[.lit cs])∧g'.φ H.length=some (w.heap.size,0,c.size):=by
 have jy:=Tr.alloc w (.cells c ty)
 have aG:∀r j ow,g.κ r j=ow→ow≠.free→r≠w.heap.size:=by rintro r j ow e hn rfl;exact hn (e▸h.fresh _ j (Nat.le_refl _))
 have zK:=h.tw (b:=H.length) (Nat.le_refl _)
 have hκ:∀r j,((g.row w.heap.size fun j=>if j=c.size then .mut H.length else .cG).at H.length (w.heap.size,0,c.size)).κ r j=if r=w.heap.size then(if j=c.size then .mut H.length else .cG)else g.κ r j:=fun r j=>rfl
 have le:Le g w ((g.row w.heap.size fun j=>if j=c.size then .mut H.length else .cG).at H.length (w.heap.size,0,c.size)) (w.alloc (.cells c ty)):=Le.cJ jy
  (fun b' x hx=>by simp only[Ctx.at,Ctx.row];split;rename_i e;subst e;rw[zK]at hx;simp at hx;exact hx)
  (fun r o hk=>by rw[hκ,if_neg (aG r o _ hk (by simp))];exact hk) (fun _ _ _ h=>h) (fun _ _ hs=>hs.elim)
 refine⟨_,le,?_,⟨by simp,fun b x a _ d=>⟨bh a,?_⟩⟩,by simp[Ctx.at]⟩
 ·refine h.step (fun b'=>b'=H.length) jy le (fun _ _ hs=>hs.elim) (fun _ hm=>hm.elim) (fun r o hr=>?_) (fun b' x hx=>?_) (fun t e x hx=>by have:=h.cq t e x hx;simp;omega) (fun b' _ cV=>?_) (fun r j b' cV=>?_) (fun _ _ _ _=>rfl) (fun b' x hx=>?_)
  ·simp at hr
   rw[hκ,if_neg (by omega)];exact h.fresh r o (by omega)
  ·simp only[Ctx.at,Ctx.row]at hx
   split at hx
   ·rename_i e;subst e;simp
   ·have:=h.gQ b' x hx;simp;omega
  ·simp only[Ctx.at,Ctx.row];rw[if_neg cV]
  ·constructor<;>intro e<;>rw[hκ,if_neg (aG r j _ e (by simp))]<;>exact e
  ·by_cases e:b'=H.length
   ·subst e
    right
    rw[bm]at hx;cases hx
    refine⟨w.heap.size,c.size,by simp[Ctx.at],by rw[hκ];simp,fun j hj=>by rw[hκ,if_pos rfl,if_neg hj],c,ty,by show(w.heap.push _)[w.heap.size]?=_;simp,rfl,cX,fun i t hi=>?_⟩
    obtain⟨a,v,b1,b2⟩:=hc i t hi
    exact⟨a,v,b1,b2.mono le⟩
   ·exact .inl ⟨e,aN e hx⟩
 ·have:=(List.getElem?_eq_some_iff.1 a).1
  simp only[Ctx.at,Ctx.row];rw[if_neg (by omega)];exact d
theorem SR.m5 {c:Array Value}{ty:TypeId}{cs z:List T}{n:Nat}(h:SR w0 g H w)(cX:cs.length=c.size)
  (hc:∀(i:Nat) (t:T),cs[i]?=some t→t.one=true∧∃v,c[i]?=some v∧VR g w t v) :
  ∃g',Le g w g' (w.alloc (.cells c ty))∧SR w0 g' (H++[oP n z cs]) (w.alloc (.cells c ty))∧Fr g H g' (H++[oP n z cs])∧g'.φ H.length=some (w.heap.size,0,c.size):=by
 unfold oP
 split
 ·exact h.o8 cX hc
 ·exact h.cQ (qu w) rfl hc
theorem uH {ty elem:TypeId}{ei:TypeInfo}{zv:Value}{R:ai}{ps:List (Nat×X)}{pv:List (Nat×Value)}{z:List T}{len:Nat}{fs:List (List T)}(hu:P.underlying ty=some (.slice elem))(hi:P.info? elem=some ei)(hz:ei.zero=some zv)(qq:bO zv.cells.toList=some z)
  (m0:z.length=ei.size) (cX:len*ei.size≤2^24) (h:SR w0 g H w) (hv:PV g w R ps pv) (he:dB z.length (List.replicate len z) R ps=some fs) :
  aI P w0 g H w (Instr.buildSlice ty len pv.toArray) (.aQ H.length 0 len z.length) (H++[oP len z fs.flatten]):=by
 obtain⟨o6,pP⟩:=bu (g:=g) (w:=w) _ _ qq
 have CZ:=eD o6 m0 len
 have zE:=dE pP len
 rw[m0]at he
 obtain⟨a9,k1,k2,k3,k4,k5⟩:=qx hv _ fs ((Array.range (len*ei.size)).map (fun i=>zv.cells[i%zv.cells.size]!)) he (fun c hc=>by rw[List.eq_of_mem_replicate hc];exact m0) CZ zE
 have hlen:fs.length=len:=by rw[k5];simp
 have gI:fs.flatten.length=len*ei.size:=by rw[cw fs k4,hlen]
 have kS:a9.size=len*ei.size:=by have:=k2.1;simp only[Array.length_toList]at this;omega
 obtain⟨g',le,sr,fr,hφ⟩:=h.m5 (c:=a9) (ty:=elem) (cs:=fs.flatten) (n:=len) (z:=z) (by rw[gI,kS]) (fun i t hi=>by
  obtain⟨v,a1,a2⟩:=k2.cj i t hi
  exact⟨k3 t (List.mem_of_getElem? hi),v,by simpa using a1,a2⟩)
 refine⟨.slice (some ⟨w.heap.size,0,none⟩) len len,_,g',?_,le,sr,?_,fr⟩
 ·have qv:¬len*ei.size>2^24:=by omega
  by_cases h0:len*ei.size=0
  ·have e0:((Array.range (len*ei.size)).map (fun i=>zv.cells[i%zv.cells.size]!))=((Array.range (len*ei.size)).map (fun i=>(#[]:Array Value)[i%(#[]:Array Value).size]!)):=by
    rw[h0];simp
   rw[e0]at k1
   simp only[Instr.buildSlice,Sem.run_bind,run_underlying hu,Result.andThen_ok,sizeOf,ar hi,Sem.run_pure,qv,if_false,h0,if_true]
   rw[h0]at k1
   simp at k1
   simp[k1,newRow]
  ·simp only[Instr.buildSlice,Sem.run_bind,run_underlying hu,Result.andThen_ok,sizeOf,ar hi,Sem.run_pure,qv,if_false,h0,zeroValue,hz]
   simp[k1,newRow]
 ·rw[m0]
  exact .aQ (r:=w.heap.size) (o:=0) (off:=0) hφ (Nat.le_refl _) (by rw[kS];simp)
theorem uI {sT xT elem rt:TypeId}{ei:TypeInfo}{zv:Value}{z:List T}{kq kn:IntKind}{x t:T}{vx:Value}{k:Nat}{H':aa}(hu:P.underlying sT=some (.slice elem))(uJ:P.underlying xT=some (.int kn))(hi:P.info? elem=some ei)(hz:ei.zero=some zv)(qq:bO zv.cells.toList=some z)
  (hb:ei.bytes≠0) (h:SR w0 g H w) (hx:VR g w x vx) (he:tM H ei.size ei.bytes z x k=some (t,H')):aI P w0 g H w (Builtin.append_ #[sT,xT] rt #[vx,.int kq k]) t H':=by
 unfold tM at he
 cases x<;>simp only[]at he<;>(try (cases he;done))
 rename_i b off len n' c
 cases hK:fg H ei.size len (.bT b off len n' c)with
 | none=>simp[hK]at he
 | some es =>
  simp only[hK]at he
  split at he
  ·rename_i kv
   obtain⟨rfl,zH,F7,g6,m0,cZ⟩:=kv
   simp only[Option.some.injEq,Prod.mk.injEq]at he
   obtain⟨rfl,rfl⟩:=he
   obtain⟨r,o,ly,cap,vs,rfl,xR,a1,a2,a3,a4,a5⟩:=jA h hx hK
   cases xR
   have fJ:cap=c:=by cases hx;rfl
   subst fJ
   obtain⟨o6,pP⟩:=bu (g:=g) (w:=w) _ _ qq
   have hold:(Builtin.firstCells ei.size len (.slice (some ⟨r,o,none⟩) len cap)).run P w.drew=.ok vs.toArray w.drew:=by
    have:=run_loadCells_list (P:=P) w.drew ⟨r,o,none⟩ vs (fun j v hj=>by rw[a8];exact a1 j v hj)
    rw[a3]at this
    simpa[Builtin.firstCells]using this
   have Ch:¬Builtin.nextslicecap (len+k) cap*ei.bytes>2^48:=nN g6 cZ
   have hr:=cZ
   simp only[dM,decide_eq_true_eq]at hr
   have wh:(len+k)*ei.bytes≤281474976710656:=Nat.le_trans (Nat.mul_le_mul_right _ (by omega)) hr
   have C2:len+k≤281474976710656:=Nat.le_trans (Nat.le_mul_of_pos_right _ (by omega)) wh
   have F8:k*ei.bytes≤281474976710656:=Nat.le_trans (Nat.mul_le_mul_right _ (by omega)) wh
   have aL:=Go.Lib.run_append_grow_zeros (P:=P) w sT xT rt elem ei zv kq kn hu uJ hi hz (some ⟨r,o,none⟩) len cap vs hold k F7 (by omega) g6 (by omega) F8 (by omega)
   have uw:zv.cells.toList.length=ei.size:=by have:=o6.1;omega
   have zL:zv.cells.size=ei.size:=by simpa using uw
   have qp:ax g w (es.flatten++(List.replicate k z).flatten) (vs++(Builtin.zeroCells zv.cells k).toList):=by
    refine ax.append a2 ?_
    have:=eD o6 m0 k
    simpa[Builtin.zeroCells,zL]using this
   have pO:=grownCap_ge w (len+k) cap elem
   generalize grownCap w (len+k) cap elem=nc at aL pO
   have zM:aS (es.flatten++(List.replicate k z).flatten):=fun t ht=>by
    rcases List.mem_append.1 ht with ht|ht
    ·exact a4 t ht
    ·exact dE pP k t ht
   have cX:(vs.toArray++Builtin.zeroCells zv.cells k++Builtin.zeroCells zv.cells (nc-(len+k))).size=nc*ei.size:=by
    simp only[Array.size_append,eB,List.size_toArray,a3,zL]
    rw[←Nat.add_mul,←Nat.add_mul];congr 1;omega
   obtain⟨g',le,sr,fr,hφ⟩:=h.cQ (c:=vs.toArray++Builtin.zeroCells zv.cells k++Builtin.zeroCells zv.cells (nc-(len+k))) (ty:=elem) (cs:=es.flatten++(List.replicate k z).flatten) (g7 w) rfl (fun i t hi=>by
    obtain⟨v,b1,b2⟩:=qp.cj i t hi
    refine⟨zM t (List.mem_of_getElem? hi),v,?_,b2⟩
    rw[List.getElem?_toArray]at b1
    have aD:=(List.getElem?_eq_some_iff.1 b1).1
    have e:(vs.toArray++Builtin.zeroCells zv.cells k++Builtin.zeroCells zv.cells (nc-(len+k))).toList=(vs++(Builtin.zeroCells zv.cells k).toList)++(Builtin.zeroCells zv.cells (nc-(len+k))).toList:=by simp
    rw[←Array.getElem?_toList,e,List.getElem?_append_left aD];exact b1)
   refine⟨_,_,g',aL,le,sr,?_,fr⟩
   exact .aQ (r:=w.heap.size) (o:=0) (off:=0) hφ pO (by rw[cX];simp)
  ·cases he
end
section
variable {P:Program} {w0 w:World} {g:Ctx} {H:aa}
theorem jh {params results:Array TypeId}(tS e:TypeId)(hp:params[0]?=some tS)(ht:P.underlying tS=some (.slice e))(size:Nat)(hz:(Go.sizeOf e).run P w=.ok size w)
  (a b:Addr) (la ca lb cb:Nat) (aG:a.block≠b.block) (tA tB:TypeId) (kA kB:Nat)
  (C3:w.shape? a.block=some (tA,kA)) (Ce:w.shape? b.block=some (tB,kB)) (C4:kB≠0)
  (F9:w.frozen? a=false) (Ga:w.frozen? { block:=a.block,off:=kA }=false) :
  (Extern.SlicesOverlaps.overlaps params results #[.slice (some a) la ca,.slice (some b) lb cb]).run P w=.ok (.bool false) w:=by
 have Ch:(a.block != b.block)=true:=by simpa using aG
 have xS:(a.block==b.block)=false:=by simpa using aG
 conv=>lhs;arg 2;whnf
 simp only[hp]
 by_cases h0:la=0∨lb=0∨size=0
 ·simp[run_underlying ht,hz,h0]
 ·cases kB with
  | zero=>exact absurd rfl C4
  | succ kB =>
   simp[run_underlying ht,hz,h0,Ch,xS,frozen,noView,viewAt,mayBeOne,stringish,shape,Sem.run,C3,Ce,F9,Ga]
theorem kx {params results:Array TypeId}(tS e:TypeId)(hp:params[0]?=some tS)(ht:P.underlying tS=some (.slice e))(size:Nat)(hz:(Go.sizeOf e).run P w=.ok size w)
  (a b:Addr) (la ca lb cb:Nat) (aG:a.block=b.block) (hd:la≠0→lb≠0→size≠0→¬(a.off<b.off+lb*size∧b.off<a.off+la*size)) :
  (Extern.SlicesOverlaps.overlaps params results #[.slice (some a) la ca,.slice (some b) lb cb]).run P w=.ok (.bool false) w:=by
 have Ch:(a.block != b.block)=false:=by simpa using aG
 have xS:(a.block==b.block)=true:=by simpa using aG
 conv=>lhs;arg 2;whnf
 simp only[hp]
 by_cases h0:la=0∨lb=0∨size=0
 ·simp[run_underlying ht,hz,h0]
 ·have h1:=hd (fun h=>h0 (.inl h)) (fun h=>h0 (.inr (.inl h))) (fun h=>h0 (.inr (.inr h)))
  simp[run_underlying ht,hz,h0,Ch,xS]
  intro aD
  have:¬b.off<a.off+la*size:=fun h=>h1 ⟨aD,h⟩
  omega
theorem fQ {params results:Array TypeId}(tS e:TypeId)(hp:params[0]?=some tS)(ht:P.underlying tS=some (.slice e))(size:Nat)(hz:(Go.sizeOf e).run P w=.ok size w)
  (a b:Addr) (la ca lb cb:Nat) (h0:la=0∨size=0) :
  (Extern.SlicesOverlaps.overlaps params results #[.slice (some a) la ca,.slice (some b) lb cb]).run P w=.ok (.bool false) w:=by
 have h0:la=0∨lb=0∨size=0:=by rcases h0 with h|h;exact .inl h;exact .inr (.inr h)
 conv=>lhs;arg 2;whnf
 simp only[hp]
 simp[run_underlying ht,hz,h0]
theorem lC {r j:Nat}(h:(w.cell? ⟨r,j,none⟩).isSome=true):∃t k,w.shape? r=some (t,k)∧k≠0:=by
 unfold World.cell? at h
 unfold World.shape?
 cases hr:w.heap[r]? with
 | none=>simp[hr]at h
 | some x =>
  cases x<;>simp[hr]at h ⊢
  rename_i c t f
  exact⟨_,_,⟨rfl,rfl⟩,by omega⟩
theorem uK {params results:Array TypeId}{tS e:TypeId}{ei:TypeInfo}{x y t:T}{vx vy:Value}{H':aa}(hp:params[0]?=some tS)(ht:P.underlying tS=some (.slice e))(hi:P.info? e=some ei)
  (h:SR w0 g H w) (hx:VR g w x vx) (hy:VR g w y vy) (he:pX H ei.size x y=some (t,H')):aI P w0 g H w (Extern.SlicesOverlaps.overlaps params results #[vx,vy]) t H':=by
 have hz:(Go.sizeOf e).run P w=.ok ei.size w:=by simp[sizeOf,ar hi]
 unfold pX at he
 cases hx<;>(try (simp only[reduceCtorEq]at he;done))<;>(try (cases he;done))
 rename_i bv uL lv n1 r' o' q' ko dR ib Fk
 cases hy<;>(try (simp only[reduceCtorEq]at he;done))<;>(try (cases he;done))
 rename_i b off len n2 r o q c hφ hc hq
 cases Ci:H[bv]? with
 | none=>simp[Ci]at he
 | some zv =>
  cases hb:H[b]? with
  | none=>cases zv<;>simp[Ci,hb]at he
  | some z =>
   cases zv<;>cases z<;>simp only[Ci,hb]at he<;>(try (cases he;done))
   rename_i IA cs
   split at he
   ·rename_i kv
    obtain⟨aG,rfl,C5,xU⟩:=kv
    simp only[Option.some.injEq,Prod.mk.injEq]at he
    obtain⟨rfl,rfl⟩:=he
    subst C5
    obtain⟨a1,a2,a3⟩:=h.du _ _ Ci r' o' q' dR
    obtain⟨b1,b2,b3⟩:=h.du _ _ hb r o q hφ
    by_cases hr:r'=r
    ·subst hr
     refine aI.same h (kx tS e hp ht _ hz _ _ _ _ _ _ rfl fun hl IB hs hh=>?_) (.bool _)
     obtain⟨h1,h2⟩:=hh
     simp only at h1 h2
     have m1:lv*ei.size≤ko*ei.size:=Nat.mul_le_mul_right _ ib
     have m2:len*ei.size≤c*ei.size:=Nat.mul_le_mul_right _ hc
     have p1:0<lv*ei.size:=Nat.mul_pos (by omega) (by omega)
     have p2:0<len*ei.size:=Nat.mul_pos (by omega) (by omega)
     have k1:=(a2 (max (o'+uL) (o+off)) (by omega) (by omega)).1
     have k2:=(b2 (max (o'+uL) (o+off)) (by omega) (by omega)).1
     rw[k1]at k2;cases k2;exact aG rfl
    ·by_cases Gb:lv=0
     ·subst Gb
      refine aI.same h ?_ (.bool _)
      exact fQ tS e hp ht _ hz _ _ _ _ _ _ (.inl rfl)
     ·by_cases hs:ei.size=0
      ·refine aI.same h ?_ (.bool _)
       exact fQ tS e hp ht _ hz _ _ _ _ _ _ (.inr hs)
      ·have m1:lv*ei.size≤ko*ei.size:=Nat.mul_le_mul_right _ ib
       have p1:0<lv*ei.size:=Nat.mul_pos (by omega) (by omega)
       have tz:=a2 (o'+uL) (by omega) (by omega)
       have Gc:=b2 o (Nat.le_refl _) (by omega)
       have gj:w0.heap.size≤r':=by
        rcases Nat.lt_or_ge r' w0.heap.size with aD|pO
        ·have:=h.oU r' (o'+uL) aD;rw[tz.1]at this;cases this
        ·exact pO
       obtain⟨tA,kA,C3,_⟩:=lC tz.2.2
       obtain⟨tB,kB,Ce,C4⟩:=lC Gc.2.2
       exact aI.same h (jh tS e hp ht _ hz _ _ _ _ _ _ hr tA tB kA kB C3 Ce C4 (tz.2.1 _) (tz.2.1 _)) (.bool _)
   ·cases he
end
end Go.Rmp
end

section
namespace Go.Rmp
open Go.ChangeMaps (setBlock)
section
variable {P:Program} {w0 w:World} {g:Ctx} {H:aa}
theorem SR.zN {w':World}(h:SR w0 g H w)(tr:Tr w w' cu cW)(hz:w'.heap.size=w.heap.size):SR w0 g H w'∧Le g w g w':=by
 have le:Le g w g w':=Le.cJ tr (fun _ _ h=>h) (fun _ _ h=>h) (fun _ _ _ h=>h) (fun _ _ hs=>hs.elim)
 refine⟨?_,le⟩
 exact h.step (fun _=>False) tr le (fun _ _ hs=>hs.elim) (fun _ hm=>hm.elim) (fun r o hr=>h.fresh r o (by omega)) h.gQ h.cq (fun _ _ _=>rfl) (fun _ _ _ _=>⟨id,id⟩) (fun _ _ _ _=>rfl) (fun b x hx=>.inl ⟨id,hx⟩)
theorem xV {b:Nat}{vm:Value}{es:List (T×T)}(h:SR w0 g H w)(hm:VR g w (.map b) vm)(eY:cp H (.map b)=some es) :
  ∃r o q,vm=.map (some r)∧g.φ b=some (r,o,q)∧g.κ r 0=.mut b∧b<H.length∧∃ah clock,w.heap[r]?=some (.map ah clock)∧bB g w es ah∧bV ah clock:=by
 cases hm with
 | @map _ r o q hφ =>
  simp only[cp]at eY
  cases hb:H[b]? with
  | none=>simp[hb]at eY
  | some y =>
   have fo:=(List.getElem?_eq_some_iff.1 hb).1
   cases y<;>simp[hb]at eY
   ·subst eY
    obtain⟨h1,ah,c,h2,h3,h4⟩:=h.du b _ hb r o q hφ
    exact⟨r,o,q,rfl,hφ,h1,fo,ah,c,h2,h3,h4⟩
   ·subst eY
    obtain⟨r2,o',q',dR,h1,ah,c,h2,h3,h4,_⟩:=h.du b _ hb
    rw[hφ]at dR;cases dR
    exact⟨r,o,q,rfl,hφ,h1,fo,ah,c,h2,h3,h4⟩
theorem uM {ty key elem:TypeId}{b:Nat}{vm:Value}{es:List (T×T)}(hu:P.underlying ty=some (.map key elem))(h:SR w0 g H w)(hm:VR g w (.map b) vm)(eY:cp H (.map b)=some es) :
  aI P w0 g H w (Instr.range ty vm) (.ptr H.length 0) (H.set b (.cn es (List.range es.length) H.length none)++[.pK b]):=by
 obtain⟨r,o,q,rfl,hφ,hk,fo,ah,c,h2,h3,h4⟩:=xV h hm eY
 have Ge:cr (.mapIter (some r) c #[] c)=true:=rfl
 have jy:=Tr.alloc w (.mapIter (some r) c #[] c)
 have aG:∀r j ow,g.κ r j=ow→ow≠.free→r≠w.heap.size:=by rintro r j ow e hn rfl;exact hn (e▸h.fresh _ j (Nat.le_refl _))
 have zK:=h.tw (b:=H.length) (Nat.le_refl _)
 have C6:=aG r 0 _ hk (by simp)
 have le:Le g w ((g.row w.heap.size fun _=>.mut b).at H.length (w.heap.size,0,0)) (w.alloc (.mapIter (some r) c #[] c)):=Le.cJ jy
  (fun b' x hx=>by simp only[Ctx.at,Ctx.row];split;rename_i e;subst e;rw[zK]at hx;simp at hx;exact hx)
  (fun r o hk=>by simp only[Ctx.row,Ctx.at];rw[if_neg (aG r o _ hk (by simp))];exact hk) (fun _ _ _ h=>h) (fun _ _ hs=>hs.elim)
 have aD:r<w.heap.size:=(Array.getElem?_eq_some_iff.1 h2).1
 refine⟨_,_,_,by simp[Instr.range,run_underlying hu,getObj,Sem.run,h2,newObj],le,?_,.ptr (r:=w.heap.size) (o:=0) (q:=0) (by simp[Ctx.at]),by simp,fun b' x a _ d=>?_⟩
 ·refine h.step (fun b'=>b'=b∨b'=H.length) jy le (fun _ _ hs=>hs.elim) (fun _ hm=>hm.elim) (fun r o hr=>?_) (fun b' x hx=>?_) (fun t e x hx=>by have:=h.cq t e x hx;simp;omega) (fun b' _ cV=>?_) (fun r j b' cV=>?_) (fun _ _ _ _=>rfl) (fun b' x hx=>?_)
  ·simp at hr
   simp only[Ctx.row,Ctx.at];rw[if_neg (by omega)];exact h.fresh r o (by omega)
  ·simp only[Ctx.at,Ctx.row]at hx
   split at hx
   ·rename_i e;subst e;simp
   ·have:=h.gQ b' x hx;simp;omega
  ·simp only[Ctx.at,Ctx.row];rw[if_neg (fun e=>cV (.inr e))]
  ·constructor<;>intro e<;>simp only[Ctx.row,Ctx.at]<;>rw[if_neg (aG r j _ e (by simp))]<;>exact e
  ·by_cases e:b'=H.length
   ·subst e
    rw[List.getElem?_append_right (by simp)]at hx
    simp at hx;subst hx
    exact .inr trivial
   ·have cV:b'<H.length:=by
     have:=(List.getElem?_eq_some_iff.1 hx).1
     simp at this;omega
    rw[List.getElem?_append_left (by simpa using cV)]at hx
    rcases bj fo hx with⟨rfl,rfl⟩|⟨hn,en⟩
    ·refine .inr ⟨r,o,q,le.φ _ _ hφ,by simp only[Ctx.row,Ctx.at];rw[if_neg C6];exact hk,ah,c,?_,h3.mono le,h4,w.heap.size,0,#[],by simp[Ctx.at],by simp[Ctx.row,Ctx.at],World.alloc_heap_new w _,List.nodup_range,fun i=>?_,fun c hc=>by cases hc⟩
     ·show(w.heap.push _)[r]?=_
      rw[Array.getElem?_push,if_neg (by omega)];exact h2
     ·rw[List.mem_range,←h3.1]
      exact⟨fun hi=>⟨ah[i],Array.getElem?_eq_getElem hi,by simp⟩,fun ⟨m,hm,_⟩=>(Array.getElem?_eq_some_iff.1 hm).1⟩
    ·exact .inl ⟨fun hh=>hh.elim hn e,en⟩
 ·have hl:=(List.getElem?_eq_some_iff.1 a).1
  refine⟨?_,by simp only[Ctx.at,Ctx.row];rw[if_neg (by omega)];exact d⟩
  rw[List.getElem?_append_left (by simpa using hl)]
  exact bE a (by rintro rfl;rw[hφ]at d;cases d)
theorem uN {ty:TypeId}{b bi:Nat}{v:Value}{es:List (T×T)}{ix:List Nat}{cur:Option Nat}(h:SR w0 g H w)(hx:VR g w (.ptr bi 0) v)(hb:H[b]?=some (.cn es ix bi cur)) :
  ∃t H',fH H b bi es ix t H'∧aI P w0 g H w (Instr.next v false ty) t H':=by
 have fo:b<H.length:=(List.getElem?_eq_some_iff.1 hb).1
 obtain⟨r,o,q,hφ,h1,ah,c,h2,h3,h4,ri,q',seen,h5,h6,h7,h8,h9,Fm⟩:=h.du b _ hb
 cases hx with
 | @ptr _ _ r2 o2 q2 nQ =>
  rw[h5]at nQ;cases nQ
  have y7:∀y,Fr g H g (H.set b y):=fun y=>⟨by simp,fun b' x a _ d=>⟨bE a (by rintro rfl;rw[hφ]at d;cases d),d⟩⟩
  rcases run_next_at (P:=P) w ty ri r c c seen ah c h7 h2 h4.1 (Nat.le_refl _)with⟨hz,aL⟩|⟨e,he,w1,Cj,aL⟩
  ·have qc:ix=[]:=by
    refine List.eq_nil_iff_forall_not_mem.2 fun i hi=>?_
    obtain⟨m,hm,hn⟩:=(h9 i).1 hi
    have:m∈leftOf ah seen:=by
     simp only[leftOf,Array.mem_filter]
     exact⟨Array.mem_of_getElem? hm,by simpa using hn⟩
    rw[Array.eq_empty_of_size_eq_zero hz]at this
    simp at this
   refine⟨_,_,.inl ⟨qc,rfl,rfl⟩,.tuple #[.bool false],w,g,by simpa using aL,.refl _ _,?_,.bg rfl (fun i t v a b=>?_),y7 _⟩
   ·refine h.step (fun b'=>b'=b) (Tr.refl w) (.refl _ _) (fun _ _ hs=>hs.elim) (fun _ hm=>hm.elim) h.fresh (fun b' x hx=>by rw[List.length_set];exact h.gQ b' x hx) (fun t e x hx=>by rw[List.length_set];exact h.cq t e x hx) (fun _ _ _=>rfl) (fun _ _ _ _=>⟨id,id⟩) (fun _ _ _ _=>rfl) (fun b' x hx=>?_)
    rcases bj fo hx with⟨rfl,rfl⟩|⟨hn,en⟩
    ·refine .inr fun r' o' q' dR=>?_
     rw[hφ]at dR;cases dR
     exact⟨h1,ah,c,h2,h3,h4⟩
    ·exact .inl ⟨hn,en⟩
   ·cases i with
    | zero=>simp at a b;subst a;subst b;exact .bool _
    | succ i=>simp at a
  ·have zO:e∈ah∧e.born∉seen:=by
    have:e∈leftOf ah seen:=by simpa using he
    simp only[leftOf,Array.mem_filter]at this
    exact⟨this.1,by simpa using this.2⟩
   obtain⟨i,hi,gS⟩:=Array.getElem_of_mem zO.1
   have zP:ah[i]?=some e:=by rw[Array.getElem?_eq_getElem hi,gS]
   have gn:i<es.length:=by rw[←h3.1];exact hi
   have qc:i∈ix:=(h9 i).2 ⟨e,zP,zO.2⟩
   have bR:=h3.2 i es[i] e (List.getElem?_eq_getElem gn) zP
   have Gf:Tr w w1 cu cW:=by rcases Cj with rfl|rfl;exact Tr.refl _;exact Tr.drew _
   obtain⟨xW,dy⟩:=h.zN Gf (by rcases Cj with rfl|rfl<;>rfl)
   have Ck:w1.heap[ri]?=some (.mapIter (some r) c seen c):=by rcases Cj with rfl|rfl<;>exact h7
   have Fo:w1.heap[r]?=some (.map ah c):=by rcases Cj with rfl|rfl<;>exact h2
   have tr:Tr w1 (World.aK w1 ri (.mapIter (some r) c (seen.push e.born) c)) cu (fun r'=>r'=ri):=Tr.mW w1 ri rfl rfl Ck
   have le:Le g w1 g (World.aK w1 ri (.mapIter (some r) c (seen.push e.born) c)):=Le.cJ tr (fun _ _ h=>h) (fun _ _ h=>h) (fun _ _ _ h=>h) (fun _ _ hs=>hs.elim)
   have Gg:r≠ri:=by rintro rfl;rw[Fo]at Ck;cases Ck
   refine⟨_,_,.inr ⟨i,es[i],qc,List.getElem?_eq_getElem gn,rfl,rfl⟩,.tuple #[.bool true,e.key,e.val],_,g,by simpa[setBlock,World.aK]using aL,dy.trans le,?_,.bg rfl (fun i t v a b=>?_),y7 _⟩
   ·show SR w0 g _ (World.aK w1 ri (.mapIter (some r) c (seen.push e.born) c))
    refine xW.step (fun b'=>b'=b) tr le (fun _ _ hs=>hs.elim) (fun r' hm=>⟨b,by rw[hm];exact h6,rfl⟩) (fun r' j e6=>xW.fresh r' j (by simpa[World.aK]using e6)) (fun b' x hx=>by rw[List.length_set];exact h.gQ b' x hx) (fun t e x hx=>by rw[List.length_set];exact h.cq t e x hx) (fun _ _ _=>rfl) (fun _ _ _ _=>⟨id,id⟩) (fun _ _ _ _=>rfl) (fun b' x hx=>?_)
    rcases bj fo hx with⟨rfl,rfl⟩|⟨hn,en⟩
    ·refine .inr ⟨r,o,q,hφ,h1,ah,c,?_,h3.mono (dy.trans le),h4,ri,q',seen.push e.born,h5,h6,il _ _ (Array.getElem?_eq_some_iff.1 Ck).1,h8.erase _,fun j=>?_,fun c' ib=>?_⟩
     ·rw[ik _ _ Gg];exact Fo
     ·rw[h8.mem_erase_iff,h9 j]
      constructor
      ·rintro⟨C7,m,hm,hn⟩
       refine⟨m,hm,fun jf=>?_⟩
       rcases Array.mem_push.1 jf with jf|jf
       ·exact hn jf
       ·apply C7
        have hj:=(Array.getElem?_eq_some_iff.1 hm).1
        have jB:=h4.2
        have e1:(ah.toList.map (·.born))[j]?=some m.born:=by simp[hm]
        have e2:(ah.toList.map (·.born))[i]?=some m.born:=by simp[zP,jf]
        have Gh:j<(ah.toList.map (·.born)).length:=by simpa using hj
        exact(List.getElem?_inj Gh jB).1 (e1.trans e2.symm)
      ·rintro⟨m,hm,hn⟩
       refine⟨fun C7=>?_,m,hm,fun jf=>hn (Array.mem_push.2 (.inl jf))⟩
       subst C7
       rw[zP]at hm;cases hm
       exact hn (Array.mem_push.2 (.inr rfl))
     ·cases ib
      exact⟨e,zP,by simp⟩
    ·exact .inl ⟨hn,en⟩
   ·have xI:=bR.1.mono (dy.trans le)
    have xJ:=bR.2.mono (dy.trans le)
    match i,a,b with
    | 0,a,b=>simp at a b;subst a;subst b;exact .bool _
    | 1,a,b=>simp at a b;subst a;subst b;exact xI
    | 2,a,b=>simp at a b;subst a;subst b;exact xJ
    | i+3,a,b=>simp at a
theorem uO {b bi c:Nat}{v:Value}{es:List (T×T)}{ix:List Nat}{e:T×T}(h:SR w0 g H w)(hx:VR g w (.ptr bi 0) v)(hb:H[b]?=some (.cn es ix bi (some c)))(he:es[c]?=some e) :
  aI P w0 g H w (Instr.entry v) (.bg [e.1,e.2]) H:=by
 obtain⟨r,o,q,hφ,h1,ah,cl,h2,h3,h4,ri,q',seen,h5,h6,h7,h8,h9,Fm⟩:=h.du b _ hb
 cases hx with
 | @ptr _ _ r2 o2 q2 nQ =>
  rw[h5]at nQ;cases nQ
  obtain⟨m,hm,hs⟩:=Fm c rfl
  have bR:=h3.2 c e m he hm
  have C8:m∈ah.toList:=by have:=Array.mem_of_getElem? hm;simpa using this
  have hf:ah.find? (·.born==m.born)=some m:=by rw[←Array.find?_toList];exact find_born m ah.toList h4.2 C8
  refine aI.same h (v:=.tuple #[m.key,m.val]) ?_ (.bg rfl fun i t v a b=>?_)
  ·simp[Instr.entry,getObj,Sem.run,h7,h2,hs,hf]
  ·match i,a,b with
   | 0,a,b=>simp at a b;subst a;subst b;exact bR.1
   | 1,a,b=>simp at a b;subst a;subst b;exact bR.2
   | i+2,a,b=>simp at a
theorem uP {ty rt elem:TypeId}{ei:TypeInfo}{zv:Value}{z:List T}{v:Value}{b off len:Nat}{cs:List T}(hu:P.underlying ty=some (.slice elem))(hi:P.info? elem=some ei)(hz:ei.zero=some zv)(qq:bO zv.cells.toList=some z)
  (h:SR w0 g H w) (hx:VR g w (.aQ b off len ei.size) v) (hb:H[b]?=some (.cells cs)) (lB:z.length=ei.size) (hle:off+len*ei.size≤cs.length) :
  aI P w0 g H w (Builtin.clear_ #[ty] rt #[v]) (.bg []) (H.set b (.cells (cs.take off++(List.replicate len z).flatten++cs.drop (off+len*ei.size)))):=by
 cases hx with
 | @aQ _ _ _ _ r o q cap hφ hc hq =>
  obtain⟨h1,h2,h3⟩:=h.du b _ hb r o q hφ
  obtain⟨o6,pP⟩:=bu (g:=g) (w:=w) _ _ qq
  have bR:=eD o6 lB len
  have Fp:=dE pP len
  have hlen:(List.replicate len z).flatten.length=len*ei.size:=by simp[List.length_flatten,lB]
  have uw:zv.cells.size=ei.size:=by have:=o6.1;simp at this;omega
  have xX:ax g w (List.replicate len z).flatten (Builtin.zeroCells zv.cells len).toList:=by
   simpa[Builtin.zeroCells,uw]using bR
  obtain⟨le,sr⟩:=h.store hb hφ (by rw[hlen];exact hle) xX Fp
  rw[hlen]at sr
  refine⟨.tuple #[],_,g,?_,le,sr,.bg rfl (by simp),by simp,fun b' y' a _ d=>⟨bE a (by rintro rfl;rw[hφ]at d;cases d),d⟩⟩
  have hl:=xX.1
  rw[hlen]at hl
  cases len with
  | zero =>
   have e:(Builtin.zeroCells zv.cells 0).toList=[]:=List.eq_nil_of_length_eq_zero (by rw[←hl];simp)
   rw[e]
   simp[Builtin.clear_,run_underlying hu,World.setCells]
  | succ len =>
   have aL:=run_storeCells_cells (P:=P) r (o+off) (Builtin.zeroCells zv.cells (len+1)).toList 0 w (fun j hj=>(h2 _ (by omega) (by omega)).2.2) (fun j hj=>(h2 (o+off+0+j) (by omega) (by omega)).2.1 _) (xX.dp Fp)
   have Gi:(zeroValue elem).run P w=.ok zv w:=by simp[zeroValue,ar hi,hz]
   simp only[Nat.add_zero]at aL
   simp[Builtin.clear_,run_underlying hu,Gi,aL]
theorem SR.shrink {b:Nat}{cs:List T}(k:Nat)(h:SR w0 g H w)(hb:H[b]?=some (.cells cs))(hφ:∃x,g.φ b=some x):SR w0 g (H.set b (.cells (cs.take k))) w∧Fr g H g (H.set b (.cells (cs.take k))):=by
 have fo:b<H.length:=(List.getElem?_eq_some_iff.1 hb).1
 obtain⟨y,hy⟩:=hφ
 refine⟨?_,by simp,fun b' x a _ d=>⟨bE a (by rintro rfl;rw[hy]at d;cases d),d⟩⟩
 refine h.step (fun b'=>b'=b) (Tr.refl w) (.refl _ _) (fun _ _ hs=>hs.elim) (fun _ hm=>hm.elim) h.fresh (fun b' x hx=>by rw[List.length_set];exact h.gQ b' x hx) (fun t e x hx=>by rw[List.length_set];exact h.cq t e x hx) (fun _ _ _=>rfl) (fun _ _ _ _=>⟨id,id⟩) (fun _ _ _ _=>rfl) (fun b' x hx=>?_)
 rcases bj fo hx with⟨rfl,rfl⟩|⟨hn,en⟩
 ·refine .inr fun r o q hφ=>?_
  obtain⟨h1,h2,h3⟩:=h.du b' _ hb r o q hφ
  refine⟨by simp;omega,h2,fun i t hi=>h3 i t ?_⟩
  rw[List.getElem?_take]at hi
  split at hi
  ·exact hi
  ·cases hi
 ·exact .inl ⟨hn,en⟩
end
end Go.Rmp
end

section
namespace Go.Rmp
def aj:Operand→Option X
 | .tmp t=>some (.r t)
 | .const v=>(fk v).map .c
 | .func f=>some (.c (.fn f []))
 | .global _=>none
def b9:List Operand→Option (List X)
 | []=>some []
 | x :: xs=>match aj x,b9 xs with
  | some y,some ys=>some (y :: ys)
  | _,_=>none
def dV:Option Operand→Option (Option X)
 | none=>some none
 | some x=>(aj x).map some
def fq:List (Nat×Operand)→Option (List (Nat×X))
 | []=>some []
 | (i,x) :: xs=>match aj x,fq xs with
  | some y,some ys=>some ((i,y) :: ys)
  | _,_=>none
def Fq:TypeDesc→Option kP
 | .int _=>some .int
 | .string=>some .str
 | .bool=>some .bool
 | _=>none
def kinds (P:Program):List Field→Option (List kP)
 | []=>some []
 | f :: fs=>match (P.underlying f.type).bind Fq,kinds P fs with
  | some k,some ks=>some (k :: ks)
  | _,_=>none
def ky (P:Program)(ty:TypeId):Option KT :=
 match P.underlying ty with
 | some (.struct fs)=>(kinds P fs.toList).map .st
 | some d=>(Fq d).map .sc
 | none=>none
def zeroOf (P:Program)(ty:TypeId):Option (List T) :=
 match P.info? ty with
 | some i=>match i.zero with
  | some zv=>bO zv.cells.toList
  | none=>none
 | none=>none
def isEq:BinOp→Option Bool
 | .eql=>some false
 | .neq=>some true
 | _=>none
def cls:TypeDesc→Option tH
 | .pointer _=>some .ptr
 | .slice _=>some .slice
 | .map _ _=>some .map
 | .func _ _ _=>some .func
 | _=>none
def qy (P:Program)(op:BinOp)(ty:TypeId)(x y:X):Option Bo :=
 match P.underlying ty with
 | some (.int _)|some .string=>some (.bin op x y)
 | some .bool=>(isEq op).map fun n=>.beq n x y
 | some (.struct fs)=>match isEq op,kinds P fs.toList with
  | some n,some ks=>if flat P fs.toList 0 ks&&!P.stoodInHeld ty&&!P.eqGuardType P.depth ty then some (.eqs n ks x y)else none
  | _,_=>none
 | some d=>match isEq op,cls d with
  | some n,some c=>some (.eM n c x y)
  | _,_=>none
 | none=>none
def jC (P:Program)(ty:TypeId)(x:X):Option Bo :=
 match P.underlying ty,P.info? ty with
 | some d,some i=>some (.ld (if bC d then i.size else 1) (bC d) x)
 | _,_=>none
def ft (P:Program)(ty:TypeId)(x:X)(f:Nat)(ad:Bool):Option Bo :=
 match P.underlying ty with
 | some (.struct fs)=>match fs[f]? with
  | some f=>match P.underlying f.type,P.info? f.type with
   | some d,some i=>if ad then(if i.size=0 then none else some (.nE f.offset x))else some (.zi f.offset i.size (bC d) x)
   | _,_=>none
  | none=>none
 | _=>none
def m6 (P:Program)(ty:TypeId)(x i:X)(ad:Bool):Option Bo :=
 match P.underlying ty,ad with
 | some (.slice e),true=>(P.info? e).map fun ei=>.jd ei.size x i
 | some (.array n e),true=>(P.info? e).map fun ei=>.vZ n ei.size x i
 | some .string,false=>some (.zj x i)
 | some (.array n e),false=>match P.info? e,P.underlying e with
  | some ei,some d=>some (.B5 n ei.size (bC d) x i)
  | _,_=>none
 | _,_=>none
def gp (P:Program)(ty:TypeId)(x:X)(lo hi mx:Option X):Option Bo :=
 match P.underlying ty with
 | some .string=>if mx.isSome then none else some (.xn x lo hi)
 | some (.slice e)=>match P.info? e with
  | some ei=>if mx.isSome&&hi.isNone then none else some (.kR ei.size x lo hi mx)
  | none=>none
 | _=>none
def o9 (P:Program)(ty:TypeId)(x:X)(lo hi mx:Option X):Option Bo :=
 match P.underlying ty,lo,hi,mx with
 | some (.slice e),none,some hi,none=>(P.info? e).map fun ei=>.B7 ei.size x hi
 | _,_,_,_=>none
def jD (P:Program)(src dst:TypeId)(x:X):Option Bo :=
 match P.underlying src,P.underlying dst with
 | some (.int _),some (.int k)=>some (.fD k x)
 | some .string,some .string=>none
 | some .string,some (.slice e)=>match P.underlying e with
  | some (.int .u8)=>some (.vY false x)
  | _=>none
 | some (.slice e),some .string=>match P.underlying e with
  | some (.int .u8)=>some (.vX x)
  | _=>none
 | some (.slice _),some (.slice e)=>if src==dst then(match P.underlying e with
  | some (.int .u8)=>some (.vY true x)
  | _=>none)else none
 | _,_=>none
def qz:TypeDesc→Bool
 | .int _=>false
 | _=>true
def eO (P:Program)(mu:Bool)(dq:List TypeId)(as:List X):Option Bo :=
 match dq,as with
 | [sT,xT],[x,y]=>match P.underlying sT,P.underlying xT with
  | some (.slice e),some d=>match P.info? e with
   | some ei=>match ei.zero with
    | some zv=>if qz d&&zv.cells.size==ei.size&&ei.bytes != 0 then some (.app ei.size ei.bytes mu x y)else none
    | none=>none
   | none=>none
  | _,_=>none
 | _,_=>none
def lD (P:Program)(dq:List TypeId)(as:List X):Option Bo :=
 match dq,as with
 | [sT,xT],[x,k]=>match P.underlying sT,P.underlying xT with
  | some (.slice e),some (.int _)=>match P.info? e,zeroOf P e with
   | some ei,some z=>if ei.bytes != 0 then some (.zl ei.size ei.bytes z x k)else none
   | _,_=>none
  | _,_=>none
 | _,_=>none
def dF (P:Program)(mu:Bool)(b:Builtin)(dq:List TypeId)(as:List X):Option Bo :=
 match b,dq,as with
 | .append,dq,as=>match lD P dq as with
  | some b=>some b
  | none=>eO P mu dq as
 | .cap,[t],[x]=>match P.underlying t with
  | some (.slice _)=>some (.cap x)
  | _=>none
 | .copy,[dT,_],[x,y]=>match P.underlying dT with
  | some (.slice e)=>(P.info? e).map fun ei=>.tI ei.size x y
  | _=>none
 | .len,[t],[x]=>match P.underlying t with
  | some .string=>some (.len .str x)
  | some (.slice _)=>some (.len .sl x)
  | some (.map _ _)=>some (.len .map x)
  | _=>none
 | .clear,[t],[x]=>match P.underlying t with
  | some (.slice e)=>match P.info? e,zeroOf P e with
   | some ei,some z=>some (.zk ei.size z x)
   | _,_=>none
  | _=>none
 | .min,_,[x,y]=>some (.mn x y)
 | .max,_,[x,y]=>some (.mx x y)
 | .delete,[t,_],[m,k]=>match P.underlying t with
  | some (.map key _)=>match ky P key with
   | some kt=>if fm P key kt then some (.del kt m k)else none
   | none=>none
  | _=>none
 | _,_,_=>none
def m7 (P:Program)(ty:TypeId)(m k:X):Option (Nat×KT×T) :=
 match P.underlying ty with
 | some (.map key e)=>match ky P key,P.info? e with
  | some kt,some ei=>match ei.zero with
   | some zv=>match fk zv with
    | some z=>if fm P key kt then some (e,kt,z)else none
    | none=>none
   | none=>none
  | _,_=>none
 | _=>none
def lE (P:Program)(fs:List Field):Bool:=fs.all fun f=>(P.info? f.type).isSome
def gq (P:Program)(ty:TypeId)(ps:List (Nat×X)):Option Bo :=
 match P.underlying ty,zeroOf P ty with
 | some (.struct fs),some z=>if lE P fs.toList&&ps.all (fun p=>p.1<fs.size)then
   some (.build z (ps.map fun p=>((((placesOf P fs.toList)[p.1]?).getD (0,0)).1,(((placesOf P fs.toList)[p.1]?).getD (0,0)).2,p.2)))else none
 | _,_=>none
def pa (P:Program)(mu:Bool)(ty:TypeId)(n:Nat)(ps:List (Nat×X)):Option Bo :=
 match P.underlying ty with
 | some (.slice e)=>match P.info? e,zeroOf P e with
  | some ei,some z=>if z.length==ei.size&&decide (n*ei.size≤16777216)then some (if mu then .xo n z ps else .kQ n z ps)else none
  | _,_=>none
 | _=>none
def pb (P:Program)(mu:Bool)(ty:TypeId)(l c:X):Option Bo :=
 match P.underlying ty with
 | some (.slice e)=>match P.info? e,zeroOf P e with
  | some ei,some z=>if z.length==ei.size&&ei.size != 0 then some (.B6 mu ei.bytes z l c)else none
  | _,_=>none
 | _=>none
def wi (n:String):Bool:=(Extern.allGenericRows.lookup n).isNone&&(Extern.allTypedRows.lookup n).isNone&&(Extern.allRows.lookup n).isNone
def nR (P:Program)(f:FuncId):Option Nat :=
 match P.funcs[f]? with
 | some fn=>match fn.params[0]? with
  | some t=>match P.underlying t with
   | some (.slice e)=>match P.info? e with
    | some ei=>if fn.name != "runtime.NumGoroutine"&&fn.body.isNone&&(Extern.findNext fn).isNone&&fn.origin=="slices.overlaps"&&wi fn.name then some ei.size else none
    | none=>none
   | _=>none
  | none=>none
 | none=>none
def aA (P:Program)(mu:Bool):Op→Option Bo
 | .move x | .assign x=>(aj x).map .al
 | .pick c a b=>match aj c,aj a,aj b with
  | some c,some a,some b=>some (.pick c a b)
  | _,_,_=>none
 | .binOp op ty x y _=>match aj x,aj y with
  | some x,some y=>qy P op ty x y
  | _,_=>none
 | .unOp op _ x=>(aj x).map (.un op)
 | .convert s d x=>(aj x).bind (jD P s d)
 | .alloc ty=>(zeroOf P ty).map .alloc
 | .box _ x=>(aj x).map .box
 | .build ty ps=>(fq ps.toList).bind (gq P ty)
 | .buildSlice ty n ps=>(fq ps.toList).bind (pa P mu ty n)
 | .load ty x=>(aj x).bind (jC P ty)
 | .store ty a v=>match P.info? ty,aj a,aj v with
  | some i,some a,some v=>some (.st i.size a v)
  | _,_,_=>none
 | .fieldAddr ty x f=>(aj x).bind fun x=>ft P ty x f true
 | .field ty x f=>(aj x).bind fun x=>ft P ty x f false
 | .indexAddr ty x i=>match aj x,aj i with
  | some x,some i=>m6 P ty x i true
  | _,_=>none
 | .index ty x i=>match aj x,aj i with
  | some x,some i=>m6 P ty x i false
  | _,_=>none
 | .slice ty x lo hi mx=>match aj x,dV lo,dV hi,dV mx with
  | some x,some lo,some hi,some mx=>if mu then o9 P ty x lo hi mx else gp P ty x lo hi mx
  | _,_,_,_=>none
 | .makeMap _ none=>some .nF
 | .lookup ty m k ok=>match aj m,aj k with
  | some m,some k=>(m7 P ty m k).map fun (_,kt,z)=>.gZ kt z ok m k
  | _,_=>none
 | .mapUpdate ty m k v | .insert ty m k v=>match aj m,aj k,aj v with
  | some m,some k,some v=>(m7 P ty m k).map fun (_,kt,_)=>.oN kt m k v
  | _,_,_=>none
 | .makeSlice ty l c=>match aj l,aj c with
  | some l,some c=>pb P mu ty l c
  | _,_=>none
 | .makeFunc (.func f) first er=>if first.size=0 then(b9 er.toList).map (.v3 f)else none
 | .extract x i=>(aj x).map (.ext i)
 | .nilCheck x=>(aj x).map .ke
 | .range ty m=>match P.underlying ty with
  | some (.map _ _)=>(aj m).map .v5
  | _=>none
 | .next it false=>(aj it).map .gO
 | .entry it=>(aj it).map .v7
 | .call { callee:=.value (.func f),args,.. }=>match nR P f,b9 args.toList with
  | some n,some [x,y]=>some (.yV n x y)
  | _,_=>none
 | .call { callee:=.builtin b,args,argTypes }=>(b9 args.toList).bind (dF P mu b argTypes.toList)
 | _=>none
def tC (P:Program)(w0:World)(g:Ctx)(H:aa)(w:World)(s:Sem Next)(t:T)(H':aa):Prop :=
 ∃nx v w' g',s.run P w=.ok nx w'∧(nx=.value v∨(nx=.skip∧v=undef))∧Le g w g' w'∧SR w0 g' H' w'∧VR g' w' t v∧Fr g H g' H'
theorem aI.fu {P:Program}{w0 w:World}{g:Ctx}{H H':aa}{s:Sem Value}{t:T}(h:aI P w0 g H w s t H'):tC P w0 g H w (do pure (.value (←s))) t H':=by
 obtain⟨v,w',g',h1,h2⟩:=h
 exact⟨.value v,v,w',g',by simp[h1],.inl rfl,h2⟩
theorem da {g:Ctx}{w:World}:VR g w av undef:=.bg rfl (by simp)
section
variable {P:Program} {w0 w:World} {g:Ctx} {H:aa} {R:ai} {ρ:Operand→Value}
def RV (g:Ctx)(w:World)(R:ai)(ρ:Operand→Value)(xs:List Operand):Prop:=∀x∈xs,∀y,aj x=some y→VR g w (y.ev R) (ρ x)
theorem cd:∀(xs:List Operand) (ys:List X),b9 xs=some ys→RV g w R ρ xs→ax g w (ys.map (X.ev R)) (xs.map ρ)
 | [],ys,h,_=>by simp[b9]at h;subst h;exact ax.nil
 | x :: xs,ys,h,hv=>by
  simp only[b9]at h
  cases h1:aj x with
  | none=>simp[h1]at h
  | some y =>
   cases h2:b9 xs with
   | none=>simp[h1,h2]at h
   | some Gj =>
    simp[h1,h2]at h;subst h
    exact ax.cons (hv x (by simp) y h1) (cd xs Gj h2 (fun z hz=>hv z (by simp[hz])))
theorem gu:∀(ps:List (Nat×Operand)) (qs:List (Nat×X)),fq ps=some qs→RV g w R ρ (ps.map (·.2))→PV g w R qs (ps.map fun p=>(p.1,ρ p.2))
 | [],qs,h,_=>by simp[fq]at h;subst h;exact .nil
 | (i,x) :: ps,qs,h,hv=>by
  simp only[fq]at h
  cases h1:aj x with
  | none=>simp[h1]at h
  | some y =>
   cases h2:fq ps with
   | none=>simp[h1,h2]at h
   | some Gk =>
    simp[h1,h2]at h;subst h
    exact .cons (hv x (by simp) y h1) (gu ps Gk h2 (fun z hz=>hv z (by simp at hz ⊢;exact .inr hz)))
end
end Go.Rmp
end
