/- Part of a proof of a law of this seat: the machine of plain values, its simulation, and the contracts of the functions that the law reaches. Conditions: none beyond the given row. -/
import Derived.OrdersIn
import Derived.RangeFuncIn
import Derived.Laws.Sem
import Derived.Laws.World
import Derived.Laws.IdiomCopy
import Derived.ChangeKeysEq
import Derived.Laws.StructEq
import Derived.Laws.BytesString
import Derived.IntWalk
import Derived.Lib.AppendZerosOnto
import Derived.Lib.Overlaps
import Derived.Maps.RangeRun
import Derived.RangeFuncRecord
open Int renaming reduceLT → q3, reduceLE → q4, reduceBEq → q5, reduceBNe → q6, reduceEq → q7
open Nat renaming reduceAdd → q8, reduceLeDiff → q9, reduceLT → j1, reduceEqDiff → j2
set_option linter.unusedSimpArgs false
set_option linter.unusedVariables false
set_option linter.unnecessarySimpa false
set_option maxHeartbeats 4000000
section
namespace Go.Rmp
inductive SK where
 | nil|arg|full|own (t e:Nat)
 deriving DecidableEq
inductive T where
 | int (k:IntKind) (n:Int)
 | bool (b:Bool)
 | str (s:ByteArray)
 | aL
 | ptr (b off:Nat)
 | cF (cs:List T)
 | b9
 | map (b:Nat)
 | sl (k:SK) (es:List (List T))
 | aQ (b off len n:Nat)
 | bU (b off len n c:Nat)
 | dv
 | fn (f:Nat) (ew:List T)
 | gY (b:Nat)
 | cG
 | agg (cs:List T)
 | bo (vs:List T)
abbrev ai:=Nat→T
def aw:T:=.bo []
def T.one:T→Bool
 | .agg _ | .bo _=>false
 | _=>true
def T.cells?:T→Option (List T)
 | .agg cs=>some cs
 | .bo _=>none
 | v=>some [v]
def T.erase:T→T
 | .sl _ es=>.sl .arg es
 | v=>v
inductive X where
 | r (t:Nat)
 | c (v:T)
def X.ev (R:ai):X→T
 | .r t=>R t
 | .c v=>v
def jj (R:ai)(d:Nat)(v:T):ai:=fun t=>if t=d then v else R t
def aA (R:ai)(d:Option Nat)(v:T):ai:=match d with|some d=>jj R d v|none=>R
inductive ue where|ptr|slice|map|func
 deriving DecidableEq
inductive Lc where|str|sl|map
inductive kW where|int|str|bool
 deriving DecidableEq
inductive KT where
 | sc (t:kW)
 | st (l:List kW)
def T.mR:kW→T→Bool
 | .int,.int _ _ | .str,.str _ | .bool,.bool _=>true
 | _,_=>false
def hasAll:List kW→List T→Bool
 | [],[]=>true
 | t :: ts,v :: vs=>v.mR t&&hasAll ts vs
 | _,_=>false
def T.dw:KT→T→Bool
 | .sc t,v=>v.mR t
 | .st l,.agg cs=>hasAll l cs
 | _,_=>false
inductive Bo where
 | ak (x:X)
 | pick (c a b:X)
 | bin (op:BinOp) (x y:X)
 | eX (neg:Bool) (c:ue) (x y:X)
 | beq (neg:Bool) (x y:X)
 | eqs (neg:Bool) (ks:List kW) (x y:X)
 | un (op:UnOp) (x:X)
 | eg (k:IntKind) (x:X)
 | p9 (x:X)
 /-- a text's bytes;or (m) a literal's bytes,told to be a text's -/
 | yA (m:Bool) (x:X)
 | len (k:Lc) (x:X)
 | alloc (z:List T)
 | box (x:X)
 | build (z:List T) (ps:List (Nat×Nat×X))
 | kr (n:Nat) (z:List T) (ps:List (Nat×X))
 | ld (n:Nat) (ag:Bool) (x:X)
 | st (n:Nat) (a v:X)
 | jy (off:Nat) (x:X)
 | Du (off n:Nat) (ag:Bool) (x:X)
 | mJ (st:Nat) (x i:X)
 | wE (n st:Nat) (x i:X)
 | Ar (x i:X)
 | Dv (n st:Nat) (ag:Bool) (x i:X)
 | yB (x:X) (lo hi:Option X)
 | fV (st:Nat) (x:X) (lo hi mx:Option X)
 | nV
 | mK (kt:KT) (z:T) (ok:Bool) (m k:X)
 | tR (kt:KT) (m k v:X)
 | del (kt:KT) (m k:X)
 | app (st bytes:Nat) (mu:Bool) (x y:X)
 | Dw (mu:Bool) (bytes:Nat) (z:List T) (l c:X)
 | yC (f:Nat) (ew:List X)
 | ext (i:Nat) (x:X)
 | mn (x y:X)
 | mx (x y:X)
 | hP (x:X)
 | cap (x:X)
 | uf (n:Nat) (x y:X)
 | z1 (n:Nat) (x y:X)
 | z6 (x:X)
 | hU (x:X)
 | z7 (x:X)
 | As (n:Nat) (z:List T) (x:X)
 | Au (n bytes:Nat) (z:List T) (x k:X)
 | z8 (n:Nat) (z:List T) (ps:List (Nat×X))
 | Dx (n:Nat) (x hi:X)
abbrev Gd:=Option (Nat×Bool)
structure Rd where
 d:Nat
 op:Bo
 g:Gd
inductive tT where
 | b (op:Bo)
 | call (f:Nat) (aq:List X)
 | bl (f:X) (aq:List X)
structure O where
 d:Option Nat
 op:tT
 g:Gd
 gO:List Rd
inductive C where
 | skip
 | ops (l:List O)
 | seq (a b:C)
 | cond (x:X) (a b:C)
 | block (id:Nat) (a:C)
 | loop (a:C)
 | exit (id:Nat)
 | ret
 | bw (n:Nat) (x:X) (ps:List Nat) (bh body:C)
inductive Ex where
 | normal|exit (id:Nat)|ret
inductive qa where
 | ready|busy|done
 deriving DecidableEq
inductive B where
 | cells (cs:List T)
 | map (es:List (T×T))
 | tok (e:Nat)
 | loop (st:qa) (bz:Option Ex) (n:Nat) (R:Nat→T) (ps:List Nat) (bh body:C)
 | lj
 | dead
 /-- a map that is ranged over: the places still to come;the range's block;the place last told -/
 | ct (es:List (T×T)) (ix:List Nat) (bi:Nat) (cur:Option Nat)
 | pZ (b:Nat)
 /-- written cells that stand still from here on: they may be read -/
 | fz (cs:List T)
 /-- a row of bytes out of a literal,not yet told to be a text's -/
 | lit (cs:List T)
abbrev aa:=List B
def dm (a b:ByteArray):Bool:=a.toList==b.toList
def strLt (a b:ByteArray):Bool:=Op.bytesLess a.toList b.toList
def aO (op:BinOp):T→T→Option T
 | .int k a,.int k' b =>
  match op with
  | .shl=>if b<0 then none else some (.int k (k.wrap (a*2^(min b.toNat k.bits))))
  | .shr=>if b<0 then none else some (.int k (a.fdiv (2^(min b.toNat k.bits))))
  | op =>
   if k=k' then
    match op with
    | .add=>some (.int k (k.wrap (a+b)))
    | .sub=>some (.int k (k.wrap (a-b)))
    | .mul=>some (.int k (k.wrap (a*b)))
    | .quo=>if b=0 then none else some (.int k (k.wrap (a.tdiv b)))
    | .rem=>if b=0 then none else some (.int k (a.tmod b))
    | .and=>some (.int k (k.wrap (BitVec.ofInt k.bits a &&& BitVec.ofInt k.bits b).toNat))
    | .or=>some (.int k (k.wrap (BitVec.ofInt k.bits a ||| BitVec.ofInt k.bits b).toNat))
    | .xor=>some (.int k (k.wrap (BitVec.ofInt k.bits a ^^^ BitVec.ofInt k.bits b).toNat))
    | .andNot=>some (.int k (k.wrap (BitVec.ofInt k.bits a &&& ~~~ BitVec.ofInt k.bits b).toNat))
    | .eql=>some (.bool (a==b))
    | .neq=>some (.bool (a != b))
    | .lss=>some (.bool (a<b))
    | .leq=>some (.bool (a≤b))
    | .gtr=>some (.bool (a>b))
    | .geq=>some (.bool (a≥b))
    | _=>none
   else none
 | .str a,.str b =>
  match op with
  | .add=>if a.size+b.size≤9223372036854775807 then some (.str (a++b))else none
  | .eql=>some (.bool (dm a b))
  | .neq=>some (.bool (!dm a b))
  | .lss=>some (.bool (strLt a b))
  | .leq=>some (.bool (strLt a b||dm a b))
  | .gtr=>some (.bool (!(strLt a b||dm a b)))
  | .geq=>some (.bool (!strLt a b))
  | _=>none
 | _,_=>none
def yD (op:UnOp):T→Option T
 | .int k n =>
  match op with
  | .neg=>some (.int k (k.wrap (0-n)))
  | .xor=>some (.int k (k.wrap (BitVec.ofInt k.bits (if k.signed then -1 else k.max) ^^^ BitVec.ofInt k.bits n).toNat))
  | _=>none
 | .bool b=>match op with | .not=>some (.bool !b)|_=>none
 | _=>none
def ll:ue→T→Option Bool
 | .ptr,.aL=>some true
 | .ptr,.ptr _ _ | .ptr,.cF _=>some false
 | .slice,.sl .nil []=>some true
 | .slice,.sl .full _ | .slice,.sl (.own _ _) _ | .slice,.sl .arg (_ :: _) | .slice,.aQ _ _ _ _=>some false
 | .map,.b9=>some true
 | .map,.map _=>some false
 | .func,.dv=>some true
 | .func,.fn _ _=>some false
 | _,_=>none
def qb (c:ue)(x y:T):Option Bool :=
 match ll c x,ll c y with
 | some true,some b=>some b
 | some b,some true=>some b
 | _,_=>none
def dA:T→T→Option Bool
 | .int k a,.int k' b=>if k=k' then some (a==b)else none
 | .str a,.str b=>some (dm a b)
 | .bool a,.bool b=>some (a==b)
 | _,_=>none
def aM:List T→List T→Option Bool
 | [],[]=>some true
 | a :: aq,b :: bs=>match dA a b,aM aq bs with
  | some x,some y=>some (x&&y)
  | _,_=>none
 | _,_=>none
def dn:T→T→Option Bool
 | .agg aq,.agg bs=>aM aq bs
 | a,b=>dA a b
def bm (k:T):List (T×T)→Option (Option Nat)
 | []=>some none
 | e :: es=>match dn k e.1 with
  | some true=>some (some 0)
  | some false=>(bm k es).map (Option.map (·+1))
  | none=>none
def cu (H:aa):T→Option (List (T×T))
 | .b9=>some []
 | .map b=>match H[b]? with|some (.map es)=>some es|some (.ct es _ _ _)=>some es|_=>none
 | _=>none
def eY (cells:List T):List (Nat×List T)→Option (List T)
 | []=>some cells
 | (off,vs) :: rest=>if off+vs.length≤cells.length then eY (cells.take off++vs++cells.drop (off+vs.length)) rest else none
def bV (R:ai):List (Nat×Nat×X)→Option (List (Nat×List T))
 | []=>some []
 | (off,n,x) :: rest=>match (x.ev R).cells?,bV R rest with
  | some cs,some l=>if cs.length=n then some ((off,cs) :: l)else none
  | _,_=>none
def dB (n:Nat)(es:List (List T))(R:ai):List (Nat×X)→Option (List (List T))
 | []=>some es
 | (i,x) :: rest=>match (x.ev R).cells? with
  | some cs=>if cs.length=n∧i<es.length then dB n (es.set i (cs.map T.erase)) R rest else none
  | none=>none
def dC (n:Nat)(es:List (List T))(R:ai):List (Nat×X)→Option (List (List T))
 | []=>some es
 | (i,x) :: rest=>match (x.ev R).cells? with
  | some cs=>if cs.length=n∧i<es.length then dC n (es.set i cs) R rest else none
  | none=>none
def gF (H:aa)(n:Nat):T→Option (List T)
 | .ptr b off=>match H[b]? with
  | some (.cells cs)=>if off+n≤cs.length then some ((cs.drop off).take n)else none
  | some (.fz cs)=>if off+n≤cs.length then some ((cs.drop off).take n)else none
  | _=>none
 | .cF cs=>if n≤cs.length then some (cs.take n)else none
 | _=>none
def valOf (ag:Bool)(cs:List T):Option T :=
 if ag then some (.agg cs)else match cs with | [v]=>some v|_=>none
def ug (H:aa)(vs:List T):T→Option aa
 | .ptr b off=>match H[b]? with
  | some (.cells cs)=>if off+vs.length≤cs.length then some (H.set b (.cells (cs.take off++vs++cs.drop (off+vs.length))))else none
  | _=>none
 | _=>none
def ku (off:Nat):T→Option T
 | .ptr b o=>some (.ptr b (o+off))
 | .cF cs=>if off<cs.length then some (.cF (cs.drop off))else none
 | _=>none
def uh (n i:Nat):T→Option T
 | .sl _ es=>match es[i]? with
  | some c=>if c.length=n∧n≠0 then some (.cF c)else none
  | none=>none
 | .aQ b off len n'=>if n'=n∧i<len∧n≠0 then some (.ptr b (off+i*n))else none
 | _=>none
def aH (H:aa)(n:Nat):T→Option (List (List T))
 | .sl _ es=>if es.all (·.length==n)then some es else none
 | .aQ b off len n'=>match H[b]? with
  | some (.cells cs)=>if n'=n∧off+len*n≤cs.length then some ((List.range len).map fun i=>(cs.drop (off+i*n)).take n)else none
  | some (.fz cs)=>if n'=n∧off+len*n≤cs.length then some ((List.range len).map fun i=>(cs.drop (off+i*n)).take n)else none
  | _=>none
 | .str s=>if n=1 then some (s.data.toList.map fun c=>[.int .u8 c.toNat])else none
 | _=>none
def bytesOf:List (List T)→Option (List UInt8)
 | []=>some []
 | [.int .u8 n] :: es=>(bytesOf es).map (UInt8.ofNat n.toNat :: ·)
 | _=>none
def eo (H:aa):Lc→T→Option Nat
 | .str,.str s=>some s.size
 | .sl,.sl _ es=>some es.length
 | .sl,.aQ _ _ len _=>some len
 | .sl,.bU _ _ len _ _=>some len
 | .map,.b9=>some 0
 | .map,.map b=>match H[b]? with
  | some (.map es)=>some es.length
  | some (.ct es _ _ _)=>some es.length
  | _=>none
 | _,_=>none
def aR:T→Option Nat
 | .int _ n=>if 0≤n then some n.toNat else none
 | _=>none
def cX (R:ai)(d:Nat):Option X→Option Nat
 | none=>some d
 | some x=>aR (x.ev R)
def SK.cut (k:SK)(len lo hi:Nat):SK :=
 match k with
 | .nil=>.nil
 | .arg=>.arg
 | .full=>if hi=len then .full else .arg
 | .own t e=>if hi=len∧lo<len then .own t e else .arg
def dM (dN bytes:Nat):Bool:=(dN+dN/4+512)*bytes≤281474976710656
def o6 (H:aa)(bytes:Nat)(k:SK)(es new:List (List T)):Option (T×aa) :=
 match new with
 | []=>some (.sl k es,H)
 | _ =>
  if dM (es.length+new.length) bytes then
   match k with
   | .nil | .full=>some (.sl (.own H.length (es.length+new.length)) (es++new.map (·.map T.erase)),H++[.tok (es.length+new.length)])
   | .own t e=>match H[t]? with
    | some (.tok e')=>if e=e' then some (.sl (.own t (e+new.length)) (es++new.map (·.map T.erase)),H.set t (.tok (e+new.length)))else none
    | _=>none
   | .arg=>none
  else none
def qc:T→Bool
 | .sl _ _ | .aQ _ _ _ _=>true
 | _=>false
def o7 (H:aa)(n bytes:Nat)(x:T)(new:List (List T)):Option (T×aa) :=
 match new with
 | []=>if qc x then some (x,H)else none
 | _ =>
  match x with
  | .sl .nil es | .sl .full es =>
   if dM (es.length+new.length) bytes∧es=[]then some (.aQ H.length 0 new.length n,H++[.cells new.flatten])else none
  | .aQ b off len n'=>match H[b]? with
   | some (.cells cs) =>
    if n'=n∧off=0∧len*n=cs.length∧dM (len+new.length) bytes then
     some (.aQ H.length 0 (len+new.length) n,H.set b .dead++[.cells (cs++new.flatten)])else none
   | _=>none
  | _=>none
def Aa:T→T
 | .bU b off len n _=>.aQ b off len n
 | t=>t
def fh (H:aa)(n k:Nat):T→Option (List (List T))
 | .aQ b off _ n' | .bU b off _ n' _=>match H[b]? with
  | some (.cells cs)=>if n'=n∧off+k*n≤cs.length then some ((List.range k).map fun i=>(cs.drop (off+i*n)).take n)else none
  | _=>none
 | _=>none
def ui:T→Option Nat
 | .aQ _ _ len _ | .bU _ _ len _ _=>some len
 | _=>none
def qd (H:aa)(n:Nat)(x y:T):Option (T×aa) :=
 match x,ui y with
 | .aQ b off len n',some ly | .bU b off len n' _,some ly =>
  match H[b]?,fh H n (min ly len) y with
  | some (.cells cs),some new =>
   if n'=n∧n≠0∧off≤cs.length then some (.int .i64 (min ly len:Nat),H.set b (.cells (cs.take off++new.flatten++cs.drop (off+(min ly len)*n))))else none
  | _,_=>none
 | _,_=>none
def qe (H:aa)(b:Nat):Nat:=match H[b]? with
 | some (.cells cs)=>cs.length
 | some (.fz cs)=>cs.length
 | _=>0
def uj (H:aa)(n bytes:Nat)(z:List T)(x:T)(k:Nat):Option (T×aa) :=
 match x with
 | .bU b off len n' c=>match fh H n len x with
  | some es=>if n'=n∧n≠0∧0<k∧c<len+k∧z.length=n∧dM (len+k) bytes then some (.aQ H.length 0 (len+k) n,H++[.cells (es.flatten++(List.replicate k z).flatten)])else none
  | none=>none
 | _=>none
def qf (H:aa)(n:Nat)(x y:T):Option (T×aa) :=
 match x,y with
 | .aQ bv _ _ n1,.bU b _ len n2 _ =>
  match H[bv]?,H[b]? with
  | some (.cells _),some (.cells cs)=>if bv≠b∧n1=n∧n2=n∧0<cs.length then some (.bool false,H)else none
  | _,_=>none
 | _,_=>none
def wF (R:ai)(l:List X):List T:=l.map (X.ev R)
def yE (n:Nat):List T→Bool
 | [.int .u8 _]=>n != 0
 | _=>false
def gP (n:Nat)(z cs:List T):B:=if yE n z then .lit cs else .cells cs
def ae (R:ai)(H:aa):Bo→Option (T×aa)
 | .ak x=>some (x.ev R,H)
 | .pick c a b=>match c.ev R with
  | .bool t=>some (if t then a.ev R else b.ev R,H)
  | _=>none
 | .bin op x y=>(aO op (x.ev R) (y.ev R)).map (·,H)
 | .eX neg c x y=>(qb c (x.ev R) (y.ev R)).map fun b=>(.bool (if neg then !b else b),H)
 | .beq neg x y=>match x.ev R,y.ev R with
  | .bool a,.bool b=>some (.bool (if neg then !(a==b)else a==b),H)
  | _,_=>none
 | .eqs neg ks x y=>match x.ev R,y.ev R with
  | .agg aq,.agg bs=>if hasAll ks aq then(aM aq bs).map fun b=>(.bool (if neg then !b else b),H)else none
  | _,_=>none
 | .un op x=>(yD op (x.ev R)).map (·,H)
 | .eg k x=>match x.ev R with
  | .int _ n=>some (.int k (k.wrap n),H)
  | _=>none
 | .p9 x=>match aH H 1 (x.ev R)with
  | some es=>match x.ev R with
   | .str _=>none
   | _=>(bytesOf es).map fun l=>(.str ⟨l.toArray⟩,H)
  | none=>none
 | .yA m x=>match x.ev R with
  | .aQ b off len n=>match H[b]? with
   | some (.lit cs)=>if m=true∧off=0∧n=1∧len=cs.length then some (.sl .arg (cs.map fun c=>[c]),H.set b .dead)else none
   | _=>none
  | .str s=>if m=false∧s.size≤16777216 then some (.sl .arg (s.data.toList.map fun c=>[.int .u8 c.toNat]),H)else none
  | _=>none
 | .len k x=>(eo H k (x.ev R)).map fun (n:Nat)=>(T.int .i64 (n:Int),H)
 | .alloc z=>some (.ptr H.length 0,H++[.cells z])
 | .box x=>(x.ev R).cells?.map fun cs=>(.ptr H.length 0,H++[.cells cs])
 | .build z ps=>match bV R ps with
  | some l=>(eY z l).map fun cs=>(.agg cs,H)
  | none=>none
 | .kr n z ps=>(dB z.length (List.replicate n z) R ps).map fun es=>(.sl .full es,H)
 | .ld n ag x=>match gF H n (x.ev R)with
  | some cs=>(valOf ag cs).map (·,H)
  | none=>none
 | .st n a v=>match (v.ev R).cells? with
  | some vs=>if vs.length=n then(ug H vs (a.ev R)).map (aw,·)else none
  | none=>none
 | .jy off x=>(ku off (x.ev R)).map (·,H)
 | .Du off n ag x=>match x.ev R with
  | .agg cs=>if off+n≤cs.length then(valOf ag ((cs.drop off).take n)).map (·,H)else none
  | _=>none
 | .mJ n x i=>(aR (i.ev R)).bind fun i=>(uh n i (x.ev R)).map (·,H)
 | .wE len n x i=>match x.ev R,aR (i.ev R)with
  | .ptr b off,some i=>if i<len then some (.ptr b (off+i*n),H)else none
  | _,_=>none
 | .Ar x i=>match x.ev R,aR (i.ev R)with
  | .str s,some i=>(s.data[i]?).map fun c=>(.int .u8 c.toNat,H)
  | _,_=>none
 | .Dv len n ag x i=>match x.ev R,aR (i.ev R)with
  | .agg cs,some i=>if i<len∧i*n+n≤cs.length then(valOf ag ((cs.drop (i*n)).take n)).map (·,H)else none
  | _,_=>none
 | .yB x lo hi=>match x.ev R with
  | .str s=>match cX R 0 lo,cX R s.size hi with
   | some l,some h=>if l≤h∧h≤s.size then some (.str (s.extract l h),H)else none
   | _,_=>none
  | _=>none
 | .fV n x lo hi mx=>match x.ev R with
  | .sl k es=>match cX R 0 lo,cX R es.length hi,mx with
   | some l,some h,none=>if l≤h∧h≤es.length∧es.all (·.length==n)then some (.sl (k.cut es.length l h) ((es.take h).drop l),H)else none
   | some l,some h,some m=>match aR (m.ev R)with
    | some m =>
     if l≤h∧h≤m∧m≤es.length∧es.all (·.length==n)then
      some (.sl (if k=.nil then .nil else if es=[]∧k=.arg then .arg else if h=m then .full else .arg) ((es.take h).drop l),H)else none
    | none=>none
   | _,_,_=>none
  | .aQ b off len n'=>match cX R 0 lo,cX R len hi,mx with
   | some l,some h,none =>
    if n'=n∧l≤h∧h≤len then some (if l=h then(if l=0 then .aQ b off 0 n else .sl .arg [])else .aQ b (off+l*n) (h-l) n,H)else none
   | _,_,_=>none
  | .bU b off len n' c=>match cX R 0 lo,cX R len hi,mx with
   | some l,some h,none =>
    if n'=n∧l≤h∧h≤c then some (if l<c∨l=0 then .bU b (off+l*n) (h-l) n (c-l)else .sl .arg [],H)else none
   | _,_,_=>none
  | _=>none
 | .nV=>some (.map H.length,H++[.map []])
 | .mK kt z ok m k =>
  if (k.ev R).dw kt then
   match cu H (m.ev R)with
   | some es=>match bm (k.ev R) es with
    | some (some i)=>match es[i]? with
     | some e=>some (if ok then .bo [e.2,.bool true]else e.2,H)
     | none=>none
    | some none=>some (if ok then .bo [z,.bool false]else z,H)
    | none=>none
   | none=>none
  else none
 | .tR kt m k v=>match m.ev R with
  | .map b=>if (k.ev R).dw kt then match H[b]? with
   | some (.map es)=>match bm (k.ev R) es with
    | some (some i)=>some (aw,H.set b (.map (es.set i (k.ev R,v.ev R))))
    | some none=>some (aw,H.set b (.map (es++[(k.ev R,v.ev R)])))
    | none=>none
   | _=>none else none
  | _=>none
 | .del kt m k=>match m.ev R with
  | .map b=>if (k.ev R).dw kt then match H[b]? with
   | some (.map es)=>match bm (k.ev R) es with
    | some (some i)=>some (.bo [],H.set b (.map (es.eraseIdx i)))
    | some none=>some (.bo [],H)
    | none=>none
   | _=>none else none
  | _=>none
 | .app n bytes mu x y=>match aH H n (y.ev R)with
  | some new=>if mu then o7 H n bytes (Aa (x.ev R)) new else match x.ev R with
   | .sl k es=>if es.all (·.length==n)then o6 H bytes k es new else none
   | _=>none
  | none=>none
 | .Dw mu bytes z l c=>match aR (l.ev R),aR (c.ev R)with
  | some l,some c =>
   if l≤c∧c*bytes≤281474976710656∧c≤9223372036854775807 then
    if mu then some (.aQ H.length 0 l z.length,H++[.cells (List.replicate l z).flatten])
    else if l=0 then some (.sl .arg [],H)else some (.sl (.own H.length l) (List.replicate l z),H++[.tok l])
   else none
  | _,_=>none
 | .yC f ew=>some (.fn f (wF R ew),H)
 | .ext i x=>match x.ev R with
  | .bo vs=>(vs[i]?).map (·,H)
  | _=>none
 | .mn x y=>match x.ev R,y.ev R with
  | .int k a,.int _ b=>some (.int k (if b<a then b else a),H)
  | _,_=>none
 | .mx x y=>match x.ev R,y.ev R with
  | .int k a,.int _ b=>some (.int k (if b>a then b else a),H)
  | _,_=>none
 | .hP x=>match x.ev R with
  | .aL | .cG | .dv=>none
  | v=>some (v,H)
 | .cap x=>match x.ev R with
  | .bU _ _ _ _ c=>some (.int .i64 (c:Nat),H)
  | _=>none
 | .uf n x y=>qd H n (x.ev R) (y.ev R)
 | .z6 x=>match x.ev R with
  | .map b=>(cu H (.map b)).map fun es=>(.ptr H.length 0,H.set b (.ct es (List.range es.length) H.length none)++[.pZ b])
  | _=>none
 | .hU _=>none
 | .z7 x=>match x.ev R with
  | .ptr bi 0=>match H[bi]? with
   | some (.pZ b)=>match H[b]? with
    | some (.ct es _ wG (some c))=>if wG=bi then(es[c]?).map fun e=>(.bo [e.1,e.2],H)else none
    | _=>none
   | _=>none
  | _=>none
 | .As n z x=>match x.ev R with
  | .aQ b off len n'=>match H[b]? with
   | some (.cells cs)=>if n'=n∧z.length=n∧off+len*n≤cs.length then some (aw,H.set b (.cells (cs.take off++(List.replicate len z).flatten++cs.drop (off+len*n))))else none
   | _=>none
  | _=>none
 | .z1 n x y=>qf H n (x.ev R) (y.ev R)
 | .Au n bytes z x k=>(aR (k.ev R)).bind fun k=>uj H n bytes z (x.ev R) k
 | .z8 n z ps=>(dC z.length (List.replicate n z) R ps).bind fun es=>if z.length≠0 then some (.aQ H.length 0 n z.length,H++[gP n z es.flatten])else none
 | .Dx n x hi=>match x.ev R,aR (hi.ev R)with
  | .aQ b off _ n',some h=>if n'=n∧n≠0∧0<h∧off+h*n≤qe H b then some (.aQ b off h n,H)else none
  | _,_=>none
def av (R:ai):Gd→Bool
 | none=>true
 | some (t,b)=>match R t with
  | .bool c=>c==b
  | _=>false
inductive Rs where
 | t (r:Nat)
 | cl (r n:Nat) (ag:Bool)
structure Fn where
 n:Nat
 np:Nat
 res:List Rs
 body:C
structure Env where
 fn:Nat→Option Fn
 fY:Nat→List T→aa→(T→aa→Prop)→Prop
 mono:∀f az H (Q Q':T→aa→Prop),fY f az H Q→(∀t H',Q t H'→Q' t H')→fY f az H Q'
inductive J where
 | code (c:C) (R:ai)
 | ops (l:List O) (R:ai)
 | call (f:Nat) (aq:List T)
inductive Out where
 | ex (e:Ex) (R:ai)
 | val (v:T)
def C.ep:C→Bool
 | .seq a b | .cond _ a b=>a.ep||b.ep
 | .block _ a | .loop a=>a.ep
 | .bw _ _ _ _ _=>true
 | _=>false
def fB (R:ai):List Nat→List T→ai
 | p :: ps,v :: vs=>fB (jj R p v) ps vs
 | _,_=>R
def qg:T→Option Nat
 | .ptr b 0=>some b
 | _=>none
def hY:List T→Option (List Nat)
 | []=>some []
 | t :: ts=>match qg t,hY ts with
  | some b,some bs=>some (b :: bs)
  | _,_=>none
def marks:T→Option (List Nat)
 | .bo ts=>hY ts
 | _=>none
def fC (t:T)(b:Nat):T:=match t with
 | .bo ts=>.bo (.ptr b 0 :: ts)
 | t=>t
def kill (H:aa):List Nat→aa
 | []=>H
 | b :: bs=>kill (H.set b .dead) bs
def kv:Option Ex→Ex
 | none=>.normal
 | some e=>e
def dp (aq:List T):ai:=fun t=>aq.getD t aw
def mS (R:ai)(H:aa):Rs→Option T
 | .t r=>some (R r)
 | .cl r n ag=>match gF H n (R r)with
  | some cs=>valOf ag cs
  | none=>none
def jk (R:ai)(H:aa):List Rs→Option (List T)
 | []=>some []
 | x :: xs=>match mS R H x,jk R H xs with
  | some v,some vs=>some (v :: vs)
  | _,_=>none
def o8:List T→T
 | [v]=>v
 | l=>.bo l
def fD (R:ai)(H:aa)(l:List Rs):Option T:=(jk R H l).map o8
def cH (R:ai)(H:aa)(l:List Rd):Prop:=∀r∈l,av R r.g=true→ae R H r.op=some (R r.d,H)
def dP (cs:List T)(off len n:Nat):List (List T):=(List.range len).map fun i=>(cs.drop (off+i*n)).take n
def uk (b:Nat)(cs:List T):T→T
 | .aQ b' off len n=>if b'=b∧off+len*n≤cs.length then .sl .arg (dP cs off len n)else .aQ b' off len n
 | t=>t
def mT (b:Nat)(cs:List T):T→T
 | .bo vs=>.bo (vs.map (uk b cs))
 | t=>uk b cs t
def hZ (b:Nat):T→Prop
 | .bo vs=>∃off len n,T.aQ b off len n∈vs
 | .aQ b' _ _ _=>b'=b
 | _=>False
inductive Vw (H:aa):T→T→Prop
 | refl (t:T):Vw H t t
 | ms {b off len n:Nat} {cs:List T} {es:List (List T)} (src:Nat→Nat→T) (hb:H[b]?=some (.fz cs)) (hl:es.length=len) (hn:∀c∈es,c.length=n) (hle:off+len*n≤cs.length)
   (h1:∀(i j:Nat) (c:List T) (t':T),es[i]?=some c→c[j]?=some t'→cs[off+i*n+j]?=some (src i j)∧t'.one=true) (h2:∀(i j:Nat) (c:List T) (t':T),es[i]?=some c→c[j]?=some t'→Vw H (src i j) t'):Vw H (.aQ b off len n) (.sl .arg es)
def Hy (H:aa)(aq:List T)(b:Nat):Prop:=∃(i b' off len n:Nat),aq[i]?=some (.aQ b' off len n)∧(b'=b∨∃(cs:List T) (j yF yG n':Nat),(H[b']?=some (.cells cs)∨H[b']?=some (.fz cs))∧(cs[j]?:Option T)=some (.aQ b yF yG n'))
def fE (H:aa)(b bi:Nat)(es:List (T×T))(ix:List Nat)(t:T)(H':aa):Prop :=
 (ix=[]∧t=.bo [.bool false]∧H'=H.set b (.map es))∨∃i e,i∈ix∧es[i]?=some e∧t=.bo [.bool true,e.1,e.2]∧H'=H.set b (.ct es (ix.erase i) bi (some i))
inductive W (E:Env):J→aa→(Out→aa→Prop)→Prop
 | skip {R H Q} (h:Q (.ex .normal R) H):W E (.code .skip R) H Q
 | exit {id R H Q} (h:Q (.ex (.exit id) R) H):W E (.code (.exit id) R) H Q
 | ret {R H Q} (h:Q (.ex .ret R) H):W E (.code .ret R) H Q
 | Av {l R H Q} (h:W E (.ops l R) H Q):W E (.code (.ops l) R) H Q
 | seq {a b R H Q} (M:Out→aa→Prop) (h1:W E (.code a R) H M) (h2:∀R' H',M (.ex .normal R') H'→W E (.code b R') H' Q)
   (h3:∀o H',M o H'→(∀R',o≠.ex .normal R')→Q o H'):W E (.code (.seq a b) R) H Q
 | cond {x a b R H Q} (t:Bool) (hx:x.ev R=.bool t) (h:W E (.code (if t then a else b) R) H Q):W E (.code (.cond x a b) R) H Q
 | block {id a R H Q} (M:Out→aa→Prop) (h1:W E (.code a R) H M) (h2:∀R' H',M (.ex (.exit id) R') H'→Q (.ex .normal R') H')
   (h3:∀o H',M o H'→(∀R',o≠.ex (.exit id) R')→Q o H'):W E (.code (.block id a) R) H Q
 | loop {a R H Q} (M:Out→aa→Prop) (h1:W E (.code a R) H M) (h2:∀R' H',M (.ex .normal R') H'→W E (.code (.loop a) R') H' Q)
   (h3:∀o H',M o H'→(∀R',o≠.ex .normal R')→Q o H'):W E (.code (.loop a) R) H Q
 | nil {R H Q} (h:Q (.ex .normal R) H):W E (.ops [] R) H Q
 | no {o l R H Q} (hg:av R o.g=false) (h:W E (.ops l (aA R o.d aw)) H Q):W E (.ops (o :: l) R) H Q
 | op {d b g s l R H Q v H'} (hg:av R g=true) (he:ae R H b=some (v,H')) (hs:cH R H' s) (h:W E (.ops l (aA R d v)) H' Q):W E (.ops (⟨d,.b b,g,s⟩ :: l) R) H Q
 | call {d f aq g s l R H Q} (M:Out→aa→Prop) (hg:av R g=true) (h1:W E (.call f (aq.map (X.ev R))) H M)
   (hs:∀v H',M (.val v) H'→cH R H' s) (h2:∀v H',M (.val v) H'→W E (.ops l (aA R d v)) H' Q):W E (.ops (⟨d,.call f aq,g,s⟩ :: l) R) H Q
 | bl {d x f cs aq g s l R H Q} (M:Out→aa→Prop) (hg:av R g=true) (hf:x.ev R=.fn f cs) (h1:W E (.call f (aq.map (X.ev R)++cs)) H M)
   (hs:∀v H',M (.val v) H'→cH R H' s) (h2:∀v H',M (.val v) H'→W E (.ops l (aA R d v)) H' Q):W E (.ops (⟨d,.bl x aq,g,s⟩ :: l) R) H Q
 | qh {d neg c x y s l R H Q} (hs:s=[]) (h:∀b:Bool,W E (.ops l (aA R d (.bool b))) H Q) (hx:x.ev R=.sl .arg []) (hy:y.ev R=.sl .nil []) (hc:c=.slice) :
   W E (.ops (⟨d,.b (.eX neg c x y),none,s⟩ :: l) R) H Q
 | gY {d x b aq g s l R H Q n R0 ps bh body} (M1 M:Out→aa→Prop) (hg:av R g=true) (hf:x.ev R=.gY b) (hb:H[b]?=some (.loop .ready none n R0 ps bh body)) (hn:aq.length=ps.length)
   (h1:W E (.code bh (fB R0 ps (aq.map (X.ev R)))) H M1) (qi:∀o H',M1 o H'→(∃R1,o=.ex .normal R1)∧H'[b]?=some (.loop .ready none n R0 ps bh body))
   (h2:∀R1 H1,M1 (.ex .normal R1) H1→W E (.code body R1) (H1.set b (.loop .busy none n R0 ps bh body)) M) (mU:∀o H',M o H'→H'[b]?=some (.loop .busy none n R0 ps bh body))
   (Dy:∀R' H',M (.ex .normal R') H'→cH R (H'.set b (.loop .ready none n R0 ps bh body)) s)
   (h3:∀R' H',M (.ex .normal R') H'→W E (.ops l (aA R d (.bool true))) (H'.set b (.loop .ready none n R0 ps bh body)) Q)
   (Dz:∀e R' H',M (.ex e R') H'→e≠.normal→cH R (H'.set b (.loop .done (some e) n R0 ps bh body)) s)
   (h4:∀e R' H',M (.ex e R') H'→e≠.normal→W E (.ops l (aA R d (.bool false))) (H'.set b (.loop .done (some e) n R0 ps bh body)) Q):W E (.ops (⟨d,.bl x aq,g,s⟩ :: l) R) H Q
 | bw {n x ps bh body R H Q f cs} (M:Out→aa→Prop) (hx:x.ev R=.fn f cs) (h1:W E (.call f (.gY (H.length+1) :: cs)) (H++[.lj,.loop .ready none n R ps bh body]) M)
   (h2:∀v H',M (.val v) H'→∃st bz,st≠.busy∧bz≠some .normal∧H'[H.length+1]?=some (.loop st bz n R ps bh body)∧Q (.ex (kv bz) (jj R n (fC (R n) H.length))) (H'.set (H.length+1) .dead)) :
   W E (.code (.bw n x ps bh body) R) H Q
 | DA {f aq H Q fn} (M:Out→aa→Prop) (hf:E.fn f=some fn) (hn:aq.length=fn.np) (h1:W E (.code fn.body (dp aq)) H M)
   (h2:∀o H',M o H'→∃R' bs,(o=.ex .normal R'∨o=.ex .ret R')∧marks (R' fn.n)=some bs∧bs.Nodup∧(∀b∈bs,H'[b]?=some .lj)∧∃v,fD R' (kill H' bs) fn.res=some v∧Q (.val v) (kill H' bs)):W E (.call f aq) H Q
 | fn {f aq H Q fn} (M:Out→aa→Prop) (hf:E.fn f=some fn) (hr:fn.body.ep=false) (hn:aq.length=fn.np) (h1:W E (.code fn.body (dp aq)) H M)
   (h2:∀o H',M o H'→∃R',(o=.ex .normal R'∨o=.ex .ret R')∧∃v,fD R' H' fn.res=some v∧Q (.val v) H'):W E (.call f aq) H Q
 | yH {f aq H Q b off len n} (i:Nat) (M:Out→aa→Prop) (hi:aq[i]?=some (.aQ b off len n)) (h1:∀c,len≤c→W E (.call f (aq.set i (.bU b off len n c))) H M) (h2:∀v H',M (.val v) H'→Q (.val (Aa v)) H'):W E (.call f aq) H Q
 | p0 {f aq H Q} (M:Out→aa→Prop) (h1:W E (.call f aq) H M) (h2:∀o H',M o H'→∃v b cs,o=.val v∧hZ b v∧H'[b]?=some (.cells cs)∧Q (.val (mT b cs v)) (H'.set b .dead)):W E (.call f aq) H Q
 | hU {d x g s l R H Q b bi es ix cur} (hg:av R g=true) (hx:x.ev R=.ptr bi 0) (hb:H[b]?=some (.ct es ix bi cur))
   (hs:∀t H',fE H b bi es ix t H'→cH R H' s) (h:∀t H',fE H b bi es ix t H'→W E (.ops l (aA R d t)) H' Q):W E (.ops (⟨d,.b (.hU x),g,s⟩ :: l) R) H Q
 | shr {f aq H Q} (M:Out→aa→Prop) (h1:W E (.call f aq) H M) (h2:∀o H',M o H'→∃v b cs k,o=.val v∧hZ b v∧H'[b]?=some (.cells cs)∧Q (.val v) (H'.set b (.cells (cs.take k)))):W E (.call f aq) H Q
 | yI {f aq H Q b off len n cs} (i:Nat) (hi:aq[i]?=some (.aQ b off len n)) (hb:H[b]?=some (.cells cs)) (h:W E (.call f (aq.map (mT b cs))) (H.set b .dead) Q):W E (.call f aq) H Q
 | D7 {f aq H Q b cs} (hk:Hy H aq b) (hb:H[b]?=some (.cells cs)) (h:W E (.call f aq) (H.set b (.fz cs)) Q):W E (.call f aq) H Q
 | vw {f aq yJ H Q} (hl:yJ.length=aq.length) (hv:∀(i:Nat) (t t':T),aq[i]?=some t→yJ[i]?=some t'→Vw H t t') (h:W E (.call f yJ) H Q):W E (.call f aq) H Q
 | DB {d n bytes y g s l R H Q b len cs v H' t} (hg:av R g=true) (ht:R t=.aQ b 0 len n) (hb:H[b]?=some (.cells cs)) (hlen:len*n=cs.length) (h0:0<len)
   (he:ae (jj R t (.sl (.own H.length len) (dP cs 0 len n))) (H.set b (.fz cs)++[.tok len]) (.app n bytes false (.r t) y)=some (v,H')) (hs:cH R H' s) (h:W E (.ops l (aA R d v)) H' Q):W E (.ops (⟨d,.b (.app n bytes false (.r t) y),g,s⟩ :: l) R) H Q
 | fY {f aq H Q} (h:E.fY f aq H fun v H'=>Q (.val v) H'):W E (.call f aq) H Q
inductive Ow where
 | free|cI|mut (b:Nat)|spare (t:Nat)
 deriving DecidableEq
structure Ctx where
 φ:Nat→Option (Nat×Nat×Nat)
 κ:Nat→Nat→Ow
 π:Nat→Nat→Option (Nat×Nat×Nat)
 ck:Nat→C→Code→Prop
def mL (g:Ctx)(w:World)(r o:Nat)(v:Value):Prop:=g.κ r o=.cI∧w.cell? ⟨r,o,none⟩=some v
def o9 (g:Ctx)(k:SK)(r o len cap n:Nat):Prop :=
 match k with
 | .nil=>False
 | .arg=>True
 | .full=>cap=len
 | .own t e=>g.π t e=some (r,o+len*n,o+cap*n)∧0<len
inductive VR (g:Ctx)(w:World):T→Value→Prop
 | int (k n):VR g w (.int k n) (.int k n)
 | bool (b):VR g w (.bool b) (.bool b)
 | str (s):VR g w (.str s) (.string s)
 | aL:VR g w .aL (.pointer none)
 | ptr {b off r o q} (h:g.φ b=some (r,o,q)):VR g w (.ptr b off) (.pointer (some ⟨r,o+off,none⟩))
 | cF {cs r o} (a7:Nat→Value) (h1:∀(j:Nat) (t:T),cs[j]?=some t→t.one=true∧mL g w r (o+j) (a7 j)) (h2:∀(j:Nat) (t:T),cs[j]?=some t→VR g w t (a7 j)) :
   VR g w (.cF cs) (.pointer (some ⟨r,o,none⟩))
 | b9:VR g w .b9 (.map none)
 | map {b r o q} (h:g.φ b=some (r,o,q)):VR g w (.map b) (.map (some r))
 | slnil:VR g w (.sl .nil []) (.slice none 0 0)
 | dq (a:Option Addr):VR g w (.sl .arg []) (.slice a 0 0)
 | sl {k es r o cap n} (a7:Nat→Nat→Value) (hk:o9 g k r o es.length cap n) (hc:es.length≤cap) (hn:∀c∈es,c.length=n)
   (h1:∀(i j:Nat) (c:List T) (t:T),es[i]?=some c→c[j]?=some t→t.one=true∧mL g w r (o+i*n+j) (a7 i j))
   (h2:∀(i j:Nat) (c:List T) (t:T),es[i]?=some c→c[j]?=some t→VR g w t (a7 i j)) :
   VR g w (.sl k es) (.slice (some ⟨r,o,none⟩) es.length cap)
 | aQ {b off len n r o q cap} (h:g.φ b=some (r,o,q)) (hc:len≤cap) (hq:o+off+cap*n=q):VR g w (.aQ b off len n) (.slice (some ⟨r,o+off,none⟩) len cap)
 | bU {b off len n r o q c} (h:g.φ b=some (r,o,q)) (hc:len≤c) (hq:o+off+c*n=q):VR g w (.bU b off len n c) (.slice (some ⟨r,o+off,none⟩) len c)
 | dv:VR g w .dv .nilFunc
 | fn {f ew vs} (hl:vs.size=ew.length) (h:∀(i:Nat) (t:T) (v:Value),ew[i]?=some t→vs[i]?=some v→VR g w t v):VR g w (.fn f ew) (.func (.func f) #[] vs)
 | gY {b r o q} (h:g.φ b=some (r,o,q)):VR g w (.gY b) (.func (.yield r) #[] #[])
 | cG:VR g w .cG .nilIface
 | agg {cs vs} (hl:vs.size=cs.length) (h1:∀t∈cs,t.one=true) (h2:∀(i:Nat) (t:T) (v:Value),cs[i]?=some t→vs[i]?=some v→VR g w t v):VR g w (.agg cs) (.agg vs)
 | bo {cs vs} (hl:vs.size=cs.length) (h2:∀(i:Nat) (t:T) (v:Value),cs[i]?=some t→vs[i]?=some v→VR g w t v):VR g w (.bo cs) (.tuple vs)
structure Le (g:Ctx)(w:World)(g':Ctx)(w':World):Prop where
 φ:∀b x,g.φ b=some x→g'.φ b=some x
 κ:∀r o,g.κ r o=.cI→g'.κ r o=.cI
 π:∀t e x,g.π t e=some x→g'.π t e=some x
 cell:∀r o v,g.κ r o=.cI→w.cell? ⟨r,o,none⟩=some v→w'.cell? ⟨r,o,none⟩=some v
 ck:g'.ck=g.ck
theorem Le.refl (g:Ctx)(w:World):Le g w g w:=⟨fun _ _ h=>h,fun _ _ h=>h,fun _ _ _ h=>h,fun _ _ _ _ h=>h,rfl⟩
theorem Le.trans {g g' Aw:Ctx}{w w' Ax:World}(h:Le g w g' w')(h':Le g' w' Aw Ax):Le g w Aw Ax :=
 ⟨fun b x e=>h'.φ b x (h.φ b x e),fun r o e=>h'.κ r o (h.κ r o e),fun t e x k=>h'.π t e x (h.π t e x k),fun r o v k e=>h'.cell r o v (h.κ r o k) (h.cell r o v k e),h'.ck.trans h.ck⟩
theorem mL.mono {g g':Ctx}{w w':World}(le:Le g w g' w'){r o:Nat}{v:Value}(h:mL g w r o v):mL g' w' r o v:=⟨le.κ _ _ h.1,le.cell _ _ _ h.1 h.2⟩
theorem o9.mono {g g':Ctx}{w w':World}(le:Le g w g' w'){k:SK}{r o len cap n:Nat}(h:o9 g k r o len cap n):o9 g' k r o len cap n:=by
 cases k with
 | nil=>exact h
 | arg=>exact h
 | full=>exact h
 | own t e=>exact⟨le.π _ _ _ h.1,h.2⟩
theorem VR.mono {g g':Ctx}{w w':World}(le:Le g w g' w'){t:T}{v:Value}(h:VR g w t v):VR g' w' t v:=by
 induction h with
 | int k n=>exact .int k n
 | bool b=>exact .bool b
 | str s=>exact .str s
 | aL=>exact .aL
 | ptr h=>exact .ptr (le.φ _ _ h)
 | cF a7 h1 _ ih=>exact .cF a7 (fun j t e=>⟨(h1 j t e).1,(h1 j t e).2.mono le⟩) ih
 | b9=>exact .b9
 | map h=>exact .map (le.φ _ _ h)
 | slnil=>exact .slnil
 | dq a=>exact .dq a
 | sl a7 hk hc hn h1 _ ih=>exact .sl a7 (hk.mono le) hc hn (fun i j c t a b=>⟨(h1 i j c t a b).1,(h1 i j c t a b).2.mono le⟩) ih
 | aQ h hc hq=>exact .aQ (le.φ _ _ h) hc hq
 | bU h hc hq=>exact .bU (le.φ _ _ h) hc hq
 | dv=>exact .dv
 | fn hl _ ih=>exact .fn hl ih
 | gY h=>exact .gY (le.φ _ _ h)
 | cG=>exact .cG
 | agg hl h1 _ ih=>exact .agg hl h1 ih
 | bo hl _ ih=>exact .bo hl ih
theorem VR.erase {g:Ctx}{w:World}{t:T}{v:Value}(h:VR g w t v):VR g w t.erase v:=by
 cases h with
 | sl a7 hk hc hn h1 h2=>exact .sl a7 trivial hc hn h1 h2
 | slnil=>exact .dq none
 | dq a=>exact .dq a
 | int k n=>exact .int k n
 | bool b=>exact .bool b
 | str s=>exact .str s
 | aL=>exact .aL
 | ptr h=>exact .ptr h
 | cF a7 h1 h2=>exact .cF a7 h1 h2
 | b9=>exact .b9
 | map h=>exact .map h
 | aQ h hc hq=>exact .aQ h hc hq
 | bU h hc hq=>exact .bU h hc hq
 | dv=>exact .dv
 | fn hl h=>exact .fn hl h
 | gY h=>exact .gY h
 | cG=>exact .cG
 | agg hl h1 h2=>exact .agg hl h1 h2
 | bo hl h2=>exact .bo hl h2
theorem pa (t:T):t.erase.one=t.one:=by cases t<;>rfl
theorem VR.dr {g:Ctx}{w:World}{t:T}{v:Value}(h:VR g w t v)(ho:t.one=true):v.oneCell'=true:=by
 cases h<;>simp_all [T.one,Value.oneCell']
def gZ (g:Ctx)(w:World)(b:Nat)(cs:List T)(r o q:Nat):Prop :=
 o+cs.length≤q∧(∀j,o≤j→j<q→g.κ r j=.mut b∧(∀j0,w.frozen? ⟨r,j0,none⟩=false)∧(w.cell? ⟨r,j,none⟩).isSome=true) ∧
 ∀(i:Nat) (t:T),cs[i]?=some t→t.one=true∧∃v,w.cell? ⟨r,o+i,none⟩=some v∧VR g w t v
def um (g:Ctx)(w:World)(cs:List T)(r o q:Nat):Prop :=
 o+cs.length≤q∧∀(i:Nat) (t:T),cs[i]?=some t→t.one=true∧∃v,mL g w r (o+i) v∧VR g w t v
def bB (g:Ctx)(w:World)(es:List (T×T))(ah:Array MapEntry):Prop :=
 ah.size=es.length∧∀(i:Nat) (e:T×T) (m:MapEntry),es[i]?=some e→ah[i]?=some m→VR g w e.1 m.key∧VR g w e.2 m.val
def bW (ah:Array MapEntry)(clock:Nat):Prop:=(∀m∈ah.toList,m.born<clock)∧(ah.toList.map (·.born)).Nodup
def uo (ah:Array MapEntry)(seen:Array Nat)(ix:List Nat)(cur:Option Nat):Prop :=
 ix.Nodup∧(∀i,i∈ix↔∃m,ah[i]?=some m∧m.born∉seen)∧∀c,cur=some c→∃m,ah[c]?=some m∧seen.back?=some m.born
def Ay (g:Ctx)(w:World)(t e:Nat):Prop :=
 ∃r p q,g.π t e=some (r,p,q)∧p≤q∧(∀j,p≤j→j<q→g.κ r j=.spare t∧(∀j0,w.frozen? ⟨r,j0,none⟩=false)∧(w.cell? ⟨r,j,none⟩).isSome=true)∧∀e',e<e'→g.π t e'=none
def qa.real:qa→LoopState
 | .ready=>.ready
 | .busy=>.busy
 | .done=>.done
def lp:Option Ex→Option Code
 | some .ret=>some .ret
 | some (.exit id)=>some (.exit id)
 | _=>none
def kx (g:Ctx)(w:World)(st:qa)(bz:Option Ex)(n:Nat)(R:Nat→T)(ps:List Nat)(bh body:C)(rec:Loop):Prop :=
 rec.state=st.real∧rec.pending=lp bz∧rec.params.toList=ps∧rec.tmps.size=n∧(∀t,t<n→VR g w (R t) (rec.tmps.getD t undef))∧(∀p∈ps,p<n)∧g.ck n bh rec.assign∧g.ck n body rec.body
def lq (g:Ctx)(w:World)(b:Nat):B→Prop
 | .cells cs=>∀r o q,g.φ b=some (r,o,q)→gZ g w b cs r o q
 | .map es=>∀r o q,g.φ b=some (r,o,q)→g.κ r 0=.mut b∧∃ah clock,w.heap[r]?=some (.map ah clock)∧bB g w es ah∧bW ah clock
 | .tok e=>Ay g w b e
 | .loop st bz n R ps bh body=>∀r o q,g.φ b=some (r,o,q)→g.κ r 0=.mut b∧∃rec,w.heap[r]?=some (.loop rec)∧kx g w st bz n R ps bh body rec
 | .lj=>∀r o q,g.φ b=some (r,o,q)→g.κ r 0=.mut b∧w.heap[r]?=some (.deferred (some []))
 | .dead=>True
 | .ct es ix bi cur=>∃r o q,g.φ b=some (r,o,q)∧g.κ r 0=.mut b∧∃ah clock,w.heap[r]?=some (.map ah clock)∧bB g w es ah∧bW ah clock ∧
   ∃ri q' seen,g.φ bi=some (ri,0,q')∧g.κ ri 0=.mut b∧w.heap[ri]?=some (.mapIter (some r) clock seen clock)∧uo ah seen ix cur
 | .pZ _=>True
 | .lit cs=>∃r q,g.φ b=some (r,0,q)∧g.κ r q=.mut b∧(∀j,j≠q→g.κ r j=.cI)∧∃c t,w.heap[r]?=some (.cells c t)∧c.size=q∧cs.length=q ∧
   ∀(i:Nat) (t:T),cs[i]?=some t→t.one=true∧∃v,c[i]?=some v∧VR g w t v
 | .fz cs=>∀r o q,g.φ b=some (r,o,q)→um g w cs r o q
structure SR (w0:World)(g:Ctx)(H:aa)(w:World):Prop where
 size:w0.heap.size≤w.heap.size
 er:∀r,r<w0.heap.size→w.heap[r]?=w0.heap[r]?
 pb:∀r o,r<w0.heap.size→g.κ r o=.cI
 fresh:∀r o,w.heap.size≤r→g.κ r o=.free
 gG:∀b x,g.φ b=some x→b<H.length
 cd:∀t e x,g.π t e=some x→t<H.length
 dy:∀b x,H[b]?=some x→lq g w b x
 env:w.os=w0.os∧w.output=w0.output
def cw:Obj→Bool
 | .map _ _ | .loop _ | .deferred _ | .mapIter _ _ _ _=>true
 | _=>false
structure D8 (w w':World)(S:Nat→Nat→Prop)(M:Nat→Prop):Prop where
 size:w.heap.size≤w'.heap.size
 cell:∀r j,r<w.heap.size→¬S r j→w'.cell? ⟨r,j,none⟩=w.cell? ⟨r,j,none⟩
 fj:∀r j,r<w.heap.size→(w.cell? ⟨r,j,none⟩).isSome=true→(w'.cell? ⟨r,j,none⟩).isSome=true
 maps:∀r x,¬M r→cw x=true→w.heap[r]?=some x→w'.heap[r]?=some x
 er:∀r,r<w.heap.size→¬M r→(∀j,¬S r j)→w'.heap[r]?=w.heap[r]?
 env:w'.os=w.os∧w'.output=w.output
structure Tr (w w':World)(S:Nat→Nat→Prop)(M:Nat→Prop):Prop extends D8 w w' S M where
 p0:∀r j,r<w.heap.size→w'.frozen? ⟨r,j,none⟩=w.frozen? ⟨r,j,none⟩
theorem dQ {w:World}{r j:Nat}{v:Value}(h:w.cell? ⟨r,j,none⟩=some v):r<w.heap.size:=by
 unfold World.cell? at h
 cases hr:w.heap[r]? with
 | none=>simp[hr]at h
 | some x=>exact(Array.getElem?_eq_some_iff.1 hr).1
theorem gZ.mono {g g':Ctx}{w w':World}{b:Nat}{cs:List T}{r o q:Nat}(h:gZ g w b cs r o q)(le:Le g w g' w')
  (hκ:∀j,o≤j→j<q→g'.κ r j=.mut b) (hf:∀j,o≤j→j<q→(∀j0,w'.frozen? ⟨r,j0,none⟩=w.frozen? ⟨r,j0,none⟩)∧w'.cell? ⟨r,j,none⟩=w.cell? ⟨r,j,none⟩):gZ g' w' b cs r o q:=by
 obtain⟨h1,h2,h3⟩:=h
 refine⟨h1,fun j hj hq=>⟨hκ j hj hq,fun j0=>by rw[(hf j hj hq).1];exact(h2 j hj hq).2.1 j0,by rw[(hf j hj hq).2];exact(h2 j hj hq).2.2⟩,fun i t hi=>?_⟩
 have aD:i<cs.length:=(List.getElem?_eq_some_iff.1 hi).1
 obtain⟨h4,v,h5,h6⟩:=h3 i t hi
 exact⟨h4,v,by rw[(hf (o+i) (by omega) (by omega)).2];exact h5,h6.mono le⟩
theorem um.mono {g g':Ctx}{w w':World}{cs:List T}{r o q:Nat}(h:um g w cs r o q)(le:Le g w g' w'):um g' w' cs r o q :=
 ⟨h.1,fun i t hi=>let ⟨a,v,b,c⟩:=h.2 i t hi;⟨a,v,b.mono le,c.mono le⟩⟩
theorem bB.mono {g g':Ctx}{w w':World}{es:List (T×T)}{ah:Array MapEntry}(h:bB g w es ah)(le:Le g w g' w'):bB g' w' es ah :=
 ⟨h.1,fun i e m a b=>⟨(h.2 i e m a b).1.mono le,(h.2 i e m a b).2.mono le⟩⟩
theorem kx.mono {g g':Ctx}{w w':World}{st:qa}{bz:Option Ex}{n:Nat}{R:Nat→T}{ps:List Nat}{bh body:C}{rec:Loop}(h:kx g w st bz n R ps bh body rec)(le:Le g w g' w'):kx g' w' st bz n R ps bh body rec:=by
 obtain⟨h1,h2,h3,h4,h5,h6,h7,h8⟩:=h
 exact⟨h1,h2,h3,h4,fun t ht=>(h5 t ht).mono le,h6,by rw[le.ck];exact h7,by rw[le.ck];exact h8⟩
theorem SR.wH {w0 w w':World}{g g':Ctx}{H H':aa}(h:SR w0 g H w)(lr:Nat→Prop){S:Nat→Nat→Prop}{M:Nat→Prop}(tr:D8 w w' S M)
  (DC:∀r j j0 b,r<w.heap.size→¬lr b→g.κ r j=.mut b∨g.κ r j=.spare b→w'.frozen? ⟨r,j0,none⟩=w.frozen? ⟨r,j0,none⟩) (le:Le g w g' w')
  (hS:∀r j,S r j→g.κ r j=.free∨(∃b,g.κ r j=.mut b∧lr b)∨∃b,g.κ r j=.spare b∧lr b) (hM:∀r,M r→∃b,g.κ r 0=.mut b∧lr b)
  (mV:∀r o,w'.heap.size≤r→g'.κ r o=.free) (yK:∀b x,g'.φ b=some x→b<H'.length) (qj:∀t e x,g'.π t e=some x→t<H'.length)
  (kφ:∀b,b<H.length→¬lr b→g'.φ b=g.φ b) (kκ:∀r j b,¬lr b→(g.κ r j=.mut b→g'.κ r j=.mut b)∧(g.κ r j=.spare b→g'.κ r j=.spare b))
  (kπ:∀t e,t<H.length→¬lr t→g'.π t e=g.π t e)
  (hb:∀b x,H'[b]?=some x→(¬lr b∧H[b]?=some x)∨lq g' w' b x):SR w0 g' H' w':=by
 have nS:∀r j,r<w0.heap.size→¬S r j:=by
  intro r j hr hs
  have:=h.pb r j hr
  rcases hS r j hs with e|⟨b,e,_⟩|⟨b,e,_⟩<;>simp[this]at e
 have nM:∀r,r<w0.heap.size→¬M r:=by
  intro r hr hm
  have:=h.pb r 0 hr
  obtain⟨b,e,_⟩:=hM r hm
  simp[this]at e
 refine⟨Nat.le_trans h.size tr.size,fun r hr=>?_,fun r o hr=>le.κ _ _ (h.pb r o hr),mV,yK,qj,fun b x hx=>?_,tr.env.1.trans h.env.1,tr.env.2.trans h.env.2⟩
 ·rw[tr.er r (Nat.lt_of_lt_of_le hr h.size) (nM r hr) (fun j=>nS r j hr)]
  exact h.er r hr
 ·rcases hb b x hx with⟨nt,GM⟩|lu
  ·have aD:b<H.length:=(List.getElem?_eq_some_iff.1 GM).1
   have hk:=h.dy b x GM
   have D9:∀r j,g.κ r j=.mut b∨g.κ r j=.spare b→¬S r j:=by
    intro r j hm hs
    rcases hS r j hs with e|⟨b',e,ht⟩|⟨b',e,ht⟩<;>rcases hm with hm|hm<;>simp[hm]at e
    ·exact nt (e▸ht)
    ·exact nt (e▸ht)
   cases x with
   | cells cs =>
    intro r o q hφ
    have dR:g.φ b=some (r,o,q):=by rw[←kφ b aD nt];exact hφ
    have hc:=hk r o q dR
    refine hc.mono le (fun j a c=>(kκ r j b nt).1 (hc.2.1 j a c).1) fun j a c=>?_
    have hh:=hc.2.1 j a c
    have hr:r<w.heap.size:=by
     cases hv:w.cell? ⟨r,j,none⟩with
     | none=>simp[hv]at hh
     | some v=>exact dQ hv
    exact⟨fun j0=>DC r j j0 b hr nt (.inl hh.1),tr.cell r j hr (D9 r j (.inl hh.1))⟩
   | map es =>
    intro r o q hφ
    have dR:g.φ b=some (r,o,q):=by rw[←kφ b aD nt];exact hφ
    obtain⟨h1,ah,c,h2,h3⟩:=hk r o q dR
    refine⟨(kκ r 0 b nt).1 h1,ah,c,tr.maps r _ (fun hm=>?_) rfl h2,h3.1.mono le,h3.2⟩
    obtain⟨b',e,ht⟩:=hM r hm
    rw[h1]at e;cases e;exact nt ht
   | ct es ix bi cur =>
    obtain⟨r,o,q,hφ,h1,ah,c,h2,h3,h4,ri,q',seen,h5,h6,h7,h8⟩:=hk
    refine⟨r,o,q,le.φ _ _ hφ,(kκ r 0 b nt).1 h1,ah,c,tr.maps r _ (fun hm=>?_) rfl h2,h3.mono le,h4,ri,q',seen,le.φ _ _ h5,(kκ ri 0 b nt).1 h6,tr.maps ri _ (fun hm=>?_) rfl h7,h8⟩
    ·obtain⟨b',e,ht⟩:=hM r hm
     rw[h1]at e;cases e;exact nt ht
    ·obtain⟨b',e,ht⟩:=hM ri hm
     rw[h6]at e;cases e;exact nt ht
   | pZ _=>trivial
   | lit cs =>
    obtain⟨r,q,hφ,h1,h2,c,ty,h3,h4,h5,h6⟩:=hk
    have hr:r<w.heap.size:=(Array.getElem?_eq_some_iff.1 h3).1
    have tU:∀j,¬S r j:=by
     intro j hs
     by_cases hj:j=q
     ·subst hj;exact D9 r j (.inl h1) hs
     ·have:=h2 j hj
      rcases hS r j hs with e|⟨b',e,_⟩|⟨b',e,_⟩<;>simp[this]at e
    have Hz:¬M r:=by
     intro hm
     obtain⟨b',e,ht⟩:=hM r hm
     by_cases hj:0=q
     ·subst hj;rw[h1]at e;cases e;exact nt ht
     ·rw[h2 0 hj]at e;cases e
    exact⟨r,q,le.φ _ _ hφ,(kκ r q b nt).1 h1,fun j hj=>le.κ _ _ (h2 j hj),c,ty,by rw[tr.er r hr Hz tU];exact h3,h4,h5,fun i t hi=>let ⟨a,v,b1,b2⟩:=h6 i t hi;⟨a,v,b1,b2.mono le⟩⟩
   | fz cs =>
    intro r o q hφ
    exact(hk r o q (by rw[←kφ b aD nt];exact hφ)).mono le
   | tok e =>
    obtain⟨r,p,q,h1,h2,h3,h4⟩:=hk
    refine⟨r,p,q,le.π _ _ _ h1,h2,fun j a c=>?_,fun e' he=>by rw[kπ b e' aD nt];exact h4 e' he⟩
    have hh:=h3 j a c
    have hr:r<w.heap.size:=by
     cases hv:w.cell? ⟨r,j,none⟩with
     | none=>simp[hv]at hh
     | some v=>exact dQ hv
    exact⟨(kκ r j b nt).2 hh.1,fun j0=>by rw[DC r j j0 b hr nt (.inr hh.1)];exact hh.2.1 j0,by rw[tr.cell r j hr (D9 r j (.inr hh.1))];exact hh.2.2⟩
   | loop st bz n R ps bh body =>
    intro r o q hφ
    have dR:g.φ b=some (r,o,q):=by rw[←kφ b aD nt];exact hφ
    obtain⟨h1,rec,h2,h3⟩:=hk r o q dR
    refine⟨(kκ r 0 b nt).1 h1,rec,tr.maps r _ (fun hm=>?_) rfl h2,h3.mono le⟩
    obtain⟨b',e,ht⟩:=hM r hm
    rw[h1]at e;cases e;exact nt ht
   | lj =>
    intro r o q hφ
    have dR:g.φ b=some (r,o,q):=by rw[←kφ b aD nt];exact hφ
    obtain⟨h1,h2⟩:=hk r o q dR
    refine⟨(kκ r 0 b nt).1 h1,tr.maps r _ (fun hm=>?_) rfl h2⟩
    obtain⟨b',e,ht⟩:=hM r hm
    rw[h1]at e;cases e;exact nt ht
   | dead=>trivial
  ·exact lu
theorem SR.step {w0 w w':World}{g g':Ctx}{H H':aa}(h:SR w0 g H w)(lr:Nat→Prop){S:Nat→Nat→Prop}{M:Nat→Prop}(tr:Tr w w' S M)(le:Le g w g' w')
  (hS:∀r j,S r j→g.κ r j=.free∨(∃b,g.κ r j=.mut b∧lr b)∨∃b,g.κ r j=.spare b∧lr b) (hM:∀r,M r→∃b,g.κ r 0=.mut b∧lr b)
  (mV:∀r o,w'.heap.size≤r→g'.κ r o=.free) (yK:∀b x,g'.φ b=some x→b<H'.length) (qj:∀t e x,g'.π t e=some x→t<H'.length)
  (kφ:∀b,b<H.length→¬lr b→g'.φ b=g.φ b) (kκ:∀r j b,¬lr b→(g.κ r j=.mut b→g'.κ r j=.mut b)∧(g.κ r j=.spare b→g'.κ r j=.spare b))
  (kπ:∀t e,t<H.length→¬lr t→g'.π t e=g.π t e)
  (hb:∀b x,H'[b]?=some x→(¬lr b∧H[b]?=some x)∨lq g' w' b x):SR w0 g' H' w' :=
 h.wH lr ⟨tr.size,tr.cell,tr.fj,tr.maps,tr.er,tr.env⟩ (fun r _ j0 _ hr _ _=>tr.p0 r j0 hr) le hS hM mV yK qj kφ kκ kπ hb
def Fr (g:Ctx)(H:aa)(g':Ctx)(H':aa):Prop :=
 H.length≤H'.length∧∀b x,H[b]?=some x→(∀e,x≠.tok e)→g.φ b=none→H'[b]?=some x∧g'.φ b=none
theorem Fr.refl (g:Ctx)(H:aa):Fr g H g H:=⟨Nat.le_refl _,fun _ _ h _ k=>⟨h,k⟩⟩
theorem Fr.trans {g g' Aw:Ctx}{H H' GN:aa}(h:Fr g H g' H')(h':Fr g' H' Aw GN):Fr g H Aw GN :=
 ⟨Nat.le_trans h.1 h'.1,fun b x a c d=>let ⟨e,f⟩:=h.2 b x a c d;h'.2 b x e c f⟩
def aG (P:Program)(w0:World)(g:Ctx)(H:aa)(w:World)(s:Sem Value)(t:T)(H':aa):Prop :=
 ∃v w' g',s.run P w=.ok v w'∧Le g w g' w'∧SR w0 g' H' w'∧VR g' w' t v∧Fr g H g' H'
theorem aG.same {P:Program}{w0:World}{g:Ctx}{H:aa}{w:World}{s:Sem Value}{t:T}{v:Value}(h:SR w0 g H w)(hr:s.run P w=.ok v w)(hv:VR g w t v):aG P w0 g H w s t H :=
 ⟨v,w,g,hr,.refl _ _,h,hv,.refl _ _⟩
def ay (g:Ctx)(w:World)(ts:List T)(vs:List Value):Prop:=ts.length=vs.length∧∀(i:Nat) (t:T) (v:Value),ts[i]?=some t→vs[i]?=some v→VR g w t v
theorem ay.mono {g g':Ctx}{w w':World}(le:Le g w g' w'){ts:List T}{vs:List Value}(h:ay g w ts vs):ay g' w' ts vs:=⟨h.1,fun i t v a b=>(h.2 i t v a b).mono le⟩
theorem ay.nil {g:Ctx}{w:World}:ay g w [] []:=⟨rfl,fun i t v h=>by simp at h⟩
theorem ay.cons {g:Ctx}{w:World}{t:T}{v:Value}{ts:List T}{vs:List Value}(h:VR g w t v)(hs:ay g w ts vs):ay g w (t :: ts) (v :: vs) :=
 ⟨by simp[hs.1],fun i a b ha hb=>by
  cases i with
  | zero=>simp at ha hb;subst ha;subst hb;exact h
  | succ i=>exact hs.2 i a b (by simpa using ha) (by simpa using hb)⟩
theorem ay.head {g:Ctx}{w:World}{t:T}{v:Value}{ts:List T}{vs:List Value}(h:ay g w (t :: ts) (v :: vs)):VR g w t v:=h.2 0 t v rfl rfl
theorem ay.tail {g:Ctx}{w:World}{t:T}{v:Value}{ts:List T}{vs:List Value}(h:ay g w (t :: ts) (v :: vs)):ay g w ts vs :=
 ⟨by have:=h.1;simpa using this,fun i a b ha hb=>h.2 (i+1) a b (by simpa using ha) (by simpa using hb)⟩
theorem ay.append {g:Ctx}{w:World}{ts yL:List T}{vs Ab:List Value}(h:ay g w ts vs)(h':ay g w yL Ab):ay g w (ts++yL) (vs++Ab):=by
 refine⟨by simp[h.1,h'.1],fun i t v ha hb=>?_⟩
 rw[List.getElem?_append]at ha hb
 rw[←h.1]at hb
 split at ha
 ·rename_i hi;rw[if_pos hi]at hb;exact h.2 i t v ha hb
 ·rename_i hi;rw[if_neg hi]at hb;exact h'.2 _ t v ha hb
theorem ay.take {g:Ctx}{w:World}{ts:List T}{vs:List Value}(n:Nat)(h:ay g w ts vs):ay g w (ts.take n) (vs.take n) :=
 ⟨by simp[h.1],fun i t v ha hb=>by
  rw[List.getElem?_take]at ha hb
  split at ha
  ·rename_i hi;rw[if_pos hi]at hb;exact h.2 i t v ha hb
  ·simp at ha⟩
theorem ay.drop {g:Ctx}{w:World}{ts:List T}{vs:List Value}(n:Nat)(h:ay g w ts vs):ay g w (ts.drop n) (vs.drop n) :=
 ⟨by simp[h.1],fun i t v ha hb=>by
  rw[List.getElem?_drop]at ha hb
  exact h.2 _ t v ha hb⟩
def aS (cs:List T):Prop:=∀t∈cs,t.one=true
theorem ay.dr {g:Ctx}{w:World}{ts:List T}{vs:List Value}(h:ay g w ts vs)(ho:aS ts):∀v∈vs,v.oneCell'=true:=by
 intro v hv
 obtain⟨i,hi,rfl⟩:=List.getElem_of_mem hv
 have fW:i<ts.length:=by rw[h.1];exact hi
 exact(h.2 i ts[i] vs[i] (List.getElem?_eq_getElem fW) (List.getElem?_eq_getElem hi)).dr (ho _ (List.getElem_mem fW))
theorem a8 (r o j:Nat):(⟨r,o,none⟩:Addr).add j=⟨r,o+j,none⟩:=by
 unfold Addr.add;split<;>simp_all
theorem ib {w:World}{r o:Nat}:∀(n:Nat) (f:Nat→Value),(∀j,j<n→w.cell? ⟨r,o+j,none⟩=some (f j))→∀(j:Nat) (v:Value),((List.range n).map f)[j]?=some v→w.cell? ⟨r,o+j,none⟩=some v:=by
 intro n f h j v hv
 have hj:j<n:=by
  have:=(List.getElem?_eq_some_iff.1 hv).1
  simpa using this
 rw[h j hj]
 simp[hj]at hv
 rw[hv]
theorem fk {w0 w:World}{g:Ctx}{H:aa}{n:Nat}{p:T}{vp:Value}{cs:List T}(h:SR w0 g H w)(hv:VR g w p vp)(he:gF H n p=some cs) :
  ∃r o vs,vp=.pointer (some ⟨r,o,none⟩)∧vs.length=n∧(∀(j:Nat) (v:Value),vs[j]?=some v→w.cell? ⟨r,o+j,none⟩=some v)∧ay g w cs vs∧aS cs:=by
 cases hv with
 | @ptr b off r o q hφ =>
  have main:∀mM:List T,(∀(i:Nat) (t:T),mM[i]?=some t→t.one=true∧∃v,w.cell? ⟨r,o+i,none⟩=some v∧VR g w t v)→(if off+n≤mM.length then some ((mM.drop off).take n)else none)=some cs →
    ∃r' o' vs,(Value.pointer (some ⟨r,o+off,none⟩))=.pointer (some ⟨r',o',none⟩)∧vs.length=n∧(∀(j:Nat) (v:Value),vs[j]?=some v→w.cell? ⟨r',o'+j,none⟩=some v)∧ay g w cs vs∧aS cs:=by
   intro mM h3 he
   split at he
   ·rename_i hle
    simp at he
    subst he
    have key:∀j,j<n→∃t v,mM[off+j]?=some t∧t.one=true∧w.cell? ⟨r,o+off+j,none⟩=some v∧VR g w t v:=by
     intro j hj
     have aD:off+j<mM.length:=by omega
     obtain⟨a,v,b',c⟩:=h3 (off+j) mM[off+j] (List.getElem?_eq_getElem aD)
     exact⟨_,v,List.getElem?_eq_getElem aD,a,by rw[Nat.add_assoc];exact b',c⟩
    refine⟨r,o+off,(List.range n).map (fun j=>(w.cell? ⟨r,o+off+j,none⟩).getD undef),rfl,by simp,ib n _ (fun j hj=>?_),⟨by simp;omega,fun i t v ha cY=>?_⟩,fun t ht=>?_⟩
    ·obtain⟨t,v,_,_,e,_⟩:=key j hj
     simp[e]
    ·have hi:i<n:=by
      have:=(List.getElem?_eq_some_iff.1 cY).1
      simpa using this
     obtain⟨t',v',e1,e2,e3,e4⟩:=key i hi
     simp[hi]at cY
     rw[e3]at cY;simp at cY
     rw[List.getElem?_take,if_pos hi,List.getElem?_drop,e1]at ha
     simp at ha
     subst ha;subst cY;exact e4
    ·obtain⟨i,hi,rfl⟩:=List.getElem_of_mem ht
     simp at hi
     obtain⟨t',v',e1,e2,_,_⟩:=key i (by omega)
     have HA:=(List.getElem?_eq_some_iff.1 e1).2
     simp[HA,e2]
   ·simp at he
  simp only[gF]at he
  cases hb:H[b]? with
  | none=>simp[hb]at he
  | some x =>
   cases x with
   | cells mM =>
    simp only[hb]at he
    exact main mM (h.dy b _ hb r o q hφ).2.2 he
   | fz mM =>
    simp only[hb]at he
    exact main mM (fun i t hi=>let ⟨a,v,b',c⟩:=(h.dy b _ hb r o q hφ).2 i t hi;⟨a,v,b'.2,c⟩) he
   | map _=>simp[hb]at he
   | tok _=>simp[hb]at he
   | _=>simp[hb]at he
 | @cF mM r o a7 h1 h2 =>
  simp only[gF]at he
  split at he
  ·rename_i hle
   simp at he
   subst he
   have get:∀i,i<n→∃t,mM[i]?=some t:=fun i hi=>⟨mM[i]'(by omega),List.getElem?_eq_getElem _⟩
   refine⟨r,o,(List.range n).map a7,rfl,by simp,ib n _ (fun j hj=>?_),⟨by simp;omega,fun i t v ha hb=>?_⟩,fun t ht=>?_⟩
   ·obtain⟨t,e⟩:=get j hj
    exact(h1 j t e).2.2
   ·have hi:i<n:=by
     have:=(List.getElem?_eq_some_iff.1 hb).1
     simpa using this
    simp[hi]at hb
    rw[List.getElem?_take,if_pos hi]at ha
    rw[←hb];exact h2 i t ha
   ·obtain⟨i,hi,rfl⟩:=List.getElem_of_mem ht
    simp at hi
    have:mM[i]?=some mM[i]:=List.getElem?_eq_getElem _
    simp
    exact(h1 i _ this).1
  ·simp at he
 | _=>simp[gF]at he
theorem ay.agg {g:Ctx}{w:World}{cs:List T}{vs:List Value}(h:ay g w cs vs)(ho:aS cs):VR g w (.agg cs) (.agg vs.toArray) :=
 .agg (by simp[h.1]) ho (fun i t v ha hb=>h.2 i t v ha (by simpa using hb))
theorem ay.bo {g:Ctx}{w:World}{cs:List T}{vs:List Value}(h:ay g w cs vs):VR g w (.bo cs) (.tuple vs.toArray) :=
 .bo (by simp[h.1]) (fun i t v ha hb=>h.2 i t v ha (by simpa using hb))
theorem VR.cn {g:Ctx}{w:World}{cs:List T}{v:Value}(h:VR g w (.agg cs) v):∃vs:List Value,v=.agg vs.toArray∧ay g w cs vs∧aS cs:=by
 cases h with
 | @agg _ vs hl h1 h2=>exact⟨vs.toList,by simp,⟨by simp[hl],fun i t v ha hb=>h2 i t v ha (by simpa using hb)⟩,h1⟩
theorem VR.uq {g:Ctx}{w:World}{cs:List T}{v:Value}(h:VR g w (.bo cs) v):∃vs:List Value,v=.tuple vs.toArray∧ay g w cs vs:=by
 cases h with
 | @bo _ vs hl h2=>exact⟨vs.toList,by simp,⟨by simp[hl],fun i t v ha hb=>h2 i t v ha (by simpa using hb)⟩⟩
theorem dD {g:Ctx}{w:World}{t:T}{v:Value}{cs:List T}(h:VR g w t v)(hc:t.cells?=some cs):ay g w cs v.cells.toList∧aS cs:=by
 by_cases ha:∃c,t=.agg c
 ·obtain⟨c,rfl⟩:=ha
  simp[T.cells?]at hc;subst hc
  obtain⟨vs,rfl,h1,h2⟩:=h.cn
  exact⟨by simpa[Value.cells]using h1,h2⟩
 ·by_cases ht:∃c,t=.bo c
  ·obtain⟨c,rfl⟩:=ht;simp[T.cells?]at hc
  ·have e:cs=[t]:=by cases t<;>simp_all [T.cells?]
   have o:t.one=true:=by cases t<;>simp_all [T.one]
   have ev:v.cells=#[v]:=by
    have:=h.dr o
    cases v<;>simp_all [Value.cells,Value.oneCell']
   subst e
   rw[ev]
   exact⟨ay.cons h ay.nil,by simpa[aS]using o⟩
theorem ic {g:Ctx}{w:World}{cs:List T}{vs:List Value}{ag:Bool}{t:T}(h:ay g w cs vs)(ho:aS cs)(hv:valOf ag cs=some t) :
  (ag=true→VR g w t (.agg vs.toArray))∧(ag=false→∃v,vs=[v]∧VR g w t v):=by
 cases ag with
 | true=>simp[valOf]at hv;subst hv;exact⟨fun _=>h.agg ho,by simp⟩
 | false =>
  refine⟨by simp,fun _=>?_⟩
  cases cs with
  | nil=>simp[valOf]at hv
  | cons c cs =>
   cases cs with
   | nil =>
    simp[valOf]at hv;subst hv
    cases vs with
    | nil=>have:=h.1;simp at this
    | cons v vs =>
     cases vs with
     | nil=>exact⟨v,rfl,h.head⟩
     | cons _ _=>have:=h.1;simp at this
   | cons _ _=>simp[valOf]at hv
theorem au {P:Program}{w:World}{t:TypeId}{i:TypeInfo}(h:P.info? t=some i):(typeInfo t).run P w=.ok i w:=by
 simp[typeInfo,h]
def bC:TypeDesc→Bool
 | .struct _ | .array _ _=>true
 | _=>false
theorem bO {P:Program}{t:TypeId}{d:TypeDesc}(h:P.underlying t=some d)(w:World):(isAgg t).run P w=.ok (bC d) w:=by
 simp only[isAgg,Sem.run_bind,run_underlying h,Result.andThen_ok]
 cases d<;>rfl
theorem yM {P:Program}{w0 w:World}{g:Ctx}{H:aa}{n:Nat}{ag:Bool}{p t:T}{vp:Value}{cs:List T}{ty:TypeId}{d:TypeDesc}{i:TypeInfo}
  (hd:P.underlying ty=some d) (hi:P.info? ty=some i) (p3:bC d=ag) (hn:ag=true→i.size=n)
  (h:SR w0 g H w) (hv:VR g w p vp) (he:gF H n p=some cs) (ht:valOf ag cs=some t):aG P w0 g H w (Instr.loadAt ty vp) t H:=by
 obtain⟨r,o,vs,rfl,h1,h2,h3,h4⟩:=fk h hv he
 obtain⟨ha,hb⟩:=ic h3 h4 ht
 cases ag with
 | true =>
  refine aG.same h (v:=.agg vs.toArray) ?_ (ha rfl)
  have:=run_loadCells_list (P:=P) w ⟨r,o,none⟩ vs (fun j v hj=>by rw[a8];exact h2 j v hj)
  simp[Instr.loadAt,Instr.sureAddr,loadVar,bO hd,p3,sizeOf,au hi,hn rfl,←h1,this]
 | false =>
  obtain⟨v,rfl,bS⟩:=hb rfl
  refine aG.same h (v:=v) ?_ bS
  have:=h2 0 v rfl
  simp at this
  simp[Instr.loadAt,Instr.sureAddr,loadVar,bO hd,p3,run_load,this]
theorem ur {P:Program}{w0 w:World}{g:Ctx}{H:aa}{n:Nat}{ag:Bool}{p t:T}{vp:Value}{cs:List T}{ty:TypeId}{d:TypeDesc}{i:TypeInfo}
  (hd:P.underlying ty=some d) (hi:P.info? ty=some i) (p3:bC d=ag) (hn:ag=true→i.size=n)
  (h:SR w0 g H w) (hv:VR g w p vp) (he:gF H n p=some cs) (ht:valOf ag cs=some t):∃v w' g',(Instr.loadAt ty vp).run P w=.ok v w'∧w'=w∧VR g' w t v∧g'=g:=by
 obtain⟨r,o,vs,rfl,h1,h2,h3,h4⟩:=fk h hv he
 obtain⟨ha,hb⟩:=ic h3 h4 ht
 cases ag with
 | true =>
  refine⟨.agg vs.toArray,w,g,?_,rfl,ha rfl,rfl⟩
  have:=run_loadCells_list (P:=P) w ⟨r,o,none⟩ vs (fun j v hj=>by rw[a8];exact h2 j v hj)
  simp[Instr.loadAt,Instr.sureAddr,loadVar,bO hd,p3,sizeOf,au hi,hn rfl,←h1,this]
 | false =>
  obtain⟨v,rfl,bS⟩:=hb rfl
  refine⟨v,w,g,?_,rfl,bS,rfl⟩
  have:=h2 0 v rfl
  simp at this
  simp[Instr.loadAt,Instr.sureAddr,loadVar,bO hd,p3,run_load,this]
section
variable {P:Program} {w:World} {op:BinOp} {ty:TypeId} {x y:Operand}
theorem jz {k k':IntKind}{a b:Int}:(eqGuard op ty x y (.int k a) (.int k' b)).run P w=.ok () w:=by cases op<;>rfl
theorem jA {a b:ByteArray}:(eqGuard op ty x y (.string a) (.string b)).run P w=.ok () w:=by cases op<;>rfl
theorem dS {a b:Bool}:(eqGuard op ty x y (.bool a) (.bool b)).run P w=.ok () w:=by cases op<;>rfl
theorem pc {a b:Option Addr}:(eqGuard op ty x y (.pointer a) (.pointer b)).run P w=.ok () w:=by cases op<;>rfl
theorem lx {a b:Option Addr}{c d e f:Nat}:(eqGuard op ty x y (.slice a c d) (.slice b e f)).run P w=.ok () w:=by cases op<;>rfl
theorem pd {a b:Option Nat}:(eqGuard op ty x y (.map a) (.map b)).run P w=.ok () w:=by cases op<;>rfl
theorem qk {f:Go.Fn}{a b:Array Value}:(eqGuard op ty x y (.func f a b) .nilFunc).run P w=.ok () w:=by cases op<;>rfl
theorem ql {f:Go.Fn}{a b:Array Value}:(eqGuard op ty x y .nilFunc (.func f a b)).run P w=.ok () w:=by cases op<;>rfl
theorem qm:(eqGuard op ty x y .nilFunc .nilFunc).run P w=.ok () w:=by cases op<;>rfl
end
section
variable {P:Program} {w:World} {ty:TypeId}
theorem jB (n:Nat)(h:P.underlying ty=some .bool)(a b:Bool):(Op.equalIn (n+1) ty (.bool a) (.bool b)).run P w=.ok (a==b) w:=by
 rw[Op.equalIn];simp only[Sem.run_bind,run_underlying h,Result.andThen_ok];rfl
theorem qn (n:Nat){k:IntKind}(h:P.underlying ty=some (.int k))(a b:Int)(k':IntKind):(Op.equalIn (n+1) ty (.int k' a) (.int k' b)).run P w=.ok (a==b) w:=by
 rw[Op.equalIn];simp only[Sem.run_bind,run_underlying h,Result.andThen_ok];simp
theorem qo (n:Nat)(h:P.underlying ty=some .string)(a b:ByteArray):(Op.equalIn (n+1) ty (.string a) (.string b)).run P w=.ok (a==b) w:=by
 rw[Op.equalIn];simp only[Sem.run_bind,run_underlying h,Result.andThen_ok];rfl
theorem cy {x y:Value}{b:Bool}(h:∀n,(Op.equalIn (n+1) ty x y).run P w=.ok b w):(Op.equal ty x y).run P w=.ok b w:=h 9999
theorem ie (h:P.underlying ty=some .bool)(a b:Bool):(Op.equal ty (.bool a) (.bool b)).run P w=.ok (a==b) w:=cy fun n=>jB n h a b
end
theorem uu {P:Program}{w0 w:World}{g:Ctx}{H:aa}{op:BinOp}{x y t:T}{vx vy:Value}{ty:TypeId}{ox oy:Operand}
  (h:SR w0 g H w) (hx:VR g w x vx) (hy:VR g w y vy) (he:aO op x y=some t):aG P w0 g H w (do eqGuard op ty ox oy vx vy;binOp op ty vx vy) t H:=by
 cases hx<;>cases hy<;>(try (simp[aO]at he;done))
 case int.int k a k' b =>
  have key:∃v,(binOp op ty (.int k a) (.int k' b)).run P w=.ok v w∧VR g w t v:=by
   cases op<;>simp only[aO]at he<;>(repeat' (split at he))<;>(try (simp at he;done)) <;>
    (simp at he;subst he;first
     | (refine⟨_,?_,.int _ _⟩;simp_all [binOp,Op.shift,Op.intArith,Op.intDiv,Op.intBits,Op.intCmp];done)
     | (refine⟨_,?_,.int _ _⟩;rename_i hs;simp only[binOp,Op.shift,if_neg hs,Sem.run_pure];done)
     | (refine⟨_,?_,.bool _⟩;simp_all [binOp,Op.shift,Op.intArith,Op.intDiv,Op.intBits,Op.intCmp];done))
  obtain⟨v,hr,hv⟩:=key
  refine aG.same h (v:=v) ?_ hv
  simp[jz,jA,dS,hr]
 case str.str a b =>
  have key:∃v,(binOp op ty (.string a) (.string b)).run P w=.ok v w∧VR g w t v:=by
   cases op<;>simp only[aO]at he<;>(repeat' (split at he))<;>(try (simp at he;done)) <;>
    (simp at he;subst he;first
     | (refine⟨_,?_,.str _⟩;rename_i hs;simp[binOp,Op.stringOp,IntKind.max,IntKind.signed,IntKind.bits];omega)
     | (refine⟨_,?_,.bool _⟩;simp[binOp,Op.stringOp,dm,strLt];done))
  obtain⟨v,hr,hv⟩:=key
  refine aG.same h (v:=v) ?_ hv
  simp[jz,jA,dS,hr]
theorem uv {P:Program}{w0 w:World}{g:Ctx}{H:aa}{neg:Bool}{a b:Bool}{vx vy:Value}{ty:TypeId}{ox oy:Operand}(hu:P.underlying ty=some .bool)
  (h:SR w0 g H w) (hx:VR g w (.bool a) vx) (hy:VR g w (.bool b) vy) :
  aG P w0 g H w (do eqGuard (if neg then .neq else .eql) ty ox oy vx vy;binOp (if neg then .neq else .eql) ty vx vy) (.bool (if neg then !(a==b)else a==b)) H:=by
 cases hx;cases hy
 cases neg
 ·refine aG.same h (v:=.bool (a==b)) ?_ (.bool _)
  simp only[Bool.false_eq_true,if_false,Sem.run_bind,dS,Result.andThen_ok,binOp,ie hu,Sem.run_pure]
 ·refine aG.same h (v:=.bool (!(a==b))) ?_ (.bool _)
  simp only[if_true,Sem.run_bind,dS,Result.andThen_ok,binOp,ie hu,Sem.run_pure]
def qp:ue→TypeDesc→Bool
 | .ptr,.pointer _ | .slice,.slice _ | .map,.map _ _ | .func,.func _ _ _=>true
 | _,_=>false
theorem lz {g:Ctx}{w:World}{c:ue}{x:T}{vx:Value}{b:Bool}(hx:VR g w x vx)(h:ll c x=some b) :
  match c with
  | .ptr=>∃a:Option Addr,vx=.pointer a∧a.isNone=b
  | .slice=>∃(a:Option Addr) (l p:Nat),vx=.slice a l p∧a.isNone=b
  | .map=>∃r:Option Nat,vx=.map r∧r.isNone=b
  | .func=>(b=true∧vx=.nilFunc)∨(b=false∧∃f vs,vx=.func f #[] vs):=by
 cases c<;>cases hx<;>first
  | (change (none:Option Bool)=some b at h;simp at h;done)
  | (change some true=some b at h;simp at h;subst h;simp;done)
  | (change some false=some b at h;simp at h;subst h;simp;done)
  | skip
 case slice.sl k es r o cap n a7 hk hc hn h1 h2 =>
  have hb:b=false:=by
   cases k
   ·exact hk.elim
   ·cases es with
    | nil=>change (none:Option Bool)=some b at h;simp at h
    | cons _ _=>change some false=some b at h;simpa using h.symm
   ·change some false=some b at h;simpa using h.symm
   ·change some false=some b at h;simpa using h.symm
  subst hb
  exact⟨_,_,_,rfl,rfl⟩
theorem uw {P:Program}{w0 w:World}{g:Ctx}{H:aa}{neg:Bool}{c:ue}{x y:T}{b:Bool}{vx vy:Value}{ty:TypeId}{ox oy:Operand}{d:TypeDesc}
  (hu:P.underlying ty=some d) (hc:qp c d=true)
  (h:SR w0 g H w) (hx:VR g w x vx) (hy:VR g w y vy) (he:qb c x y=some b) :
  aG P w0 g H w (do eqGuard (if neg then .neq else .eql) ty ox oy vx vy;binOp (if neg then .neq else .eql) ty vx vy) (.bool (if neg then !b else b)) H:=by
 have key:(∀op,(eqGuard op ty ox oy vx vy).run P w=.ok () w)∧(Op.equal ty vx vy).run P w=.ok b w∧∀neg:Bool,(binOp (if neg then .neq else .eql) ty vx vy).run P w=((Op.equal ty vx vy).run P w).andThen fun b w'=>.ok (.bool (if neg then !b else b)) w':=by
  unfold qb at he
  cases yN:ll c x with
  | none=>simp[yN]at he
  | some bx =>
   cases GO:ll c y with
   | none=>cases bx<;>simp[yN,GO]at he
   | some bY =>
    have e:b=(bx&&bY)∧(bx=true∨bY=true):=by
     cases bx<;>cases bY<;>simp_all
    obtain⟨rfl,HB⟩:=e
    have h1:=lz hx yN
    have h2:=lz hy GO
    cases c with
    | ptr =>
     obtain⟨a,rfl,rfl⟩:=h1
     obtain⟨a',rfl,rfl⟩:=h2
     cases d<;>simp[qp]at hc
     refine⟨fun op=>pc,cy fun n=>?_,fun neg=>by cases neg<;>simp[binOp]⟩
     rw[Op.equalIn];simp only[Sem.run_bind,run_underlying hu,Result.andThen_ok]
     cases a<;>cases a'<;>simp_all
    | slice =>
     obtain⟨a,l,p,rfl,rfl⟩:=h1
     obtain⟨a',l',p',rfl,rfl⟩:=h2
     cases d<;>simp[qp]at hc
     refine⟨fun op=>lx,cy fun n=>?_,fun neg=>by cases neg<;>simp[binOp]⟩
     rw[Op.equalIn];simp only[Sem.run_bind,run_underlying hu,Result.andThen_ok]
     cases a<;>cases a'<;>simp_all
    | map =>
     obtain⟨a,rfl,rfl⟩:=h1
     obtain⟨a',rfl,rfl⟩:=h2
     cases d<;>simp[qp]at hc
     refine⟨fun op=>pd,cy fun n=>?_,fun neg=>by cases neg<;>simp[binOp]⟩
     rw[Op.equalIn];simp only[Sem.run_bind,run_underlying hu,Result.andThen_ok]
     cases a<;>cases a'<;>simp_all
    | func =>
     cases d<;>simp[qp]at hc
     rcases h1 with⟨rfl,rfl⟩|⟨rfl,f,vs,rfl⟩<;>rcases h2 with⟨rfl,rfl⟩|⟨rfl,f',Ab,rfl⟩
     ·refine⟨fun op=>qm,cy fun n=>?_,fun neg=>by cases neg<;>simp[binOp]⟩
      rw[Op.equalIn];simp[run_underlying hu]
     ·refine⟨fun op=>ql,cy fun n=>?_,fun neg=>by cases neg<;>simp[binOp]⟩
      rw[Op.equalIn];simp[run_underlying hu]
     ·refine⟨fun op=>qk,cy fun n=>?_,fun neg=>by cases neg<;>simp[binOp]⟩
      rw[Op.equalIn];simp[run_underlying hu]
     ·simp at HB
 obtain⟨k1,k2,k3⟩:=key
 refine aG.same h (v:=.bool (if neg then !b else b)) ?_ (.bool _)
 simp only[Sem.run_bind,k1,Result.andThen_ok,k3,k2]
section
variable {P:Program} {w0 w:World} {g:Ctx} {H:aa}
def tV:kW→TypeDesc→Bool
 | .int,.int _ | .str,.string | .bool,.bool=>true
 | _,_=>false
def flat (P:Program):List Field→Nat→List kW→Bool
 | [],_,[]=>true
 | f :: fs,off,k :: ks=>f.offset==off&&f.name != "_"&&(match P.underlying f.type with | some d=>tV k d | none=>false)&&flat P fs (off+1) ks
 | _,_,_=>false
theorem nW {n:Nat}{ty:TypeId}{d:TypeDesc}{k:kW}(hu:P.underlying ty=some d)(hk:tV k d=true){a b:T}{va vb:Value}{r:Bool}(ha:VR g w a va)(hb:VR g w b vb)(h1:a.mR k=true)(he:dA a b=some r) :
  (Op.equalIn (n+1) ty va vb).run P w=.ok r w:=by
 cases k<;>cases d<;>simp[tV]at hk<;>cases ha<;>simp[T.mR]at h1<;>cases hb<;>simp[dA]at he
 ·obtain⟨rfl,rfl⟩:=he
  rw[qn n hu]
 ·subst he
  rw[qo n hu,beq_toListBytes];rfl
 ·subst he
  rw[jB n hu]
theorem fZ {ty:TypeId}{d:TypeDesc}{k:kW}(hu:P.underlying ty=some d)(hk:tV k d=true){xs:Array Value}{off:Nat}{v:Value}(h:xs[off]?=some v):(part ty xs off).run P w=.ok v w:=by
 have:bC d=false:=by cases k<;>cases d<;>simp_all [tV,bC]
 simp[part,bO hu,this,h]
theorem gH {n:Nat}:∀(fs:List Field) (off:Nat) (ks:List kW) (cs ds:List T) (xs ys:Array Value) (r:Bool),flat P fs off ks=true→hasAll ks cs=true →
  (∀(i:Nat) (t:T),cs[i]?=some t→∃v,xs[off+i]?=some v∧VR g w t v)→(∀(i:Nat) (t:T),ds[i]?=some t→∃v,ys[off+i]?=some v∧VR g w t v)→aM cs ds=some r →
  (Op.eqFields (n+1) xs ys fs).run P w=.ok r w
 | [],off,ks,cs,ds,xs,ys,r,hf,hk,hc,hd,he=>by
  cases ks with
  | nil =>
   cases cs with
   | nil=>cases ds<;>simp[aM]at he;subst he;rfl
   | cons _ _=>simp[hasAll]at hk
  | cons _ _=>simp[flat]at hf
 | f :: fs,off,ks,cs,ds,xs,ys,r,hf,hk,hc,hd,he=>by
  cases ks with
  | nil=>simp[flat]at hf
  | cons k ks =>
   cases cs with
   | nil=>simp[hasAll]at hk
   | cons c cs =>
    cases ds with
    | nil=>simp[aM]at he
    | cons d ds =>
     simp only[flat,Bool.and_eq_true,beq_iff_eq,bne_iff_ne]at hf
     obtain⟨⟨⟨pf,qq⟩,p4⟩,bR⟩:=hf
     simp only[hasAll,Bool.and_eq_true]at hk
     cases hu:P.underlying f.type with
     | none=>simp[hu]at p4
     | some de =>
      simp[hu]at p4
      obtain⟨va,Az,GP⟩:=hc 0 c rfl
      obtain⟨vb,jC,yO⟩:=hd 0 d rfl
      simp only[Nat.add_zero]at Az jC
      simp only[aM]at he
      cases e1:dA c d with
      | none=>simp[e1]at he
      | some r1 =>
       cases e2:aM cs ds with
       | none=>simp[e1,e2]at he
       | some r2 =>
        simp[e1,e2]at he;subst he
        have ih:=gH (n:=n) fs (off+1) ks cs ds xs ys r2 bR hk.2 (fun i t hi=>by have:=hc (i+1) t (by simpa using hi);rwa[show off+1+i=off+(i+1) by omega])
         (fun i t hi=>by have:=hd (i+1) t (by simpa using hi);rwa[show off+1+i=off+(i+1) by omega]) e2
        simp only[Op.eqFields,qq,ne_eq,not_false_eq_true,if_true,Sem.run_bind,pf,fZ hu p4 Az,fZ hu p4 jC,Result.andThen_ok,nW hu p4 GP yO hk.1 e1]
        cases r1
        ·simp
        ·simp[ih]
theorem ay.cp {ts:List T}{vs:List Value}(h:ay g w ts vs)(i:Nat)(t:T)(hi:ts[i]?=some t):∃v,vs.toArray[i]?=some v∧VR g w t v:=by
 have aD:i<vs.length:=by rw[←h.1];exact(List.getElem?_eq_some_iff.1 hi).1
 exact⟨vs[i],by simp[aD],h.2 i t _ hi (List.getElem?_eq_getElem aD)⟩
theorem jD {ty:TypeId}{fs:Array Field}{ks:List kW}(hu:P.underlying ty=some (.struct fs))(hf:flat P fs.toList 0 ks=true)(hp:P.stoodInHeld ty=false){cs ds:List T}{xs ys:List Value}{r:Bool}
  (hk:hasAll ks cs=true) (hx:ay g w cs xs) (hy:ay g w ds ys) (he:aM cs ds=some r) (n:Nat):(Op.equalIn (n+1+1) ty (.agg xs.toArray) (.agg ys.toArray)).run P w=.ok r w:=by
 have Ac:P.fieldsOf ty=fs:=by simp[Program.fieldsOf,hu]
 rw[run_equalIn_struct w (n+1) ty _ _ (by rw[Ac];exact hu) hp,Ac]
 exact gH _ 0 ks cs ds _ _ r hf hk (fun i t hi=>by simpa using hx.cp i t hi) (fun i t hi=>by simpa using hy.cp i t hi) he
theorem ux {neg:Bool}{ks:List kW}{cs ds:List T}{r:Bool}{vx vy:Value}{ty:TypeId}{ox oy:Operand}{fs:Array Field}
  (hu:P.underlying ty=some (.struct fs)) (hf:flat P fs.toList 0 ks=true) (hp:P.stoodInHeld ty=false) (hg:P.eqGuardType P.depth ty=false)
  (h:SR w0 g H w) (hx:VR g w (.agg cs) vx) (hy:VR g w (.agg ds) vy) (hk:hasAll ks cs=true) (he:aM cs ds=some r) :
  aG P w0 g H w (do eqGuard (if neg then .neq else .eql) ty ox oy vx vy;binOp (if neg then .neq else .eql) ty vx vy) (.bool (if neg then !r else r)) H:=by
 obtain⟨xs,rfl,tW,_⟩:=hx.cn
 obtain⟨ys,rfl,Ea,_⟩:=hy.cn
 have e:(Op.equalIn 10000 ty (.agg xs.toArray) (.agg ys.toArray)).run P w=.ok r w:=jD hu hf hp hk tW Ea he 9998
 refine aG.same h (v:=.bool (if neg then !r else r)) ?_ (.bool _)
 cases neg
 ·simp only[Bool.false_eq_true,if_false,Sem.run_bind,run_eqGuard_agg w _ _ _ _ _ _ hg,Result.andThen_ok,run_eql_struct,e]
 ·simp only[if_true,Sem.run_bind,run_eqGuard_agg w _ _ _ _ _ _ hg,Result.andThen_ok,run_neq_struct,e]
theorem yP {op:UnOp}{x t:T}{vx:Value}(h:SR w0 g H w)(hx:VR g w x vx)(he:yD op x=some t):aG P w0 g H w (Op.unary op vx) t H:=by
 cases hx<;>(try (simp[yD]at he;done))<;>cases op<;>simp[yD]at he<;>subst he
 ·exact aG.same h (by simp[Op.unary,Op.intArith]) (.int _ _)
 ·exact aG.same h (by simp[Op.unary,Op.intBits]) (.int _ _)
 ·exact aG.same h (by simp[Op.unary]) (.bool _)
theorem uy {src dst:TypeId}{ds:TypeDesc}{k k0:IntKind}{n:Int}{vx:Value}(hs:P.underlying src=some ds)(hd:P.underlying dst=some (.int k))(h:SR w0 g H w)(hx:VR g w (.int k0 n) vx) :
  aG P w0 g H w (convert src dst vx) (.int k (k.wrap n)) H:=by
 cases hx
 exact aG.same h (by simp[convert,run_underlying hs,run_underlying hd,Conv.intToInt]) (.int _ _)
theorem qt {c:Bool}{x y:T}{vc vx vy:Value}(h:SR w0 g H w)(hc:VR g w (.bool c) vc)(hx:VR g w x vx)(hy:VR g w y vy) :
  aG P w0 g H w (do pure (if ←asBool vc then vx else vy)) (if c then x else y) H:=by
 cases hc
 refine aG.same h (v:=if c then vx else vy) (by simp[asBool]) ?_
 cases c<;>simpa
def Eb:Lc→TypeDesc→Bool
 | .str,.string | .sl,.slice _ | .map,.map _ _=>true
 | _,_=>false
theorem uz {ty rt:TypeId}{d:TypeDesc}{k:Lc}{x:T}{vx:Value}{n:Nat}(hu:P.underlying ty=some d)(hd:Eb k d=true)
  (h:SR w0 g H w) (hx:VR g w x vx) (he:eo H k x=some n):aG P w0 g H w (Builtin.len_ #[ty] rt #[vx]) (.int .i64 n) H:=by
 refine aG.same h (v:=.int .i64 n) ?_ (.int _ _)
 cases k<;>cases d<;>(first|(simp[Eb]at hd;done)|skip)<;>cases hx<;>simp[eo]at he
 ·subst he;simp[Builtin.len_,run_underlying hu,goInt]
 ·subst he;simp[Builtin.len_,run_underlying hu,goInt]
 ·subst he;simp[Builtin.len_,run_underlying hu,goInt]
 ·subst he;simp[Builtin.len_,run_underlying hu,goInt]
 ·subst he;simp[Builtin.len_,run_underlying hu,goInt]
 ·subst he;simp[Builtin.len_,run_underlying hu,goInt]
 ·subst he;simp[Builtin.len_,run_underlying hu,goInt]
 ·rename_i b r o q hφ
  cases hb:H[b]? with
  | none=>simp[hb]at he
  | some y =>
   cases y<;>simp[hb]at he
   ·rename_i es
    obtain⟨_,ah,c,h2,h3,_⟩:=h.dy b _ hb r o q hφ
    subst he
    simp[Builtin.len_,run_underlying hu,goInt,getObj,Sem.run,h2,h3.1]
   ·rename_i es _ _ _
    obtain⟨r',o',q',dR,_,ah,c,h2,h3,_⟩:=h.dy b _ hb
    rw[hφ]at dR;cases dR
    subst he
    simp[Builtin.len_,run_underlying hu,goInt,getObj,Sem.run,h2,h3.1]
theorem fF {n:Nat}{x:T}{vx:Value}{es:List (List T)}(h:SR w0 g H w)(hx:VR g w x vx)(he:aH H n x=some es)(hs:∀s,x≠.str s) :
  ∃(a:Option Addr) (cap:Nat) (vs:List Value),vx=.slice a es.length cap∧es.length≤cap∧(a=none→es=[]∧cap=0)∧(∀a',a=some a'→(es≠[]→a'.spot=none)∧∀(j:Nat) (v:Value),vs[j]?=some v→w.cell? (a'.add j)=some v) ∧
   ay g w es.flatten vs∧vs.length=es.length*n∧aS es.flatten∧∀c∈es,c.length=n:=by
 cases hx with
 | slnil=>simp[aH]at he;subst he;exact⟨none,0,[],rfl,Nat.le_refl _,fun _=>⟨rfl,rfl⟩,(by simp),ay.nil,by simp,by simp[aS],by simp⟩
 | dq a=>simp[aH]at he;subst he;exact⟨a,0,[],rfl,Nat.le_refl _,fun _=>⟨rfl,rfl⟩,(by simp),ay.nil,by simp,by simp[aS],by simp⟩
 | @sl k p5 r o cap n' a7 hk hc hn h1 h2 =>
  simp only[aH]at he
  split at he
  ·rename_i ey
   simp at he;subst he
   have ig:∀c∈p5,c.length=n:=by simpa using ey
   have key:∀(i j:Nat),i<p5.length→j<n→∃c t,p5[i]?=some c∧c[j]?=some t∧t.one=true∧w.cell? ⟨r,o+i*n+j,none⟩=some (a7 i j)∧VR g w t (a7 i j):=by
    intro i j hi hj
    have e1:p5[i]?=some p5[i]:=List.getElem?_eq_getElem hi
    have l1:(p5[i]).length=n:=ig _ (List.getElem_mem hi)
    have l2:(p5[i]).length=n':=hn _ (List.getElem_mem hi)
    have e2:(p5[i])[j]?=some ((p5[i])[j]'(by omega)):=List.getElem?_eq_getElem _
    have a:=h1 i j _ _ e1 e2
    have uA:n'=n:=by omega
    exact⟨_,_,e1,e2,a.1,by rw[←uA];exact a.2.2,h2 i j _ _ e1 e2⟩
   have build:∀(l:List (List T)) (k:Nat),(∀i c,l[i]?=some c→p5[k+i]?=some c)→∃vs:List Value,vs.length=l.length*n∧ay g w l.flatten vs∧aS l.flatten ∧
     ∀(j:Nat) (v:Value),vs[j]?=some v→w.cell? ⟨r,o+k*n+j,none⟩=some v:=by
    intro l
    induction l with
    | nil=>intro k _;exact⟨[],by simp,ay.nil,by simp[aS],by simp⟩
    | cons c l ih =>
     intro k hk
     have mW:=hk 0 c rfl
     simp only[Nat.add_zero]at mW
     have yQ:k<p5.length:=(List.getElem?_eq_some_iff.1 mW).1
     have hC:c.length=n:=ig c (List.mem_of_getElem? mW)
     obtain⟨vs,a1,a2,a3,a4⟩:=ih (k+1) (fun i c' hi=>by have:=hk (i+1) c' (by simpa using hi);rwa[show k+1+i=k+(i+1) by omega])
     refine⟨(List.range n).map (a7 k)++vs,by simp[a1,Nat.succ_mul];omega,?_,?_,fun j v hj=>?_⟩
     ·rw[List.flatten_cons]
      refine ay.append ⟨by simp[hC],fun i t v hi hv=>?_⟩ a2
      have aD:i<n:=by have:=(List.getElem?_eq_some_iff.1 hv).1;simpa using this
      obtain⟨c',t',e1,e2,_,_,e5⟩:=key k i yQ aD
      rw[mW]at e1;cases e1
      rw[hi]at e2;cases e2
      simp[aD]at hv
      rw[←hv];exact e5
     ·rw[List.flatten_cons]
      intro t ht
      rcases List.mem_append.1 ht with ht|ht
      ·obtain⟨i,hi,rfl⟩:=List.getElem_of_mem ht
       obtain⟨c',t',e1,e2,e3,_,_⟩:=key k i yQ (by omega)
       rw[mW]at e1;cases e1
       rw[List.getElem?_eq_getElem hi]at e2;cases e2
       exact e3
      ·exact a3 t ht
     ·rw[List.getElem?_append]at hj
      split at hj
      ·rename_i aD
       simp at aD
       simp[aD]at hj
       obtain⟨c',t',_,_,_,e4,_⟩:=key k j yQ aD
       rw[←hj];exact e4
      ·rename_i p6
       simp at p6 hj
       have:=a4 _ v hj
       rwa[show o+(k+1)*n+(j-n)=o+k*n+j by rw[Nat.succ_mul];omega]at this
   obtain⟨vs,a1,a2,a3,a4⟩:=build p5 0 (fun i c h=>by simpa using h)
   refine⟨some ⟨r,o,none⟩,cap,vs,rfl,hc,by simp,fun a' ha=>?_,a2,a1,a3,ig⟩
   cases ha
   exact⟨fun _=>rfl,fun j v hj=>by rw[a8];simpa using a4 j v hj⟩
  ·simp at he
 | @aQ b off len n' r o q cap hφ hc hq =>
  simp only[aH]at he
  cases hb:H[b]? with
  | none=>simp[hb]at he
  | some y =>
   cases y with
   | cells cs =>
    simp only[hb]at he
    split at he
    ·rename_i aC
     obtain⟨rfl,hle⟩:=aC
     simp at he
     obtain⟨h1,h2,h3⟩:=h.dy b _ hb r o q hφ
     have hlen:es.length=len:=by rw[←he];simp
     have hn:∀c∈es,c.length=n':=by
      rw[←he]
      intro c ij
      obtain⟨i,hi,rfl⟩:=List.mem_map.1 ij
      simp at hi
      have:i*n'+n'≤len*n':=by rw[←Nat.succ_mul];exact Nat.mul_le_mul_right _ hi
      simp;omega
     have gI:∀m,m≤len→((List.range m).map fun i=>(cs.drop (off+i*n')).take n').flatten=(cs.drop off).take (m*n'):=by
      intro m
      induction m with
      | zero=>intro _;simp
      | succ m ih =>
       intro hm
       rw[List.range_succ,List.map_append,List.flatten_append,ih (by omega)]
       simp only[List.map_cons,List.map_nil,List.flatten_cons,List.flatten_nil,List.append_nil]
       rw[Nat.succ_mul,List.take_add,List.drop_drop]
     have lA:es.flatten=(cs.drop off).take (len*n'):=by rw[←he];exact gI len (Nat.le_refl _)
     have hp:gF H (len*n') (.ptr b off)=some ((cs.drop off).take (len*n')):=by simp[gF,hb,hle]
     obtain⟨r',o',vs,e1,e2,e3,e4,e5⟩:=fk h (.ptr hφ) hp
     cases e1
     refine⟨some ⟨r,o+off,none⟩,cap,vs,by rw[hlen],by omega,by simp,fun a' ha=>?_,by rw[lA];exact e4,by rw[e2,hlen],by rw[lA];exact e5,hn⟩
     cases ha
     exact⟨fun _=>rfl,fun j v hj=>by rw[a8];exact e3 j v hj⟩
    ·simp at he
   | fz cs =>
    simp only[hb]at he
    split at he
    ·rename_i aC
     obtain⟨rfl,hle⟩:=aC
     simp at he
     have hlen:es.length=len:=by rw[←he];simp
     have hn:∀c∈es,c.length=n':=by
      rw[←he]
      intro c ij
      obtain⟨i,hi,rfl⟩:=List.mem_map.1 ij
      simp at hi
      have:i*n'+n'≤len*n':=by rw[←Nat.succ_mul];exact Nat.mul_le_mul_right _ hi
      simp;omega
     have gI:∀m,m≤len→((List.range m).map fun i=>(cs.drop (off+i*n')).take n').flatten=(cs.drop off).take (m*n'):=by
      intro m
      induction m with
      | zero=>intro _;simp
      | succ m ih =>
       intro hm
       rw[List.range_succ,List.map_append,List.flatten_append,ih (by omega)]
       simp only[List.map_cons,List.map_nil,List.flatten_cons,List.flatten_nil,List.append_nil]
       rw[Nat.succ_mul,List.take_add,List.drop_drop]
     have lA:es.flatten=(cs.drop off).take (len*n'):=by rw[←he];exact gI len (Nat.le_refl _)
     have hp:gF H (len*n') (.ptr b off)=some ((cs.drop off).take (len*n')):=by simp[gF,hb,hle]
     obtain⟨r',o',vs,e1,e2,e3,e4,e5⟩:=fk h (.ptr hφ) hp
     cases e1
     refine⟨some ⟨r,o+off,none⟩,cap,vs,by rw[hlen],by omega,by simp,fun a' ha=>?_,by rw[lA];exact e4,by rw[e2,hlen],by rw[lA];exact e5,hn⟩
     cases ha
     exact⟨fun _=>rfl,fun j v hj=>by rw[a8];exact e3 j v hj⟩
    ·simp at he
   | map _=>simp[hb]at he
   | tok _=>simp[hb]at he
   | _=>simp[hb]at he
 | str s=>exact absurd rfl (hs s)
 | _=>simp[aH]at he
theorem ik:∀(es:List (List T)) (l:List UInt8),bytesOf es=some l→∃ns:List Int,es=ns.map (fun n=>[T.int .u8 n])∧l=ns.map (fun n=>UInt8.ofNat n.toNat)
 | [],l,h=>⟨[],rfl,by simpa[bytesOf]using h.symm⟩
 | [.int .u8 n] :: es,l,h=>by
  simp only[bytesOf,Option.map_eq_some_iff]at h
  obtain⟨l',h1,rfl⟩:=h
  obtain⟨ns,rfl,rfl⟩:=ik es l' h1
  exact⟨n :: ns,rfl,rfl⟩
 | [] :: es,l,h=>by simp[bytesOf]at h
 | (_ :: _ :: _) :: es,l,h=>by simp[bytesOf]at h
 | [.int .i8 n] :: es,l,h=>by simp[bytesOf]at h
 | [.int .i16 n] :: es,l,h=>by simp[bytesOf]at h
 | [.int .i32 n] :: es,l,h=>by simp[bytesOf]at h
 | [.int .i64 n] :: es,l,h=>by simp[bytesOf]at h
 | [.int .u16 n] :: es,l,h=>by simp[bytesOf]at h
 | [.int .u32 n] :: es,l,h=>by simp[bytesOf]at h
 | [.int .u64 n] :: es,l,h=>by simp[bytesOf]at h
 | [.bool _] :: es,l,h=>by simp[bytesOf]at h
 | [.str _] :: es,l,h=>by simp[bytesOf]at h
 | [.aL] :: es,l,h=>by simp[bytesOf]at h
 | [.ptr _ _] :: es,l,h=>by simp[bytesOf]at h
 | [.cF _] :: es,l,h=>by simp[bytesOf]at h
 | [.b9] :: es,l,h=>by simp[bytesOf]at h
 | [.map _] :: es,l,h=>by simp[bytesOf]at h
 | [.sl _ _] :: es,l,h=>by simp[bytesOf]at h
 | [.aQ _ _ _ _] :: es,l,h=>by simp[bytesOf]at h
 | [.dv] :: es,l,h=>by simp[bytesOf]at h
 | [.fn _ _] :: es,l,h=>by simp[bytesOf]at h
 | [.cG] :: es,l,h=>by simp[bytesOf]at h
 | [.agg _] :: es,l,h=>by simp[bytesOf]at h
 | [.bo _] :: es,l,h=>by simp[bytesOf]at h
theorem foldl_push (ns:List Int):∀(b:ByteArray),ns.foldl (fun r n=>r.push (UInt8.ofNat n.toNat)) b=⟨b.data++(ns.map (fun n=>UInt8.ofNat n.toNat)).toArray⟩:=by
 induction ns with
 | nil=>intro b;simp
 | cons n ns ih=>intro b;rw[List.foldl_cons,ih];cases b;simp[ByteArray.push]
theorem AA (ns:List Int):(ns.map fun n=>[T.int .u8 n]).flatten=ns.map (T.int .u8):=by
 induction ns with
 | nil=>rfl
 | cons n ns ih=>simp only[List.map_cons,List.flatten_cons,ih];rfl
theorem uB {src dst e:TypeId}{x:T}{vx:Value}{es:List (List T)}{l:List UInt8}(hs:P.underlying src=some (.slice e))(hb:P.underlying e=some (.int .u8))(hd:P.underlying dst=some .string)
  (h:SR w0 g H w) (hx:VR g w x vx) (he:aH H 1 x=some es) (hn:∀s,x≠.str s) (hl:bytesOf es=some l):aG P w0 g H w (convert src dst vx) (.str ⟨l.toArray⟩) H:=by
 obtain⟨a,cap,vs,rfl,_,h1,h2,h3,h4,h5,_⟩:=fF h hx he hn
 obtain⟨ns,rfl,rfl⟩:=ik es l hl
 refine aG.same h ?_ (.str _)
 rw[run_convert_bytes_string w src dst e a _ cap hs hb hd]
 cases a with
 | none =>
  have:=h1 rfl
  have tU:ns=[]:=by simpa using this.1
  subst tU
  simp[Conv.bytesToString];rfl
 | some a =>
  obtain⟨_,h6⟩:=h2 a rfl
  have fX:vs=ns.map (Value.int .u8):=by
   apply List.ext_getElem?
   intro i
   have hlen:vs.length=ns.length:=by simpa using h4
   by_cases hi:i<ns.length
   ·have hv:vs[i]?=some vs[i]:=List.getElem?_eq_getElem (by omega)
    have ht:((ns.map fun n=>[T.int .u8 n]).flatten)[i]?=some (T.int .u8 ns[i]):=by
     rw[AA];simp[hi]
    have:=h3.2 i _ _ ht hv
    rw[hv]
    simp only[List.getElem?_map,List.getElem?_eq_getElem hi,Option.map_some]
    congr 1
    generalize vs[i]=vv at this
    cases this;rfl
   ·rw[List.getElem?_eq_none (by omega),List.getElem?_eq_none (by simpa using hi)]
  have:=run_loadCells_list (P:=P) w a vs h6
  rw[h4]at this
  have hl:(ns.map fun n=>[T.int .u8 n]).length*1=(ns.map fun n=>[T.int .u8 n]).length:=Nat.mul_one _
  rw[hl]at this
  rw[run_bytesToString w a _ cap ns (by rw[this,fX]),foldl_push]
  show Result.ok (Value.string ⟨#[]++_⟩) w=_
  simp
end
section
variable {P:Program} {w0 w:World} {g:Ctx} {H:aa}
def il:Value→Option T
 | .int k n=>some (.int k n)
 | .bool b=>some (.bool b)
 | .string s=>some (.str s)
 | .pointer none=>some .aL
 | .slice none 0 0=>some (.sl .nil [])
 | .map none=>some .b9
 | .nilFunc=>some .dv
 | .nilIface=>some .cG
 | _=>none
def bP:List Value→Option (List T)
 | []=>some []
 | v :: vs=>match il v,bP vs with
  | some t,some ts=>some (t :: ts)
  | _,_=>none
def fm:Value→Option T
 | .agg cs=>(bP cs.toList).map .agg
 | .tuple cs=>if cs.size=0 then some (.bo [])else none
 | v=>il v
theorem jE {v:Value}{t:T}(h:il v=some t):VR g w t v∧t.one=true:=by
 unfold il at h
 split at h<;>simp at h<;>subst h
 ·exact⟨.int _ _,rfl⟩
 ·exact⟨.bool _,rfl⟩
 ·exact⟨.str _,rfl⟩
 ·exact⟨.aL,rfl⟩
 ·exact⟨.slnil,rfl⟩
 ·exact⟨.b9,rfl⟩
 ·exact⟨.dv,rfl⟩
 ·exact⟨.cG,rfl⟩
theorem br:∀(vs:List Value) (ts:List T),bP vs=some ts→ay g w ts vs∧aS ts
 | [],ts,h=>by simp[bP]at h;subst h;exact⟨ay.nil,by simp[aS]⟩
 | v :: vs,ts,h=>by
  simp only[bP]at h
  cases h1:il v with
  | none=>simp[h1]at h
  | some t =>
   cases h2:bP vs with
   | none=>simp[h1,h2]at h
   | some yL =>
    simp[h1,h2]at h;subst h
    obtain⟨a,b⟩:=jE (g:=g) (w:=w) h1
    obtain⟨c,d⟩:=br vs yL h2
    exact⟨ay.cons a c,by intro x hx;rcases List.mem_cons.1 hx with rfl|hx;exact b;exact d x hx⟩
theorem eO {v:Value}{t:T}(h:fm v=some t):VR g w t v:=by
 unfold fm at h
 split at h
 ·rename_i cs
  simp only[Option.map_eq_some_iff]at h
  obtain⟨ts,h1,rfl⟩:=h
  obtain⟨a,b⟩:=br (g:=g) (w:=w) _ _ h1
  have:=a.agg b
  simpa using this
 ·rename_i cs
  split at h
  ·rename_i hs
   simp at h;subst h
   have:cs=#[]:=Array.eq_empty_of_size_eq_zero hs
   subst this
   exact .bo rfl (by simp)
  ·simp at h
 ·exact(jE h).1
theorem bD {x:T}{vx:Value}{i:Nat}(hx:VR g w x vx)(h:aR x=some i):∃(k:IntKind) (n:Int),vx=.int k n∧0≤n∧n.toNat=i:=by
 cases hx<;>simp[aR]at h
 exact⟨_,_,rfl,h.1,h.2⟩
theorem pg {cs:List T}{r o off:Nat}(h:VR g w (.cF cs) (.pointer (some ⟨r,o,none⟩))):VR g w (.cF (cs.drop off)) (.pointer (some ⟨r,o+off,none⟩)):=by
 cases h with
 | cF a7 h1 h2 =>
  refine .cF (fun j=>a7 (off+j)) (fun j t e=>?_) (fun j t e=>?_)
  ·rw[List.getElem?_drop]at e
   have:=h1 (off+j) t e
   exact⟨this.1,by rw[Nat.add_assoc];exact this.2⟩
  ·rw[List.getElem?_drop]at e
   exact h2 (off+j) t e
theorem uC {ty:TypeId}{fs:Array Field}{i:Nat}{f:Field}{fi:TypeInfo}{x t:T}{vx:Value}(hu:P.underlying ty=some (.struct fs))(hf:fs[i]?=some f)(hi:P.info? f.type=some fi)(hz:fi.size≠0)
  (h:SR w0 g H w) (hx:VR g w x vx) (he:ku f.offset x=some t) :
  aG P w0 g H w (Instr.fieldAt ty vx i) t H:=by
 cases hx<;>simp[ku]at he
 case ptr b off r o q hφ =>
  subst he
  refine aG.same h (v:=.pointer (some ⟨r,o+(off+f.offset),none⟩)) ?_ (.ptr hφ)
  simp[Instr.fieldAt,Instr.sureAddr,run_underlying hu,hf,fieldPlace,sizeOf,au hi,hz,a8,Nat.add_assoc]
 case cF cs r o a7 h1 h2 =>
  obtain⟨_,rfl⟩:=he
  refine aG.same h (v:=.pointer (some ⟨r,o+f.offset,none⟩)) ?_ (pg (.cF a7 h1 h2))
  simp[Instr.fieldAt,Instr.sureAddr,run_underlying hu,hf,fieldPlace,sizeOf,au hi,hz,a8]
theorem lB {ty:TypeId}{d:TypeDesc}{i:TypeInfo}{ag:Bool}{n off:Nat}{cs:List T}{vs:List Value}{t:T}(hd:P.underlying ty=some d)(hi:P.info? ty=some i)(p3:bC d=ag)(hn:i.size=n)
  (hv:ay g w cs vs) (ho:aS cs) (hle:off+n≤cs.length) (he:valOf ag ((cs.drop off).take n)=some t):∃v,(part ty vs.toArray off).run P w=.ok v w∧VR g w t v:=by
 have h1:=(hv.drop off).take n
 have h2:aS ((cs.drop off).take n):=fun x hx=>ho x (List.mem_of_mem_drop (List.mem_of_mem_take hx))
 obtain⟨ha,hb⟩:=ic h1 h2 he
 cases ag with
 | true =>
  refine⟨_,?_,ha rfl⟩
  simp[part,bO hd,p3,sizeOf,au hi,hn]
 | false =>
  obtain⟨v,h3,h4⟩:=hb rfl
  refine⟨v,?_,h4⟩
  have h5:vs[off]?=some v:=by
   have:((vs.drop off).take n)[0]?=some v:=by rw[h3];rfl
   rw[List.getElem?_take]at this
   split at this
   ·rw[List.getElem?_drop]at this;simpa using this
   ·simp at this
  simp[part,bO hd,p3,h5]
theorem uD {ty:TypeId}{fs:Array Field}{i:Nat}{f:Field}{fi:TypeInfo}{d:TypeDesc}{cs:List T}{t:T}{vx:Value}{ag:Bool}(hu:P.underlying ty=some (.struct fs))(hf:fs[i]?=some f)(hd:P.underlying f.type=some d)(hi:P.info? f.type=some fi)
  (p3:bC d=ag) (h:SR w0 g H w) (hx:VR g w (.agg cs) vx) (hle:f.offset+fi.size≤cs.length) (he:valOf ag ((cs.drop f.offset).take fi.size)=some t):aG P w0 g H w (Instr.field ty vx i) t H:=by
 obtain⟨vs,rfl,h1,h2⟩:=hx.cn
 obtain⟨v,hr,hv⟩:=lB (P:=P) hd hi p3 rfl h1 h2 hle he
 exact aG.same h (by simp[Instr.field,run_underlying hu,hf,asAgg,hr]) hv
theorem uE {ty elem:TypeId}{ei:TypeInfo}{x ix t:T}{i:Nat}{vx vi:Value}(hu:P.underlying ty=some (.slice elem))(hi:P.info? elem=some ei)
  (h:SR w0 g H w) (hx:VR g w x vx) (qu:VR g w ix vi) (hn:aR ix=some i) (he:uh ei.size i x=some t):aG P w0 g H w (Instr.indexAt ty vx vi) t H:=by
 obtain⟨k,m,rfl,ph,wI⟩:=bD qu hn
 cases hx<;>simp[uh]at he
 case sl k' es r o cap n a7 hk hc wJ h1 h2 =>
  cases eZ:es[i]? with
  | none=>simp[eZ]at he
  | some c =>
   simp[eZ]at he
   obtain⟨⟨hC,aF⟩,rfl⟩:=he
   have aD:i<es.length:=(List.getElem?_eq_some_iff.1 eZ).1
   have JD:c.length=n:=wJ c (List.mem_of_getElem? eZ)
   have uA:n=ei.size:=by omega
   subst uA
   refine aG.same h (v:=.pointer (some ⟨r,o+i*ei.size,none⟩)) ?_ (.cF (a7 i) (fun j t e=>h1 i j c t eZ e) (fun j t e=>h2 i j c t eZ e))
   have mX:m<es.length:=by omega
   simp[Instr.indexAt,asIntOf,run_underlying hu,ph,mX,sizeOf,au hi,a8,wI]
 case aQ b off len n r o q cap hφ hc hq =>
  obtain⟨⟨rfl,aD,aF⟩,rfl⟩:=he
  refine aG.same h (v:=.pointer (some ⟨r,o+(off+i*ei.size),none⟩)) ?_ (.ptr hφ)
  have mX:m<len:=by omega
  simp[Instr.indexAt,asIntOf,run_underlying hu,ph,mX,sizeOf,au hi,a8,wI,Nat.add_assoc]
theorem uF {ty elem:TypeId}{len:Nat}{ei:TypeInfo}{ix:T}{b off i:Nat}{vx vi:Value}(hu:P.underlying ty=some (.array len elem))(hi:P.info? elem=some ei)
  (h:SR w0 g H w) (hx:VR g w (.ptr b off) vx) (qu:VR g w ix vi) (hn:aR ix=some i) (aD:i<len):aG P w0 g H w (Instr.indexAt ty vx vi) (.ptr b (off+i*ei.size)) H:=by
 obtain⟨k,m,rfl,ph,wI⟩:=bD qu hn
 cases hx with
 | @ptr _ _ r o q hφ =>
  refine aG.same h (v:=.pointer (some ⟨r,o+(off+i*ei.size),none⟩)) ?_ (.ptr hφ)
  have mX:m<len:=by omega
  simp[Instr.indexAt,Instr.sureAddr,asIntOf,run_underlying hu,ph,mX,sizeOf,au hi,a8,wI,Nat.add_assoc]
theorem uG {ty:TypeId}{ix:T}{s:ByteArray}{i:Nat}{c:UInt8}{vx vi:Value}(hu:P.underlying ty=some .string)
  (h:SR w0 g H w) (hx:VR g w (.str s) vx) (qu:VR g w ix vi) (hn:aR ix=some i) (hc:s.data[i]?=some c):aG P w0 g H w (Instr.index ty vx vi) (.int .u8 c.toNat) H:=by
 obtain⟨k,m,rfl,ph,wI⟩:=bD qu hn
 cases hx
 refine aG.same h ?_ (.int _ _)
 have ij:s[i]?=some c:=by
  have aD:i<s.data.size:=(Array.getElem?_eq_some_iff.1 hc).1
  have h2:=(Array.getElem?_eq_some_iff.1 hc).2
  have Ec:i<s.size:=aD
  rw[getElem?_pos s i Ec]
  exact congrArg some h2
 simp[Instr.index,asIntOf,run_underlying hu,ph,wI,ij]
theorem uH {ty elem:TypeId}{len i:Nat}{ei:TypeInfo}{d:TypeDesc}{ag:Bool}{ix t:T}{cs:List T}{vx vi:Value}(hu:P.underlying ty=some (.array len elem))(hd:P.underlying elem=some d)(hi:P.info? elem=some ei)(p3:bC d=ag)
  (h:SR w0 g H w) (hx:VR g w (.agg cs) vx) (qu:VR g w ix vi) (hn:aR ix=some i) (aD:i<len) (hle:i*ei.size+ei.size≤cs.length) (he:valOf ag ((cs.drop (i*ei.size)).take ei.size)=some t):aG P w0 g H w (Instr.index ty vx vi) t H:=by
 obtain⟨k,m,rfl,ph,wI⟩:=bD qu hn
 obtain⟨vs,rfl,h1,h2⟩:=hx.cn
 obtain⟨v,hr,hv⟩:=lB (P:=P) hd hi p3 rfl h1 h2 hle he
 have mX:m<len:=by omega
 exact aG.same h (by simp[Instr.index,asIntOf,run_underlying hu,ph,mX,sizeOf,au hi,wI,hr]) hv
def OV (g:Ctx)(w:World)(R:ai):Option X→Option Value→Prop
 | none,none=>True
 | some x,some v=>VR g w (x.ev R) v
 | _,_=>False
def yR (l:Nat):Option Value→Prop
 | none=>l=0
 | some v=>∃k n,v=.int k n∧0≤n∧n.toNat=l
theorem run_sliceBound {k:IntKind}{n:Int}{y:Nat}{c:BoundsCode}(h0:0≤n)(hy:n.toNat≤y):(Instr.sliceBound (.int k n) y c).run P w=.ok n.toNat w:=by
 have:n≤y:=by omega
 simp[Instr.sliceBound,asIntOf,h0,this]
theorem cf {R:ai}{qv:Bool}{len cap d l hh:Nat}{lo hi:Option X}{dK ej:Option Value}(jd:OV g w R lo dK)
  (lC:OV g w R hi ej) (hl:cX R 0 lo=some l) (ky:cX R d hi=some hh) (hd:hi=none→d=len) (h1:l≤hh) (h2:hh≤cap) :
  (Instr.sliceBounds qv len cap dK ej none).run P w=.ok (l,hh,cap) w:=by
 have eh:∀c,(match ej with|some v=>Instr.sliceBound v cap c|none=>pure len:Sem Nat).run P w=.ok hh w:=by
  intro c
  cases hi with
  | none =>
   cases ej with
   | none=>simp[cX]at ky;simp[←ky,hd rfl]
   | some _=>exact lC.elim
  | some x =>
   cases ej with
   | none=>exact lC.elim
   | some v =>
    obtain⟨k,n,rfl,a,b⟩:=bD lC ky
    subst b
    exact run_sliceBound a h2
 have el:∀c,(match dK with|some v=>Instr.sliceBound v hh c|none=>pure 0:Sem Nat).run P w=.ok l w:=by
  intro c
  cases lo with
  | none =>
   cases dK with
   | none=>simp[cX]at hl;simp[←hl]
   | some _=>exact jd.elim
  | some x =>
   cases dK with
   | none=>exact jd.elim
   | some v =>
    obtain⟨k,n,rfl,a,b⟩:=bD jd hl
    subst b
    exact run_sliceBound a h1
 have JF:=eh (if qv then .sliceAcap else .sliceAlen)
 have JG:=el .sliceB
 cases ej<;>cases dK<;>simp_all [Instr.sliceBounds]
theorem uI {R:ai}{ty:TypeId}{s:ByteArray}{l hh:Nat}{lo hi:Option X}{dK ej:Option Value}{vx:Value}(hu:P.underlying ty=some .string)
  (h:SR w0 g H w) (hx:VR g w (.str s) vx) (jd:OV g w R lo dK)
  (lC:OV g w R hi ej) (hl:cX R 0 lo=some l) (ky:cX R s.size hi=some hh) (h1:l≤hh) (h2:hh≤s.size) :
  aG P w0 g H w (Instr.sliceAt ty vx dK ej none) (.str (s.extract l hh)) H:=by
 cases hx
 refine aG.same h ?_ (.str _)
 have:=cf (P:=P) (qv:=false) jd lC hl ky (fun _=>rfl) h1 h2
 simp[Instr.sliceAt,run_underlying hu,Instr.slice,this]
theorem nX {k k':SK}{es:List (List T)}{r o cap kz n l m:Nat}{a:Option Addr}(a7:Nat→Nat→Value)(hn:∀c∈es,c.length=n)
  (h1:∀(i j:Nat) (c:List T) (t:T),es[i]?=some c→c[j]?=some t→t.one=true∧mL g w r (o+i*n+j) (a7 i j))
  (h2:∀(i j:Nat) (c:List T) (t:T),es[i]?=some c→c[j]?=some t→VR g w t (a7 i j))
  (JH:l≤m) (hm:m≤es.length) (fG:m-l≤kz) (hk:o9 g k' r (o+l*n) (m-l) kz n) :
  VR g w (.sl k' ((es.take m).drop l)) (.slice (some ⟨r,o+l*n,none⟩) (m-l) kz):=by
 have hlen:((es.take m).drop l).length=m-l:=by simp;omega
 have get:∀i c,((es.take m).drop l)[i]?=some c→es[l+i]?=some c:=by
  intro i c hi
  rw[List.getElem?_drop,List.getElem?_take]at hi
  split at hi
  ·exact hi
  ·simp at hi
 have:=VR.sl (g:=g) (w:=w) (k:=k') (es:=(es.take m).drop l) (r:=r) (o:=o+l*n) (cap:=kz) (n:=n) (fun i j=>a7 (l+i) j) (by rw[hlen];exact hk) (by omega)
  (fun c hc=>hn c (List.mem_of_mem_take (List.mem_of_mem_drop hc)))
  (fun i j c t a b=>⟨(h1 (l+i) j c t (get i c a) b).1,by
   have:=(h1 (l+i) j c t (get i c a) b).2
   rwa[show o+l*n+i*n+j=o+(l+i)*n+j by rw[Nat.add_mul];omega]⟩)
  (fun i j c t a b=>h2 (l+i) j c t (get i c a) b)
 rwa[hlen]at this
theorem uJ {R : ai}{ty elem : TypeId}{ei : TypeInfo}{k : SK}{es : List (List T)}{l hh : Nat}{lo hi : Option X}{dK ej : Option Value}{vx : Value}(hu : P.underlying ty = some (.slice elem))(fW : P.info? elem = some ei)
    (h : SR w0 g H w) (hx : VR g w (.sl k es) vx) (jd : OV g w R lo dK)
    (lC : OV g w R hi ej) (hl : cX R 0 lo = some l) (ky : cX R es.length hi = some hh) (h1 : l ≤ hh) (h2 : hh ≤ es.length) (ey : es.all (·.length == ei.size) = true) :
    aG P w0 g H w (Instr.sliceAt ty vx dK ej none) (.sl (k.cut es.length l hh) ((es.take hh).drop l)) H := by
  have ig : ∀c ∈ es, c.length = ei.size := by simpa using ey
  cases hx with
  | slnil =>
    simp at h2; subst h2
    have Ad : l = 0 := by omega
    subst Ad
    have := cf (P := P) (w := w) (g := g) (qv := true) (cap := 0) jd lC hl ky (fun _ => rfl) h1 (Nat.le_refl _)
    simp only[List.length_nil]at this
    exact aG.same h (v := .slice none 0 0) (by simp[Instr.sliceAt, run_underlying hu, Instr.slice, this, sizeOf, au fW]) (by simpa[SK.cut]using VR.slnil)
  | dq a =>
    simp at h2; subst h2
    have Ad : l = 0 := by omega
    subst Ad
    have := cf (P := P) (w := w) (g := g) (qv := true) (cap := 0) jd lC hl ky (fun _ => rfl) h1 (Nat.le_refl _)
    simp only[List.length_nil]at this
    exact aG.same h (v := .slice a 0 0) (by cases a<;>simp[Instr.sliceAt, run_underlying hu, Instr.slice, this, sizeOf, au fW]) (by simpa[SK.cut]using VR.dq a)
  | @sl _ _ r o cap n a7 hk hc hn h3 h4 =>
    have := cf (P := P) (w := w) (g := g) (qv := true) (cap := cap) jd lC hl ky (fun _ => rfl) h1 (by omega)
    have hr : (Instr.sliceAt ty (.slice (some ⟨r, o, none⟩) es.length cap) dK ej none).run P w = .ok (.slice (some (if cap = l then⟨r, o, none⟩else⟨r, o + l * ei.size, none⟩)) (hh - l) (cap - l)) w := by
      simp[Instr.sliceAt, run_underlying hu, Instr.slice, this, sizeOf, au fW, a8]
      split<;>rfl
    by_cases he : l<hh
    · -- Ae is left
      have hC : cap ≠ l := by omega
      simp only[hC, if_false]at hr
      have uA : n = ei.size := by
        cases es with
        | nil => simp at h2; omega
        | cons c es => have a := hn c (by simp); have b := ig c (by simp); omega
      subst uA
      refine aG.same h hr (nX (k := k) (cap := cap) (a := none) a7 hn h3 h4 h1 h2 (by omega) ?_)
      cases k with
      | nil => exact hk.elim
      | arg => trivial
      | full =>
        simp only[SK.cut]; split
        · rename_i e; simp only[o9]at hk ⊢; omega
        · trivial
      | own t e =>
        simp only[SK.cut]; split
        · rename_i e'
          simp only[o9]at hk ⊢
          refine⟨?_, by omega⟩
          rw[hk.1]
          have e1 : o + l * ei.size + (hh - l) * ei.size = o + es.length * ei.size := by
            rw[Nat.add_assoc, ←Nat.add_mul]; congr 2; omega
          have e2 : o + l * ei.size + (cap - l) * ei.size = o + cap * ei.size := by
            rw[Nat.add_assoc, ←Nat.add_mul]; congr 2; omega
          rw[e1, e2]
        · trivial
    · have hle : l = hh := by omega
      subst hle
      have hd : (es.take l).drop l = [] := by simp
      rw[hd]
      have vr : ∀a : Addr, a.spot = none → VR g w (.sl .arg []) (.slice (some a) 0 (cap - l)) := by
        intro a ha
        obtain⟨ab, ao, aq⟩ := a
        simp at ha; subst ha
        exact .sl (n := 0) (fun _ _ => .nilIface) trivial (by simp) (by simp) (by simp) (by simp)
      have jF : k.cut es.length l l = .arg ∨ (k.cut es.length l l = .full ∧ cap = l) := by
        cases k with
        | nil => exact hk.elim
        | arg => exact .inl rfl
        | full => simp only[SK.cut]; split
                  · rename_i e; right; simp only[o9]at hk; exact⟨rfl, by omega⟩
                  · exact .inl rfl
        | own t e => simp only[SK.cut]; split
                     · omega
                     · exact .inl rfl
      rcases jF with e|⟨e, hC⟩
      · rw[e]
        refine aG.same h hr ?_
        rw[Nat.sub_self]
        exact vr _ (by split<;>rfl)
      · rw[e]
        refine aG.same h hr ?_
        rw[Nat.sub_self, hC, Nat.sub_self]
        have mN : ∀a : Addr, a.spot = none → VR g w (.sl .full []) (.slice (some a) 0 0) := by
          intro a ha
          obtain⟨ab, ao, aq⟩ := a
          simp at ha; subst ha
          exact .sl (n := 0) (fun _ _ => .nilIface) rfl (by simp) (by simp) (by simp) (by simp)
        exact mN _ (by split<;>rfl)
theorem ga {qv:Bool}{len cap l hh m:Nat}{dK:Option Value}{k:IntKind}{nm:Int}{vh:Value}
  (ph:0≤nm) (Ed:nm.toNat=m) (GQ:m≤cap) (ky:∃k n,vh=.int k n∧0≤n∧n.toNat=hh) (h2:hh≤m)
  (hl:yR l dK) (h1:l≤hh) :
  (Instr.sliceBounds qv len cap dK (some vh) (some (.int k nm))).run P w=.ok (l,hh,m) w:=by
 subst Ed
 obtain⟨kh,nh,rfl,a,b⟩:=ky
 subst b
 cases dK with
 | none=>simp only[yR]at hl;subst hl;simp[Instr.sliceBounds,run_sliceBound ph GQ,run_sliceBound a h2]
 | some v =>
  obtain⟨kl,nl,rfl,c,d⟩:=hl
  subst d
  simp[Instr.sliceBounds,run_sliceBound ph GQ,run_sliceBound a h2,run_sliceBound c h1]
theorem qw {R:ai}{ty elem:TypeId}{ei:TypeInfo}{k:SK}{es:List (List T)}{l hh m:Nat}{lo:Option X}{hi mx:X}{dK:Option Value}{ej vm:Value}{vx:Value}(hu:P.underlying ty=some (.slice elem))(fW:P.info? elem=some ei)
  (h:SR w0 g H w) (hx:VR g w (.sl k es) vx) (jd:OV g w R lo dK)
  (lC:VR g w (hi.ev R) ej) (HC:VR g w (mx.ev R) vm) (hl:cX R 0 lo=some l) (ky:aR (hi.ev R)=some hh) (hm:aR (mx.ev R)=some m) (h1:l≤hh) (h2:hh≤m) (AB:m≤es.length) (ey:es.all (·.length==ei.size)=true) :
  aG P w0 g H w (Instr.sliceAt ty vx dK (some ej) (some vm)) (.sl (if k=.nil then .nil else if es=[]∧k=.arg then .arg else if hh=m then .full else .arg) ((es.take hh).drop l)) H:=by
 have ig:∀c∈es,c.length=ei.size:=by simpa using ey
 have uK:yR l dK:=by
  cases lo<;>cases dK
  ·simp[cX]at hl;exact hl.symm
  ·exact jd.elim
  ·exact jd.elim
  ·exact bD jd hl
 obtain⟨km,nm,rfl,ph,Ed⟩:=bD HC hm
 have hb:∀cap,m≤cap→(Instr.sliceBounds true es.length cap dK (some ej) (some (.int km nm))).run P w=.ok (l,hh,m) w :=
  fun cap hc=>ga ph Ed hc (bD lC ky) h2 uK h1
 cases hx with
 | slnil =>
  simp at AB;subst AB
  obtain rfl:hh=0:=by omega
  obtain rfl:l=0:=by omega
  have:=hb 0 (Nat.le_refl _)
  simp only[List.length_nil]at this
  exact aG.same h (v:=.slice none 0 0) (by simp[Instr.sliceAt,run_underlying hu,Instr.slice,this,sizeOf,au fW]) (by simpa using VR.slnil)
 | dq a =>
  simp at AB;subst AB
  obtain rfl:hh=0:=by omega
  obtain rfl:l=0:=by omega
  have:=hb 0 (Nat.le_refl _)
  simp only[List.length_nil]at this
  exact aG.same h (v:=.slice a 0 0) (by cases a<;>simp[Instr.sliceAt,run_underlying hu,Instr.slice,this,sizeOf,au fW]) (by simpa using VR.dq a)
 | @sl _ _ r o cap n a7 hk hc hn h3 h4 =>
  have AD:k≠.nil:=by rintro rfl;exact hk.elim
  simp only[AD,if_false]
  have hr:(Instr.sliceAt ty (.slice (some ⟨r,o,none⟩) es.length cap) dK (some ej) (some (.int km nm))).run P w=.ok (.slice (some (if m=l then⟨r,o,none⟩else⟨r,o+l*ei.size,none⟩)) (hh-l) (m-l)) w:=by
   simp[Instr.sliceAt,run_underlying hu,Instr.slice,hb cap (by omega),sizeOf,au fW,a8]
   split<;>rfl
  by_cases he:l<hh
  ·have hC:m≠l:=by omega
   simp only[hC,if_false]at hr
   have aF:es≠[]:=by rintro rfl;simp at AB;omega
   have uA:n=ei.size:=by
    cases es with
    | nil=>exact absurd rfl aF
    | cons c es=>have a:=hn c (by simp);have b:=ig c (by simp);omega
   subst uA
   simp only[aF,false_and,if_false]
   refine aG.same h hr (nX (k:=k) (cap:=cap) (a:=none) a7 hn h3 h4 h1 (by omega) (by omega) ?_)
   split
   ·rename_i e;simp only[o9];omega
   ·trivial
  ·obtain rfl:l=hh:=by omega
   have hd:(es.take l).drop l=[]:=by simp
   rw[hd]
   have mN:∀(a:Addr) (c:Nat) (k':SK),a.spot=none→(k'=.arg∨(k'=.full∧c=0))→VR g w (.sl k' []) (.slice (some a) 0 c):=by
    intro a c k' ha nY
    obtain⟨ab,ao,aq⟩:=a
    simp at ha;subst ha
    refine .sl (n:=0) (fun _ _=>.nilIface) ?_ (by simp) (by simp) (by simp) (by simp)
    rcases nY with rfl|⟨rfl,rfl⟩
    ·trivial
    ·rfl
   refine aG.same h hr ?_
   rw[Nat.sub_self]
   refine mN _ _ _ (by split<;>rfl) ?_
   split
   ·exact .inl rfl
   ·split
    ·exact .inr ⟨rfl,by omega⟩
    ·exact .inl rfl
theorem qx {R:ai}{ty elem:TypeId}{ei:TypeInfo}{b off len l hh:Nat}{lo hi:Option X}{dK ej:Option Value}{vx:Value}(hu:P.underlying ty=some (.slice elem))(fW:P.info? elem=some ei)
  (h:SR w0 g H w) (hx:VR g w (.aQ b off len ei.size) vx) (jd:OV g w R lo dK)
  (lC:OV g w R hi ej) (hl:cX R 0 lo=some l) (ky:cX R len hi=some hh) (h1:l≤hh) (h2:hh≤len) :
  aG P w0 g H w (Instr.sliceAt ty vx dK ej none) (if l=hh then(if l=0 then .aQ b off 0 ei.size else .sl .arg [])else .aQ b (off+l*ei.size) (hh-l) ei.size) H:=by
 cases hx with
 | @aQ _ _ _ _ r o q cap hφ hc hq =>
  have:=cf (P:=P) (w:=w) (g:=g) (qv:=true) (cap:=cap) jd lC hl ky (fun _=>rfl) h1 (by omega)
  have hr:(Instr.sliceAt ty (.slice (some ⟨r,o+off,none⟩) len cap) dK ej none).run P w=.ok (.slice (some (if cap=l then⟨r,o+off,none⟩else⟨r,o+off+l*ei.size,none⟩)) (hh-l) (cap-l)) w:=by
   simp[Instr.sliceAt,run_underlying hu,Instr.slice,this,sizeOf,au fW,a8]
   split<;>rfl
  refine aG.same h hr ?_
  have key:∀a:Addr,a=⟨r,o+(off+l*ei.size),none⟩→(cap≠l∨l=0)→VR g w (.aQ b (off+l*ei.size) (hh-l) ei.size) (.slice (some a) (hh-l) (cap-l)):=by
   rintro a rfl hC
   refine .aQ hφ (by omega) ?_
   rw[←hq]
   have:l*ei.size+(cap-l)*ei.size=cap*ei.size:=by rw[←Nat.add_mul];congr 1;omega
   omega
  split
  ·rename_i e;subst e
   split
   ·rename_i e;subst e
    have:=key (if cap=0 then⟨r,o+off,none⟩else⟨r,o+off+0*ei.size,none⟩) (by split<;>simp) (.inr rfl)
    simpa using this
   ·rw[Nat.sub_self]
    have mN:∀(a:Addr) (c:Nat),a.spot=none→VR g w (.sl .arg []) (.slice (some a) 0 c):=by
     intro a c ha
     obtain⟨ab,ao,aq⟩:=a
     simp at ha;subst ha
     exact .sl (n:=0) (fun _ _=>.nilIface) trivial (by simp) (by simp) (by simp) (by simp)
    exact mN _ _ (by split<;>rfl)
  ·have hC:cap≠l:=by omega
   exact key _ (by rw[if_neg hC,Nat.add_assoc]) (.inl hC)
theorem uL {R:ai}{ty elem:TypeId}{ei:TypeInfo}{b off len hh:Nat}{hi:X}{ej:Value}{vx:Value}(hu:P.underlying ty=some (.slice elem))(fW:P.info? elem=some ei)
  (h:SR w0 g H w) (hx:VR g w (.aQ b off len ei.size) vx)
  (lC:OV g w R (some hi) (some ej)) (ky:aR (hi.ev R)=some hh) (hn:ei.size≠0) (h0:0<hh) (hr:off+hh*ei.size≤qe H b) :
  aG P w0 g H w (Instr.sliceAt ty vx none (some ej) none) (.aQ b off hh ei.size) H:=by
 cases hx with
 | @aQ _ _ _ _ r o q cap hφ hc hq =>
  have kX:o+(off+hh*ei.size)≤q:=by
   unfold qe at hr
   split at hr
   ·rename_i cs hb
    have:=(h.dy _ _ hb r o q hφ).1;omega
   ·rename_i cs hb
    have:=(h.dy _ _ hb r o q hφ).1;omega
   ·have:0<hh*ei.size:=Nat.mul_pos h0 (Nat.pos_of_ne_zero hn)
    omega
  have fG:hh≤cap:=by
   have h1:hh*ei.size≤cap*ei.size:=by omega
   exact Nat.le_of_mul_le_mul_right h1 (Nat.pos_of_ne_zero hn)
  have:=cf (P:=P) (w:=w) (g:=g) (R:=R) (qv:=true) (d:=len) (len:=len) (cap:=cap) (lo:=none) (dK:=none) (l:=0) trivial lC rfl ky (fun _=>rfl) (Nat.zero_le _) fG
  have hr:(Instr.sliceAt ty (.slice (some ⟨r,o+off,none⟩) len cap) none (some ej) none).run P w=.ok (.slice (some (if cap=0 then⟨r,o+off,none⟩else⟨r,o+off+0*ei.size,none⟩)) (hh-0) (cap-0)) w:=by
   simp[Instr.sliceAt,run_underlying hu,Instr.slice,this,sizeOf,au fW,a8]
  refine aG.same h hr ?_
  have:VR g w (.aQ b off hh ei.size) (.slice (some ⟨r,o+off,none⟩) hh cap):=.aQ hφ fG hq
  simpa using this
theorem qy {R:ai}{ty elem:TypeId}{ei:TypeInfo}{b off len c l hh:Nat}{lo hi:Option X}{dK ej:Option Value}{vx:Value}(hu:P.underlying ty=some (.slice elem))(fW:P.info? elem=some ei)
  (h:SR w0 g H w) (hx:VR g w (.bU b off len ei.size c) vx) (jd:OV g w R lo dK)
  (lC:OV g w R hi ej) (hl:cX R 0 lo=some l) (ky:cX R len hi=some hh) (h1:l≤hh) (h2:hh≤c) :
  aG P w0 g H w (Instr.sliceAt ty vx dK ej none) (if l<c∨l=0 then .bU b (off+l*ei.size) (hh-l) ei.size (c-l)else .sl .arg []) H:=by
 cases hx with
 | @bU _ _ _ _ r o q cap hφ hc hq =>
  have:=cf (P:=P) (w:=w) (g:=g) (qv:=true) (cap:=c) jd lC hl ky (fun _=>rfl) h1 (by omega)
  have hr:(Instr.sliceAt ty (.slice (some ⟨r,o+off,none⟩) len c) dK ej none).run P w=.ok (.slice (some (if c=l then⟨r,o+off,none⟩else⟨r,o+off+l*ei.size,none⟩)) (hh-l) (c-l)) w:=by
   simp[Instr.sliceAt,run_underlying hu,Instr.slice,this,sizeOf,au fW,a8]
   split<;>rfl
  refine aG.same h hr ?_
  by_cases h3:l<c∨l=0
  case neg =>
   rw[if_neg h3]
   have e0:hh-l=0:=by omega
   have mN:∀(a:Addr) (c:Nat),a.spot=none→VR g w (.sl .arg []) (.slice (some a) 0 c):=by
    intro a c ha
    obtain⟨ab,ao,aq⟩:=a
    simp at ha;subst ha
    exact .sl (n:=0) (fun _ _=>.nilIface) trivial (by simp) (by simp) (by simp) (by simp)
   rw[e0]
   exact mN _ _ (by split<;>rfl)
  rw[if_pos h3]
  have e:(if c=l then(⟨r,o+off,none⟩:Addr)else⟨r,o+off+l*ei.size,none⟩)=⟨r,o+(off+l*ei.size),none⟩:=by
   split
   ·have:l=0:=by omega
    subst this;simp
   ·simp[Nat.add_assoc]
  rw[e]
  refine .bU hφ (by omega) ?_
  rw[←hq]
  have:l*ei.size+(c-l)*ei.size=c*ei.size:=by rw[←Nat.add_mul];congr 1;omega
  omega
end
section
variable {P:Program} {w0 w:World} {g:Ctx} {H:aa}
def fo (P:Program)(ty:TypeId):KT→Bool
 | .sc t=>match P.underlying ty with|some d=>tV t d|none=>false
 | .st ks=>match P.underlying ty with|some (.struct fs)=>flat P fs.toList 0 ks&&!P.stoodInHeld ty|_=>false
theorem qz {e:Bool}{n:Nat}{ty:TypeId}{d:TypeDesc}{k:kW}{v:Value}(hu:P.underlying ty=some d)(hk:tV k d=true):(Instr.checkKey e (n+1) ty v).run P w=.ok () w:=by
 rw[Instr.checkKey];simp only[Sem.run_bind,run_underlying hu,Result.andThen_ok]
 cases k<;>cases d<;>simp[tV]at hk<;>cases v<;>rfl
theorem fH {e:Bool}{n:Nat}:∀(fs:List Field) (off:Nat) (ks:List kW) (cs:List T) (xs:Array Value),flat P fs off ks=true→cs.length=ks.length →
  (∀(i:Nat) (t:T),cs[i]?=some t→∃v,xs[off+i]?=some v∧VR g w t v) →
  (forIn fs PUnit.unit (fun f _=>if f.name≠"_" then (do let x ← part f.type xs f.offset;Instr.checkKey e (n+1) f.type x;pure (ForInStep.yield PUnit.unit))
   else pure (ForInStep.yield PUnit.unit)):Sem PUnit).run P w=.ok PUnit.unit w
 | [],off,ks,cs,xs,hf,hl,hc=>by simp
 | f :: fs,off,ks,cs,xs,hf,hl,hc=>by
  cases ks with
  | nil=>simp[flat]at hf
  | cons k ks =>
   cases cs with
   | nil=>simp at hl
   | cons c cs =>
    simp only[flat,Bool.and_eq_true,beq_iff_eq,bne_iff_ne]at hf
    obtain⟨⟨⟨pf,qq⟩,p4⟩,bR⟩:=hf
    cases hu:P.underlying f.type with
    | none=>simp[hu]at p4
    | some de =>
     simp[hu]at p4
     obtain⟨va,Az,GP⟩:=hc 0 c rfl
     simp only[Nat.add_zero]at Az
     have ih:=fH (e:=e) (n:=n) fs (off+1) ks cs xs bR (by simpa using hl) (fun i t hi=>by have:=hc (i+1) t (by simpa using hi);rwa[show off+1+i=off+(i+1) by omega])
     simp only[List.forIn_cons,Sem.run_bind,qq,ne_eq,not_false_eq_true,if_true,pf,fZ hu p4 Az,Result.andThen_ok,qz hu p4,Sem.run_pure]
     exact ih
theorem im:∀(ks:List kW) (cs:List T),hasAll ks cs=true→cs.length=ks.length
 | [],[],_=>rfl
 | _ :: ks,_ :: cs,h=>by simp[hasAll]at h;simp[im ks cs h.2]
 | [],_ :: _,h=>by simp[hasAll]at h
 | _ :: _,[],h=>by simp[hasAll]at h
theorem eA {e:Bool}{ty:TypeId}{kt:KT}{k:T}{vk:Value}(dU:fo P ty kt=true)(hk:VR g w k vk)(h:k.dw kt=true):(Instr.checkKey e 10000 ty vk).run P w=.ok () w:=by
 cases kt with
 | sc t =>
  simp only[fo]at dU
  cases hu:P.underlying ty with
  | none=>simp[hu]at dU
  | some d=>simp[hu]at dU;exact qz (n:=9999) hu dU
 | st ks =>
  simp only[fo]at dU
  cases hu:P.underlying ty with
  | none=>simp[hu]at dU
  | some d =>
   cases d<;>simp[hu]at dU
   rename_i fs
   cases k<;>simp[T.dw]at h
   rename_i cs
   obtain⟨xs,rfl,tW,_⟩:=hk.cn
   show(Instr.checkKey e (9998+1+1) ty _).run P w=_
   rw[Instr.checkKey];simp only[Sem.run_bind,run_underlying hu,Result.andThen_ok]
   rw[←Array.forIn_toList]
   rw[fH (g:=g) (e:=e) (n:=9998) fs.toList 0 ks cs xs.toArray dU.1 (im _ _ h) (fun i t hi=>by simpa using tW.cp i t hi)]
   rfl
theorem qA {n:Nat}{ty:TypeId}{kt:KT}{a b:T}{va vb:Value}{r:Bool}(dU:fo P ty kt=true)(ha:VR g w a va)(hb:VR g w b vb)(hk:a.dw kt=true)(he:dn a b=some r) :
  (Op.equalIn (n+1+1) ty va vb).run P w=.ok r w:=by
 cases kt with
 | sc t =>
  simp only[fo]at dU
  cases hu:P.underlying ty with
  | none=>simp[hu]at dU
  | some d =>
   simp[hu]at dU
   have wK:dA a b=some r:=by
    cases a<;>simp[T.dw]at hk<;>(first|exact he|(cases t<;>simp[T.mR]at hk))
   exact nW hu dU ha hb hk wK
 | st ks =>
  simp only[fo]at dU
  cases hu:P.underlying ty with
  | none=>simp[hu]at dU
  | some d =>
   cases d<;>simp[hu]at dU
   rename_i fs
   cases a<;>simp[T.dw]at hk
   rename_i cs
   cases b<;>simp[dn,dA]at he
   rename_i ds
   obtain⟨xs,rfl,tW,_⟩:=ha.cn
   obtain⟨ys,rfl,Ea,_⟩:=hb.cn
   exact jD hu dU.1 (by simpa using dU.2) hk tW Ea he n
theorem mY {t:kW}{d:TypeDesc}{a b:T}{va vb:Value}{r:Bool}(hd:tV t d=true)(ha:VR g w a va)(hb:VR g w b vb)(hk:a.mR t=true)(he:dn a b=some r):Instr.sameNow d va vb=some r:=by
 cases t<;>cases d<;>simp[tV]at hd<;>cases ha<;>simp[T.mR]at hk<;>cases hb<;>simp[dn,dA]at he
 ·obtain⟨rfl,rfl⟩:=he;simp[Instr.sameNow]
 ·subst he;simp[Instr.sameNow,dm,beq_toListBytes]
 ·subst he;simp[Instr.sameNow]
theorem kC {ty:TypeId}{kt:KT}{k:T}{vk:Value}(dU:fo P ty kt=true)(hk:VR g w k vk)(h:k.dw kt=true)(es:List (T×T))(ah:List MapEntry)(hl:ah.length=es.length)
  (hh:∀(i:Nat) (e:T×T) (m:MapEntry),es[i]?=some e→ah[i]?=some m→VR g w e.1 m.key∧VR g w e.2 m.val) {r:Option Nat} (hr:bm k es=some r) :
  (Instr.findKey ty vk ah).run P w=.ok (r.bind fun i=>(ah[i]?).map fun m=>(i,m.val)) w:=by
 cases kt with
 | sc t =>
  simp only[fo]at dU
  cases hu:P.underlying ty with
  | none=>simp[hu]at dU
  | some d =>
   simp[hu]at dU
   have key:∀(es:List (T×T)) (ah:List MapEntry) (j:Nat) (r:Option Nat),ah.length=es.length→(∀(i:Nat) (e:T×T) (m:MapEntry),es[i]?=some e→ah[i]?=some m→VR g w e.1 m.key∧VR g w e.2 m.val) →
     bm k es=some r→Instr.findNow d vk ah j=some (r.bind fun i=>(ah[i]?).map fun m=>(j+i,m.val)):=by
    intro es
    induction es with
    | nil =>
     intro ah j r hl _ hr
     simp[bm]at hr;subst hr
     cases ah with
     | nil=>rfl
     | cons _ _=>simp at hl
    | cons e es ih =>
     intro ah j r hl hh hr
     cases ah with
     | nil=>simp at hl
     | cons m ah =>
      have h0:=hh 0 e m rfl rfl
      simp only[bm]at hr
      cases he:dn k e.1 with
      | none=>simp[he]at hr
      | some b =>
       have hs:=mY dU hk h0.1 h he
       cases b with
       | true=>simp[he]at hr;subst hr;simp[Instr.findNow,hs]
       | false =>
        simp only[he,Option.map_eq_some_iff]at hr
        obtain⟨r',h1,rfl⟩:=hr
        simp only[Instr.findNow,hs]
        rw[ih ah (j+1) r' (by simpa using hl) (fun i e' m' a b=>hh (i+1) e' m' (by simpa using a) (by simpa using b)) h1]
        cases r' with
        | none=>rfl
        | some i=>simp;cases ah[i]?<;>simp;omega
   have:=key es ah 0 r hl hh hr
   simp only[Instr.findKey,Sem.run_bind,run_underlying hu,Result.andThen_ok,this,Sem.run_pure]
   simp
 | st ks =>
  have Ee:=dU
  simp only[fo]at dU
  cases hu:P.underlying ty with
  | none=>simp[hu]at dU
  | some d =>
   cases d<;>simp[hu]at dU
   rename_i fs
   have key:∀(es:List (T×T)) (ah:List MapEntry) (j:Nat) (r:Option Nat),ah.length=es.length→(∀(i:Nat) (e:T×T) (m:MapEntry),es[i]?=some e→ah[i]?=some m→VR g w e.1 m.key∧VR g w e.2 m.val) →
     bm k es=some r→(Instr.findAsking ty vk ah j).run P w=.ok (r.bind fun i=>(ah[i]?).map fun m=>(j+i,m.val)) w:=by
    intro es
    induction es with
    | nil =>
     intro ah j r hl _ hr
     simp[bm]at hr;subst hr
     cases ah with
     | nil=>rfl
     | cons _ _=>simp at hl
    | cons e es ih =>
     intro ah j r hl hh hr
     cases ah with
     | nil=>simp at hl
     | cons m ah =>
      have h0:=hh 0 e m rfl rfl
      simp only[bm]at hr
      cases he:dn k e.1 with
      | none=>simp[he]at hr
      | some b =>
       have hs:(Op.equal ty vk m.key).run P w=.ok b w:=qA (n:=9998) Ee hk h0.1 h he
       cases b with
       | true=>simp[he]at hr;subst hr;simp[Instr.findAsking,hs]
       | false =>
        simp only[he,Option.map_eq_some_iff]at hr
        obtain⟨r',h1,rfl⟩:=hr
        simp only[Instr.findAsking,Sem.run_bind,hs,Result.andThen_ok,Bool.false_eq_true,if_false]
        rw[ih ah (j+1) r' (by simpa using hl) (fun i e' m' a b=>hh (i+1) e' m' (by simpa using a) (by simpa using b)) h1]
        cases r' with
        | none=>rfl
        | some i=>simp;cases ah[i]?<;>simp;omega
   have nY:=key es ah 0 r hl hh hr
   cases ah with
   | nil =>
    simp only[Instr.findKey,Sem.run_bind,run_underlying hu,Result.andThen_ok,Instr.findNow,Sem.run_pure]
    exact nY
   | cons m ah =>
    have:Instr.findNow (.struct fs) vk (m :: ah) 0=none:=by simp[Instr.findNow,Instr.sameNow]
    simp only[Instr.findKey,Sem.run_bind,run_underlying hu,Result.andThen_ok,this]
    simpa using nY
def qB (w:World)(vm:Value)(ah:Array MapEntry):Prop:=(vm=.map none∧ah=#[])∨∃r c,vm=.map (some r)∧w.heap[r]?=some (.map ah c)
theorem pj {m:T}{vm:Value}{es:List (T×T)}(h:SR w0 g H w)(hm:VR g w m vm)(eZ:cu H m=some es):∃ah,qB w vm ah∧bB g w es ah:=by
 cases hm<;>simp[cu]at eZ
 ·subst eZ;exact⟨#[],.inl ⟨rfl,rfl⟩,⟨rfl,by simp⟩⟩
 ·rename_i b r' o q hφ
  cases hb:H[b]? with
  | none=>simp[hb]at eZ
  | some y =>
   cases y<;>simp[hb]at eZ
   ·subst eZ
    obtain⟨_,ah,c,h2,h3,_⟩:=h.dy b _ hb r' o q hφ
    exact⟨ah,.inr ⟨r',c,rfl,h2⟩,h3⟩
   ·subst eZ
    obtain⟨r2,o',q',dR,_,ah,c,h2,h3,_⟩:=h.dy b _ hb
    rw[hφ]at dR;cases dR
    exact⟨ah,.inr ⟨r',c,rfl,h2⟩,h3⟩
theorem iq {ty key elem:TypeId}{ei:TypeInfo}{zv vm vk:Value}{ok:Bool}{ah:Array MapEntry}{r:Option (Nat×Value)}(hu:P.underlying ty=some (.map key elem))(hi:P.info? elem=some ei)(hz:ei.zero=some zv)
  (he:qB w vm ah) (hc:(Instr.checkKey ah.isEmpty 10000 key vk).run P w=.ok () w) (hf:(Instr.findKey key vk ah.toList).run P w=.ok r w) :
  (Instr.lookup ty vm vk ok).run P w=.ok (match r with|some (_,v)=>if ok then .tuple #[v,.bool true]else v|none=>if ok then .tuple #[zv,.bool false]else zv) w:=by
 rcases he with⟨rfl,rfl⟩|⟨rr,c,rfl,h2⟩
 ·have DD:(Instr.findKey key vk []).run P w=.ok r w:=hf
  have ij:(Instr.checkKey true 10000 key vk).run P w=.ok () w:=hc
  simp only[Instr.lookup,Sem.run_bind,run_underlying hu,Result.andThen_ok]
  cases r with
  | none=>simp[ij,DD,zeroValue,au hi,hz]
  | some x=>obtain⟨i,v⟩:=x;simp[ij,DD]
 ·simp only[Instr.lookup,Sem.run_bind,run_underlying hu,Result.andThen_ok]
  cases r with
  | none=>simp[getObj,Sem.run,h2,hc,hf,zeroValue,au hi,hz]
  | some x=>obtain⟨i,v⟩:=x;simp[getObj,Sem.run,h2,hc,hf]
theorem nZ {ty key elem:TypeId}{ei:TypeInfo}{zv:Value}{kt:KT}{z m k t:T}{ok:Bool}{vm vk:Value}{es:List (T×T)}{r:Option Nat}(hu:P.underlying ty=some (.map key elem))(hi:P.info? elem=some ei)(hz:ei.zero=some zv)(je:fm zv=some z)
  (dU:fo P key kt=true) (h:SR w0 g H w) (hm:VR g w m vm) (hk:VR g w k vk) (mZ:k.dw kt=true)
  (eZ:cu H m=some es) (hr:bm k es=some r)
  (ht:(match r with|some i=>(es[i]?).map fun e=>if ok then T.bo [e.2,.bool true]else e.2|none=>some (if ok then .bo [z,.bool false]else z))=some t):aG P w0 g H w (Instr.lookup ty vm vk ok) t H:=by
 obtain⟨ah,GR,hE⟩:=pj h hm eZ
 have hf:=kC dU hk mZ es ah.toList (by simpa using hE.1) (fun i e m a b=>hE.2 i e m a (by simpa using b)) hr
 have hc:=eA (e:=ah.isEmpty) dU hk mZ
 have GS:VR g w z zv:=eO je
 cases r with
 | none =>
  simp only[Option.some.injEq]at ht
  subst ht
  refine aG.same h (iq hu hi hz GR hc hf) ?_
  cases ok
  ·exact GS
  ·exact ay.bo (ay.cons GS (ay.cons (.bool _) ay.nil))
 | some i =>
  cases he:es[i]? with
  | none=>simp[he]at ht
  | some e =>
   have aD:i<ah.size:=by rw[hE.1];exact(List.getElem?_eq_some_iff.1 he).1
   have yS:ah[i]?=some ah[i]:=Array.getElem?_eq_getElem aD
   have hv:=(hE.2 i e _ he yS).2
   simp only[he,Option.map_some,Option.some.injEq]at ht
   subst ht
   have hx:((some i:Option Nat).bind fun i=>(ah.toList[i]?).map fun m=>(i,m.val))=some (i,ah[i].val):=by simp[aD]
   rw[hx]at hf
   refine aG.same h (iq hu hi hz GR hc hf) ?_
   cases ok
   ·exact hv
   ·exact ay.bo (ay.cons hv (ay.cons (.bool _) ay.nil))
theorem uM {vs:List T}{i:Nat}{t:T}{vx:Value}(h:SR w0 g H w)(hx:VR g w (.bo vs) vx)(he:vs[i]?=some t):aG P w0 g H w (Instr.extract vx i) t H:=by
 obtain⟨xs,rfl,tW⟩:=hx.uq
 obtain⟨v,h1,h2⟩:=tW.cp i t he
 exact aG.same h (by simp at h1;simp[Instr.extract,h1]) h2
theorem yT {rt:TypeId}{dt:Array TypeId}{k k':IntKind}{a b:Int}{vx vy:Value}(h:SR w0 g H w)(hx:VR g w (.int k a) vx)(hy:VR g w (.int k' b) vy):aG P w0 g H w (Builtin.min_ dt rt #[vx,vy]) (.int k (if b<a then b else a)) H:=by
 cases hx;cases hy
 exact aG.same h (by simp[Builtin.min_,Builtin.min2]) (.int _ _)
theorem yU {rt:TypeId}{dt:Array TypeId}{k k':IntKind}{a b:Int}{vx vy:Value}(h:SR w0 g H w)(hx:VR g w (.int k a) vx)(hy:VR g w (.int k' b) vy):aG P w0 g H w (Builtin.max_ dt rt #[vx,vy]) (.int k (if b>a then b else a)) H:=by
 cases hx;cases hy
 exact aG.same h (by simp[Builtin.max_,Builtin.max2]) (.int _ _)
end
section
variable {P:Program} {w0 w:World} {g:Ctx} {H:aa}
def b7:Nat→Nat→Prop:=fun _ _=>False
def cL:Nat→Prop:=fun _=>False
theorem Tr.drew (w:World):Tr w w.drew b7 cL:=⟨⟨Nat.le_refl _,fun _ _ _ _=>rfl,fun _ _ _ h=>h,fun _ _ _ _ h=>h,fun _ _ _ _=>rfl,rfl,rfl⟩,fun _ _ _=>rfl⟩
theorem Tr.refl (w:World):Tr w w b7 cL:=⟨⟨Nat.le_refl _,fun _ _ _ _=>rfl,fun _ _ _ h=>h,fun _ _ _ _ h=>h,fun _ _ _ _=>rfl,rfl,rfl⟩,fun _ _ _=>rfl⟩
theorem Tr.alloc (w:World)(o:Obj):Tr w (w.alloc o) b7 cL where
 size:=by simp
 cell r j hr _:=World.cell?_alloc_lt w o ⟨r,j,none⟩ hr
 p0 r j hr:=World.frozen?_alloc_old w o ⟨r,j,none⟩ (Nat.ne_of_lt hr)
 fj r j hr h:=by rw[World.cell?_alloc_lt w o ⟨r,j,none⟩ hr];exact h
 maps r x _ _ h:=by
  have hr:r<w.heap.size:=(Array.getElem?_eq_some_iff.1 h).1
  simp only[World.alloc,Array.getElem?_push];rw[if_neg (by omega)];exact h
 er r hr _ _:=by simp only[World.alloc,Array.getElem?_push];rw[if_neg (by omega)]
 env:=⟨rfl,rfl⟩
theorem Tr.trans {w w' Ax:World}{S:Nat→Nat→Prop}{M:Nat→Prop}(h:Tr w w' S M)(h':Tr w' Ax S M):Tr w Ax S M where
 size:=Nat.le_trans h.size h'.size
 cell r j hr hs:=(h'.cell r j (Nat.lt_of_lt_of_le hr h.size) hs).trans (h.cell r j hr hs)
 p0 r j hr:=(h'.p0 r j (Nat.lt_of_lt_of_le hr h.size)).trans (h.p0 r j hr)
 fj r j hr hs:=h'.fj r j (Nat.lt_of_lt_of_le hr h.size) (h.fj r j hr hs)
 maps r x hm hs h1:=h'.maps r x hm hs (h.maps r x hm hs h1)
 er r hr hm hs:=(h'.er r (Nat.lt_of_lt_of_le hr h.size) hm hs).trans (h.er r hr hm hs)
 env:=⟨h'.env.1.trans h.env.1,h'.env.2.trans h.env.2⟩
theorem aV (r:Nat):∀(vs:List Value) (o:Nat) (w:World) (r' j:Nat),¬(r'=r∧o≤j∧j<o+vs.length)→(w.setCells r o vs).cell? ⟨r',j,none⟩=w.cell? ⟨r',j,none⟩
 | [],_,_,_,_,_=>rfl
 | v :: vs,o,w,r',j,h=>by
  rw[World.setCells,aV r vs (o+1) _ r' j (by simp at h ⊢;omega),World.cell?_setCell_other]
  intro e
  simp at e
  exact h ⟨e.1.symm,by omega,by simp;omega⟩
theorem aX (r:Nat):∀(vs:List Value) (o:Nat) (w:World),(∀j,o≤j→j<o+vs.length→(w.cell? ⟨r,j,none⟩).isSome=true)→∀(i:Nat) (v:Value),vs[i]?=some v→(w.setCells r o vs).cell? ⟨r,o+i,none⟩=some v
 | [],_,_,_,i,v,h=>by simp at h
 | u :: vs,o,w,hs,i,v,h=>by
  rw[World.setCells]
  cases i with
  | zero =>
   simp at h;subst h
   rw[aV r vs (o+1) _ r _ (by omega)]
   obtain⟨x,hx⟩:=Option.isSome_iff_exists.1 (hs o (Nat.le_refl _) (by simp))
   exact World.cell?_setCell_same w ⟨r,o,none⟩ u hx
  | succ i =>
   have:=aX r vs (o+1) (w.setCell ⟨r,o,none⟩ u) (fun j h1 h2=>by
    rw[World.cell?_setCell_other _ _ _ _ (by simp;omega)]
    exact hs j (by omega) (by simp;omega)) i v (by simpa using h)
   rwa[show o+(i+1)=o+1+i by omega]
theorem bu (r:Nat):∀(vs:List Value) (o:Nat) (w:World),(w.setCells r o vs).heap.size=w.heap.size
 | [],_,_=>rfl
 | v :: vs,o,w=>by rw[World.setCells,bu r vs,World.size_setCell]
theorem e6 (r:Nat):∀(vs:List Value) (o:Nat) (w:World) (r':Nat),r'≠r→(w.setCells r o vs).heap[r']?=w.heap[r']?
 | [],_,_,_,_=>rfl
 | v :: vs,o,w,r',h=>by
  rw[World.setCells,e6 r vs _ _ r' h]
  simp only[World.setCell,Array.getElem?_modify];rw[if_neg (fun e=>h e.symm)]
theorem fI (r:Nat):∀(vs:List Value) (o:Nat) (w:World) (r':Nat) (x:Obj),cw x=true→w.heap[r']?=some x→(w.setCells r o vs).heap[r']?=some x
 | [],_,_,_,_,_,h=>h
 | v :: vs,o,w,r',x,hs,h=>by
  rw[World.setCells]
  refine fI r vs _ _ r' x hs ?_
  simp only[World.setCell,Array.getElem?_modify]
  split
  ·rename_i e;rw[h];cases x<;>simp[cw]at hs<;>rfl
  ·exact h
theorem fJ (r:Nat):∀(vs:List Value) (o:Nat) (w:World),(w.setCells r o vs).os=w.os∧(w.setCells r o vs).output=w.output
 | [],_,_=>⟨rfl,rfl⟩
 | v :: vs,o,w=>by rw[World.setCells];exact fJ r vs _ _
def lD (r o n:Nat):Nat→Nat→Prop:=fun r' j=>r'=r∧o≤j∧j<o+n
theorem Tr.setCells (w:World)(r o:Nat)(vs:List Value)(hs:∀j,o≤j→j<o+vs.length→(w.cell? ⟨r,j,none⟩).isSome=true):Tr w (w.setCells r o vs) (lD r o vs.length) cL where
 size:=by rw[bu];exact Nat.le_refl _
 cell r' j _ h:=aV r vs o w r' j h
 p0 r' j _:=World.frozen?_setCells r vs o w _
 fj r' j _ h:=by
  by_cases e:r'=r∧o≤j∧j<o+vs.length
  ·obtain⟨rfl,e1,e2⟩:=e
   have hi:j-o<vs.length:=by omega
   have:=aX r' vs o w hs (j-o) _ (List.getElem?_eq_getElem hi)
   rw[show o+(j-o)=j by omega]at this
   rw[this];rfl
  ·rw[aV r vs o w r' j e];exact h
 maps r' x _ hs h:=fI r vs o w r' x hs h
 er r' _ _ h:=by
  by_cases e:r'=r
  ·cases vs with
   | nil=>rfl
   | cons v vs=>exact absurd ⟨e,Nat.le_refl _,by simp⟩ (h o)
  ·exact e6 r vs o w r' e
 env:=fJ r vs o w
def Ctx.row (g:Ctx)(r:Nat)(f:Nat→Ow):Ctx:={ g with κ:=fun r' j=>if r'=r then f j else g.κ r' j }
def Ctx.at (g:Ctx)(b:Nat)(x:Nat×Nat×Nat):Ctx:={ g with φ:=fun b'=>if b'=b then some x else g.φ b' }
def Ctx.tok (g:Ctx)(t e:Nat)(x:Nat×Nat×Nat):Ctx:={ g with π:=fun t' e'=>if t'=t∧e'=e then some x else g.π t' e' }
theorem Le.cz {w':World}{g':Ctx}{S:Nat→Nat→Prop}{M:Nat→Prop}(tr:Tr w w' S M)(hφ:∀b x,g.φ b=some x→g'.φ b=some x)(hκ:∀r o,g.κ r o=.cI→g'.κ r o=.cI)(hπ:∀t e x,g.π t e=some x→g'.π t e=some x)
  (hS:∀r j,S r j→g.κ r j≠.cI) (HD:g'.ck=g.ck:=by rfl):Le g w g' w' :=
 ⟨hφ,hκ,hπ,fun r o v hk hc=>by rw[tr.cell r o (dQ hc) (fun hs=>hS r o hs hk)];exact hc,HD⟩
theorem SR.AE {c:Array Value}{ty:TypeId}{fr:Nat×Nat}{w1:World}(h:SR w0 g H w)(tr:Tr w w1 b7 cL)(hz:w1.heap.size=w.heap.size) :
  Le g w (g.row w.heap.size fun _=>.cI) (w1.alloc (.cells c ty fr))∧SR w0 (g.row w.heap.size fun _=>.cI) H (w1.alloc (.cells c ty fr))∧Fr g H (g.row w.heap.size fun _=>.cI) H ∧
  ∀(j:Nat) (v:Value),c[j]?=some v→mL (g.row w.heap.size fun _=>.cI) (w1.alloc (.cells c ty fr)) w.heap.size j v:=by
 have jG:=tr.trans (Tr.alloc w1 (.cells c ty fr))
 have le:Le g w (g.row w.heap.size fun _=>.cI) (w1.alloc (.cells c ty fr)):=Le.cz jG (fun _ _ h=>h) (fun r o hk=>by simp only[Ctx.row];split;rfl;exact hk) (fun _ _ _ h=>h) (fun _ _ hs=>hs.elim)
 refine⟨le,?_,⟨Nat.le_refl _,fun _ _ a _ b=>⟨a,b⟩⟩,fun j v hj=>⟨by simp[Ctx.row],?_⟩⟩
 ·refine h.step (fun _=>False) jG le (fun _ _ hs=>hs.elim) (fun _ hm=>hm.elim) (fun r o hr=>?_) h.gG h.cd (fun _ _ _=>rfl) (fun r j b _=>?_) (fun _ _ _ _=>rfl) (fun b x hx=>.inl ⟨fun hf=>hf,hx⟩)
  ·simp at hr
   simp only[Ctx.row];rw[if_neg (by omega)];exact h.fresh r o (by omega)
  ·have aF:∀ow,g.κ r j=ow→ow≠.free→r≠w.heap.size:=by rintro ow e hn rfl;exact hn (e▸h.fresh _ j (Nat.le_refl _))
   constructor<;>intro e<;>simp only[Ctx.row]<;>rw[if_neg (aF _ e (by simp))]<;>exact e
 ·rw[←hz]
  have:(w1.alloc (.cells c ty fr)).heap[w1.heap.size]?=some (.cells c ty fr):=by
   show(w1.heap.push (.cells c ty fr))[w1.heap.size]?=_
   simp
  unfold World.cell?
  rw[this]
  exact hj
theorem SR.cI {c:Array Value}{ty:TypeId}{w1:World}(h:SR w0 g H w)(tr:Tr w w1 b7 cL)(hz:w1.heap.size=w.heap.size) :
  Le g w (g.row w.heap.size fun _=>.cI) (w1.alloc (.cells c ty))∧SR w0 (g.row w.heap.size fun _=>.cI) H (w1.alloc (.cells c ty))∧Fr g H (g.row w.heap.size fun _=>.cI) H ∧
  ∀(j:Nat) (v:Value),c[j]?=some v→mL (g.row w.heap.size fun _=>.cI) (w1.alloc (.cells c ty)) w.heap.size j v:=h.AE tr hz
theorem SR.mut {c:Array Value}{ty:TypeId}{w1:World}{H':aa}{b:Nat}{cs:List T}(h:SR w0 g H w)(tr:Tr w w1 b7 cL)(hz:w1.heap.size=w.heap.size)
  (hb:H'[b]?=some (.cells cs)) (hn:g.φ b=none) (hH:∀b' x,b'≠b→H'[b']?=some x→H[b']?=some x∨x=.dead) (hl:H.length≤H'.length) (Af:∀b' x,H[b']?=some x→(∀e,x≠.tok e)→g.φ b'=none→b'≠b→H'[b']?=some x)
  (hc:∀(i:Nat) (t:T),cs[i]?=some t→t.one=true∧∃v,c[i]?=some v∧VR g w t v) :
  Le g w ((g.row w.heap.size fun _=>.mut b).at b (w.heap.size,0,c.size)) (w1.alloc (.cells c ty))∧SR w0 ((g.row w.heap.size fun _=>.mut b).at b (w.heap.size,0,c.size)) H' (w1.alloc (.cells c ty)) ∧
  (∀b' x,H[b']?=some x→(∀e,x≠.tok e)→g.φ b'=none→b'≠b→H'[b']?=some x∧((g.row w.heap.size fun _=>.mut b).at b (w.heap.size,0,c.size)).φ b'=none):=by
 have jG:=tr.trans (Tr.alloc w1 (.cells c ty))
 have aF:∀r j ow,g.κ r j=ow→ow≠.free→r≠w.heap.size:=by rintro r j ow e hn rfl;exact hn (e▸h.fresh _ j (Nat.le_refl _))
 have le:Le g w ((g.row w.heap.size fun _=>.mut b).at b (w.heap.size,0,c.size)) (w1.alloc (.cells c ty)):=Le.cz jG
  (fun b' x hx=>by simp only[Ctx.at,Ctx.row];split;rename_i e;subst e;rw[hn]at hx;simp at hx;exact hx)
  (fun r o hk=>by simp only[Ctx.row,Ctx.at];rw[if_neg (aF r o _ hk (by simp))];exact hk) (fun _ _ _ h=>h) (fun _ _ hs=>hs.elim)
 refine⟨le,?_,fun b' x a a' d e=>⟨Af b' x a a' d e,by simp only[Ctx.at,Ctx.row];rw[if_neg e];exact d⟩⟩
 refine h.step (fun b'=>b'=b) jG le (fun _ _ hs=>hs.elim) (fun _ hm=>hm.elim) (fun r o hr=>?_) (fun b' x hx=>?_) (fun t e x hx=>Nat.lt_of_lt_of_le (h.cd t e x hx) hl) (fun b' _ cY=>?_) (fun r j b' cY=>?_) (fun _ _ _ _=>rfl) (fun b' x hx=>?_)
 ·simp at hr
  simp only[Ctx.row,Ctx.at];rw[if_neg (by omega)];exact h.fresh r o (by omega)
 ·simp only[Ctx.at,Ctx.row]at hx
  split at hx
  ·rename_i e;subst e;exact(List.getElem?_eq_some_iff.1 hb).1
  ·exact Nat.lt_of_lt_of_le (h.gG b' x hx) hl
 ·simp only[Ctx.at,Ctx.row];rw[if_neg cY]
 ·constructor<;>intro e<;>simp only[Ctx.row,Ctx.at]<;>rw[if_neg (aF r j _ e (by simp))]<;>exact e
 ·by_cases e:b'=b
  ·subst e
   right
   rw[hb]at hx;cases hx
   intro r o q hq
   simp only[Ctx.at,if_true,Option.some.injEq,Prod.mk.injEq]at hq
   obtain⟨rfl,rfl,rfl⟩:=hq
   have kX:∀i,i<cs.length→i<c.size:=fun i hi=>by
    obtain⟨_,v,hv,_⟩:=hc i _ (List.getElem?_eq_getElem hi)
    exact(Array.getElem?_eq_some_iff.1 hv).1
   refine⟨?_,fun j _ hj=>⟨by simp[Ctx.row,Ctx.at],fun j0=>by rw[←hz];simp,by rw[←hz,World.cell?_alloc_new,Array.getElem?_eq_getElem hj];rfl⟩,fun i t hi=>?_⟩
   ·cases hC:cs.length with
    | zero=>omega
    | succ n=>have:=kX n (by omega);omega
   ·obtain⟨h1,v,h2,h3⟩:=hc i t hi
    exact⟨h1,v,by rw[←hz,World.cell?_alloc_new,Nat.zero_add];exact h2,h3.mono le⟩
  ·rcases hH b' x e hx with et|rfl
   ·exact .inl ⟨e,et⟩
   ·right;trivial
theorem bE (H:aa)(x:B):(H++[x])[H.length]?=some x:=by simp
theorem aN {H:aa}{x y:B}{b:Nat}(hb:b≠H.length)(h:(H++[x])[b]?=some y):H[b]?=some y:=by
 rw[List.getElem?_append]at h
 split at h
 ·exact h
 ·rename_i aD
  have:b-H.length≠0:=by omega
  cases hk:b-H.length with
  | zero=>omega
  | succ n=>simp[hk]at h
theorem cq {H:aa}{x y:B}{b:Nat}(h:H[b]?=some y):(H++[x])[b]?=some y:=by
 rw[List.getElem?_append_left (List.getElem?_eq_some_iff.1 h).1];exact h
theorem SR.tX (h:SR w0 g H w){b:Nat}(hb:H.length≤b):g.φ b=none:=by
 cases e:g.φ b with
 | none=>rfl
 | some x=>have:=h.gG b x e;omega
theorem SR.Ef (h:SR w0 g H w){t e:Nat}(hb:H.length≤t):g.π t e=none:=by
 cases e':g.π t e with
 | none=>rfl
 | some x=>have:=h.cd t e x e';omega
theorem SR.cS {c:Array Value}{ty:TypeId}{w1:World}{cs:List T}(h:SR w0 g H w)(tr:Tr w w1 b7 cL)(hz:w1.heap.size=w.heap.size)
  (hc:∀(i:Nat) (t:T),cs[i]?=some t→t.one=true∧∃v,c[i]?=some v∧VR g w t v) :
  ∃g',Le g w g' (w1.alloc (.cells c ty))∧SR w0 g' (H++[.cells cs]) (w1.alloc (.cells c ty))∧Fr g H g' (H++[.cells cs])∧g'.φ H.length=some (w.heap.size,0,c.size):=by
 obtain⟨le,sr,fr⟩:=h.mut (H':=H++[.cells cs]) (b:=H.length) (ty:=ty) tr hz (bE _ _) (h.tX (Nat.le_refl _)) (fun b' x e hx=>.inl (aN e hx)) (by simp) (fun b' x hx _ _ _=>cq hx) hc
 exact⟨_,le,sr,⟨by simp,fun b x a a' d=>fr b x a a' d (by have:=(List.getElem?_eq_some_iff.1 a).1;omega)⟩,by simp[Ctx.at]⟩
theorem ay.yV {cs:List T}{vs:List Value}(h:ay g w cs vs)(ho:aS cs):∀(i:Nat) (t:T),cs[i]?=some t→t.one=true∧∃v,vs.toArray[i]?=some v∧VR g w t v :=
 fun i t hi=>⟨ho t (List.mem_of_getElem? hi),h.cp i t hi⟩
theorem pk {ty:TypeId}{i:TypeInfo}{zv:Value}{z:List T}(hi:P.info? ty=some i)(hz:i.zero=some zv)(hc:bP zv.cells.toList=some z)(h:SR w0 g H w) :
  aG P w0 g H w (Instr.alloc ty true (.tuple #[])) (.ptr H.length 0) (H++[.cells z]):=by
 obtain⟨hv,ho⟩:=br (g:=g) (w:=w) _ _ hc
 obtain⟨g',le,sr,fr,hφ⟩:=h.cS (c:=zv.cells) (ty:=ty) (w1:=w) (Tr.refl w) rfl (by simpa using hv.yV ho)
 refine⟨.pointer (some ⟨w.heap.size,0,none⟩),_,g',?_,le,sr,.ptr hφ,fr⟩
 simp[Instr.alloc,zeroValue,au hi,hz,newVar,newRow]
theorem uN {ty:TypeId}{x:T}{cs:List T}{vx:Value}(h:SR w0 g H w)(hx:VR g w x vx)(hc:x.cells?=some cs) :
  aG P w0 g H w (Instr.box ty vx) (.ptr H.length 0) (H++[.cells cs]):=by
 obtain⟨hv,ho⟩:=dD hx hc
 obtain⟨g',le,sr,fr,hφ⟩:=h.cS (c:=vx.cells) (ty:=ty) (w1:=w) (Tr.refl w) rfl (by simpa using hv.yV ho)
 refine⟨.pointer (some ⟨w.heap.size,0,none⟩),_,g',?_,le,sr,.ptr hφ,fr⟩
 simp[Instr.box,newVar,newRow]
theorem SR.qC {b:Nat}{H':aa}(h:SR w0 g H w)(hb:H'[b]?=some (.map []))(hn:g.φ b=none)(hH:∀b' x,b'≠b→H'[b']?=some x→H[b']?=some x)(hl:H.length≤H'.length) :
  Le g w ((g.row w.heap.size fun _=>.mut b).at b (w.heap.size,0,0)) (w.alloc (.map #[] 0))∧SR w0 ((g.row w.heap.size fun _=>.mut b).at b (w.heap.size,0,0)) H' (w.alloc (.map #[] 0)):=by
 have jG:=Tr.alloc w (.map #[] 0)
 have aF:∀r j ow,g.κ r j=ow→ow≠.free→r≠w.heap.size:=by rintro r j ow e hn rfl;exact hn (e▸h.fresh _ j (Nat.le_refl _))
 have le:Le g w ((g.row w.heap.size fun _=>.mut b).at b (w.heap.size,0,0)) (w.alloc (.map #[] 0)):=Le.cz jG
  (fun b' x hx=>by simp only[Ctx.at,Ctx.row];split;rename_i e;subst e;rw[hn]at hx;simp at hx;exact hx)
  (fun r o hk=>by simp only[Ctx.row,Ctx.at];rw[if_neg (aF r o _ hk (by simp))];exact hk) (fun _ _ _ h=>h) (fun _ _ hs=>hs.elim)
 refine⟨le,?_⟩
 refine h.step (fun b'=>b'=b) jG le (fun _ _ hs=>hs.elim) (fun _ hm=>hm.elim) (fun r o hr=>?_) (fun b' x hx=>?_) (fun t e x hx=>Nat.lt_of_lt_of_le (h.cd t e x hx) hl) (fun b' _ cY=>?_) (fun r j b' cY=>?_) (fun _ _ _ _=>rfl) (fun b' x hx=>?_)
 ·simp at hr
  simp only[Ctx.row,Ctx.at];rw[if_neg (by omega)];exact h.fresh r o (by omega)
 ·simp only[Ctx.at,Ctx.row]at hx
  split at hx
  ·rename_i e;subst e;exact(List.getElem?_eq_some_iff.1 hb).1
  ·exact Nat.lt_of_lt_of_le (h.gG b' x hx) hl
 ·simp only[Ctx.at,Ctx.row];rw[if_neg cY]
 ·constructor<;>intro e<;>simp only[Ctx.row,Ctx.at]<;>rw[if_neg (aF r j _ e (by simp))]<;>exact e
 ·by_cases e:b'=b
  ·subst e
   right
   rw[hb]at hx;cases hx
   intro r o q hq
   simp only[Ctx.at,if_true,Option.some.injEq,Prod.mk.injEq]at hq
   obtain⟨rfl,rfl,rfl⟩:=hq
   exact⟨by simp[Ctx.row,Ctx.at],#[],0,by show(w.heap.push _)[w.heap.size]?=_;simp,⟨rfl,by simp⟩,by simp[bW]⟩
  ·exact .inl ⟨e,hH b' x e hx⟩
theorem uO {ty:TypeId}(h:SR w0 g H w):aG P w0 g H w (Instr.makeMap ty none) (.map H.length) (H++[.map []]):=by
 obtain⟨le,sr⟩:=h.qC (H':=H++[.map []]) (b:=H.length) (bE _ _) (h.tX (Nat.le_refl _)) (fun b' x e hx=>aN e hx) (by simp)
 refine⟨.map (some w.heap.size),_,_,?_,le,sr,.map (r:=w.heap.size) (o:=0) (q:=0) (by simp[Ctx.at]),by simp,fun b x a _ d=>⟨cq a,?_⟩⟩
 ·simp[Instr.makeMap]
 ·have:=(List.getElem?_eq_some_iff.1 a).1
  simp only[Ctx.at,Ctx.row];rw[if_neg (by omega)];exact d
end
section
variable {P:Program} {w0 w:World} {g:Ctx} {H:aa}
theorem bj {H:aa}{b b':Nat}{x y:B}(aD:b<H.length)(h:(H.set b x)[b']?=some y):(b'=b∧y=x)∨(b'≠b∧H[b']?=some y):=by
 rw[List.getElem?_set]at h
 split at h
 ·rename_i e;subst e;simp[aD]at h;exact .inl ⟨rfl,h.symm⟩
 ·rename_i e;exact .inr ⟨fun e'=>e e'.symm,h⟩
theorem bF {H:aa}{b b':Nat}{x y:B}(h:H[b']?=some y)(aF:b'≠b):(H.set b x)[b']?=some y:=by
 rw[List.getElem?_set,if_neg (fun e=>aF e.symm)];exact h
theorem SR.store {b off r o q:Nat}{cs ts:List T}{vs:List Value}(h:SR w0 g H w)(hb:H[b]?=some (.cells cs))(hφ:g.φ b=some (r,o,q))(hle:off+ts.length≤cs.length)(hv:ay g w ts vs)(ho:aS ts) :
  Le g w g (w.setCells r (o+off) vs)∧SR w0 g (H.set b (.cells (cs.take off++ts++cs.drop (off+ts.length)))) (w.setCells r (o+off) vs):=by
 have fp:b<H.length:=(List.getElem?_eq_some_iff.1 hb).1
 obtain⟨h1,h2,h3⟩:=h.dy b _ hb r o q hφ
 have hl:=hv.1
 have hs:∀j,o+off≤j→j<o+off+vs.length→(w.cell? ⟨r,j,none⟩).isSome=true:=fun j a c=>(h2 j (by omega) (by omega)).2.2
 have tr:=Tr.setCells w r (o+off) vs hs
 have hS:∀r' j,lD r (o+off) vs.length r' j→g.κ r' j=.mut b:=by
  rintro r' j⟨rfl,a,c⟩;exact(h2 j (by omega) (by omega)).1
 have le:Le g w g (w.setCells r (o+off) vs):=Le.cz tr (fun _ _ h=>h) (fun _ _ h=>h) (fun _ _ _ h=>h) (fun r' j gQ e=>by rw[hS r' j gQ]at e;cases e)
 refine⟨le,h.step (fun b'=>b'=b) tr le (fun r' j gQ=>.inr (.inl ⟨b,hS r' j gQ,rfl⟩)) (fun _ hm=>hm.elim) (fun r' j hr=>h.fresh r' j (by rwa[bu]at hr)) (fun b' x hx=>by rw[List.length_set];exact h.gG b' x hx)
  (fun t e x hx=>by rw[List.length_set];exact h.cd t e x hx) (fun _ _ _=>rfl) (fun _ _ _ _=>⟨id,id⟩) (fun _ _ _ _=>rfl) (fun b' x hx=>?_)⟩
 rcases bj fp hx with⟨rfl,rfl⟩|⟨aF,et⟩
 ·right
  intro r' o' q' dR
  rw[hφ]at dR;cases dR
  have hlen:(cs.take off++ts++cs.drop (off+ts.length)).length=cs.length:=by simp;omega
  refine⟨by rw[hlen];exact h1,fun j a c=>⟨(h2 j a c).1,fun j0=>by rw[World.frozen?_setCells];exact(h2 j a c).2.1 j0,tr.fj r j ?_ (h2 j a c).2.2⟩,fun i t hi=>?_⟩
  ·obtain⟨x,hx⟩:=Option.isSome_iff_exists.1 (h2 j a c).2.2;exact dQ hx
  ·have fW:i<cs.length:=by rw[←hlen];exact(List.getElem?_eq_some_iff.1 hi).1
   by_cases jl:off≤i∧i<off+ts.length
   ·have ht:ts[i-off]?=some t:=by
     rw[List.append_assoc,List.getElem?_append_right (by simp;omega),List.getElem?_append_left (by simp;omega)]at hi
     rw[←hi];congr 1;simp;omega
    have aD:i-off<vs.length:=by omega
    refine⟨ho t (List.mem_of_getElem? ht),vs[i-off],?_,(hv.2 _ t _ ht (List.getElem?_eq_getElem aD)).mono le⟩
    have:=aX r vs (o+off) w hs (i-off) _ (List.getElem?_eq_getElem aD)
    rwa[show o+off+(i-off)=o+i by omega]at this
   ·have ht:cs[i]?=some t:=by
     by_cases aD:i<off
     ·rw[List.append_assoc,List.getElem?_append_left (by simp;omega),List.getElem?_take,if_pos aD]at hi;exact hi
     ·rw[List.getElem?_append_right (by simp;omega),List.getElem?_drop]at hi
      rw[←hi];congr 1;simp;omega
    obtain⟨a,v,yW,yX⟩:=h3 i t ht
    refine⟨a,v,?_,yX.mono le⟩
    rw[aV r vs (o+off) w r (o+i) (by omega)];exact yW
 ·exact .inl ⟨aF,et⟩
theorem kD {ty:TypeId}{i:TypeInfo}{v:Value}{r o:Nat}(hi:P.info? ty=some i)(b6:v.cells.size=i.size)(hc:∀j,j<v.cells.toList.length→(w.cell? ⟨r,o+j,none⟩).isSome=true)
  (hf:∀j,j<v.cells.toList.length→w.frozen? ⟨r,o+j,none⟩=false) (h1:∀x∈v.cells.toList,x.oneCell'=true) :
  (storeVar ty ⟨r,o,none⟩ v).run P w=.ok () (w.setCells r o v.cells.toList):=by
 have:=run_storeCells_cells (P:=P) r o v.cells.toList 0 w (by simpa using hc) (by simpa using hf) h1
 simp[storeVar,sizeOf,au hi,b6]
 simpa using this
theorem yY {ty:TypeId}{i:TypeInfo}{p x:T}{vp vx:Value}{ts:List T}{H':aa}(hi:P.info? ty=some i)(h:SR w0 g H w)(hp:VR g w p vp)(hx:VR g w x vx)(hc:x.cells?=some ts)(hn:ts.length=i.size)(he:ug H ts p=some H') :
  ∃w' g',(Instr.storeAt ty vp vx).run P w=.ok () w'∧Le g w g' w'∧SR w0 g' H' w'∧Fr g H g' H':=by
 obtain⟨hv,ho⟩:=dD hx hc
 cases hp<;>simp only[ug]at he<;>(try (simp at he;done))
 rename_i b off r o q hφ
 cases hb:H[b]? with
 | none=>simp[hb]at he
 | some y =>
  cases y<;>simp only[hb]at he<;>(try (simp at he;done))
  rename_i cs
  split at he
  ·rename_i hle
   simp only[Option.some.injEq]at he;subst he
   have fp:b<H.length:=(List.getElem?_eq_some_iff.1 hb).1
   obtain⟨h1,h2,h3⟩:=h.dy b _ hb r o q hφ
   obtain⟨le,sr⟩:=h.store hb hφ hle hv ho
   have hl:=hv.1
   refine⟨_,g,?_,le,sr,by simp,fun b' y' a _ d=>⟨bF a ?_,d⟩⟩
   ·have:=kD (P:=P) (w:=w) (ty:=ty) (r:=r) (o:=o+off) hi (v:=vx) (by rw[←hn,hl];simp) (fun j hj=>(h2 _ (by omega) (by omega)).2.2) (fun j hj=>(h2 (o+off+j) (by omega) (by omega)).2.1 _) (hv.dr ho)
    simpa[Instr.storeAt,Instr.sureAddr]using this
   ·rintro rfl;rw[hφ]at d;cases d
  ·simp at he
def World.aI (w:World)(r:Nat)(o:Obj):World:={ w with heap:=w.heap.setIfInBounds r o }
theorem ir (w:World){r r':Nat}(o:Obj)(h:r'≠r):(World.aI w r o).heap[r']?=w.heap[r']?:=by
 unfold World.aI;simp only[Array.getElem?_setIfInBounds];rw[if_neg (fun e=>h e.symm)]
theorem iu (w:World){r:Nat}(o:Obj)(h:r<w.heap.size):(World.aI w r o).heap[r]?=some o:=by
 unfold World.aI;simp[h]
theorem lE (w:World){r:Nat}{x x':Obj}(hs:cw x=true)(gQ:cw x'=true)(h:w.heap[r]?=some x)(a:Addr):(World.aI w r x').cell? a=w.cell? a:=by
 have aD:r<w.heap.size:=(Array.getElem?_eq_some_iff.1 h).1
 unfold World.cell?
 by_cases e:a.block=r
 ·rw[e,iu w _ aD,h]
  cases x<;>simp[cw]at hs<;>cases x'<;>simp[cw]at gQ<;>rfl
 ·rw[ir w _ e]
theorem na (w:World){r:Nat}{x x':Obj}(hs:cw x=true)(gQ:cw x'=true)(h:w.heap[r]?=some x)(a:Addr):(World.aI w r x').frozen? a=w.frozen? a:=by
 have aD:r<w.heap.size:=(Array.getElem?_eq_some_iff.1 h).1
 unfold World.frozen?
 by_cases e:a.block=r
 ·rw[e,iu w _ aD,h]
  cases x<;>simp[cw]at hs<;>cases x'<;>simp[cw]at gQ<;>rfl
 ·rw[ir w _ e]
theorem Tr.nb (w:World)(r:Nat){x x':Obj}(hs:cw x=true)(gQ:cw x'=true)(h:w.heap[r]?=some x):Tr w (World.aI w r x') b7 (fun r'=>r'=r) where
 size:=by simp[World.aI]
 cell r' j _ _:=lE w hs gQ h _
 p0 r' j _:=na w hs gQ h _
 fj r' j _ hk:=by rw[lE w hs gQ h];exact hk
 maps r' x hm _ hk:=by rw[ir w _ hm];exact hk
 er r' _ hm _:=ir w _ hm
 env:=⟨rfl,rfl⟩
theorem SR.kE {b r o q:Nat}{es AF:List (T×T)}{ah iv:Array MapEntry}{c c':Nat}(h:SR w0 g H w)(hb:H[b]?=some (.map es))(hφ:g.φ b=some (r,o,q))(hr:w.heap[r]?=some (.map ah c))(hE:bB g w AF iv)(hB:bW iv c') :
  Le g w g (World.aI w r (.map iv c'))∧SR w0 g (H.set b (.map AF)) (World.aI w r (.map iv c'))∧Fr g H g (H.set b (.map AF)):=by
 have fp:b<H.length:=(List.getElem?_eq_some_iff.1 hb).1
 obtain⟨h1,_⟩:=h.dy b _ hb r o q hφ
 have tr:=Tr.nb w r (x:=.map ah c) (x':=.map iv c') rfl rfl hr
 have le:Le g w g (World.aI w r (.map iv c')):=Le.cz tr (fun _ _ h=>h) (fun _ _ h=>h) (fun _ _ _ h=>h) (fun _ _ hs=>hs.elim)
 refine⟨le,h.step (fun b'=>b'=b) tr le (fun _ _ hs=>hs.elim) (fun r' hm=>⟨b,by rw[hm];exact h1,rfl⟩) (fun r' j e7=>h.fresh r' j (by simpa[World.aI]using e7)) (fun b' x hx=>by rw[List.length_set];exact h.gG b' x hx)
  (fun t e x hx=>by rw[List.length_set];exact h.cd t e x hx) (fun _ _ _=>rfl) (fun _ _ _ _=>⟨id,id⟩) (fun _ _ _ _=>rfl) (fun b' x hx=>?_),by simp,fun b' x a _ d=>⟨bF a (by rintro rfl;rw[hφ]at d;cases d),d⟩⟩
 rcases bj fp hx with⟨rfl,rfl⟩|⟨aF,et⟩
 ·right
  intro r' o' q' dR
  rw[hφ]at dR;cases dR
  refine⟨h1,iv,c',?_,hE.mono le,hB⟩
  have aD:r<w.heap.size:=(Array.getElem?_eq_some_iff.1 hr).1
  simp[World.aI,aD]
 ·exact .inl ⟨aF,et⟩
theorem gb {n:Nat}{a b:T}{va vb:Value}(ha:VR g w a va)(hb:VR g w b vb)(he:dA a b=some true):Instr.sameBits n va vb=true:=by
 cases ha<;>cases hb<;>simp[dA]at he
 ·obtain⟨rfl,rfl⟩:=he;cases n<;>simp[Instr.sameBits]
 ·subst he;cases n<;>simp[Instr.sameBits]
 ·rename_i s1 s2
  have e:(s1==s2)=true:=by rw[beq_toListBytes];exact he
  cases n<;>exact e
theorem fK {n:Nat}:∀(aq bs:List T) (xs ys:List Value),ay g w aq xs→ay g w bs ys→aM aq bs=some true→xs.length=ys.length∧(xs.zip ys).all (fun (x,y)=>Instr.sameBits n x y)=true
 | [],[],xs,ys,hx,hy,_=>by
  have a:=hx.1;have b:=hy.1
  simp at a b
  have e1:xs=[]:=List.eq_nil_of_length_eq_zero (by omega)
  have e2:ys=[]:=List.eq_nil_of_length_eq_zero (by omega)
  subst e1;subst e2;simp
 | a :: aq,b :: bs,xs,ys,hx,hy,he=>by
  cases xs with
  | nil=>have:=hx.1;simp at this
  | cons x xs =>
   cases ys with
   | nil=>have:=hy.1;simp at this
   | cons y ys =>
    simp only[aM]at he
    cases e1:dA a b with
    | none=>simp[e1]at he
    | some r1 =>
     cases e2:aM aq bs with
     | none=>simp[e1,e2]at he
     | some r2 =>
      simp[e1,e2]at he
      obtain⟨rfl,rfl⟩:=he
      obtain⟨h1,h2⟩:=fK aq bs xs ys hx.tail hy.tail e2
      exact⟨by simp[h1],by simp[gb hx.head hy.head e1];simpa using h2⟩
 | [],_ :: _,_,_,_,_,he=>by simp[aM]at he
 | _ :: _,[],_,_,_,_,he=>by simp[aM]at he
theorem iw {a b:T}{va vb:Value}(ha:VR g w a va)(hb:VR g w b vb)(he:dn a b=some true):Instr.sameBits 10000 va vb=true:=by
 by_cases h:∃aq bs,a=.agg aq∧b=.agg bs
 ·obtain⟨aq,bs,rfl,rfl⟩:=h
  obtain⟨xs,rfl,hx,_⟩:=ha.cn
  obtain⟨ys,rfl,hy,_⟩:=hb.cn
  obtain⟨h1,h2⟩:=fK (n:=9999) aq bs xs ys hx hy he
  show Instr.sameBits (9999+1) _ _=true
  rw[Instr.sameBits]
  simp[h1]
  simpa using h2
 ·have:dA a b=some true:=by
   cases a<;>first|exact he|(cases b<;>first|exact he|exact absurd ⟨_,_,rfl,rfl⟩ h)
  exact gb ha hb this
theorem iy:∀(k:T) (es:List (T×T)) (i:Nat),bm k es=some (some i)→∃e,es[i]?=some e∧dn k e.1=some true
 | k,[],i,h=>by simp[bm]at h
 | k,e :: es,i,h=>by
  simp only[bm]at h
  cases hk:dn k e.1 with
  | none=>simp[hk]at h
  | some b =>
   cases b with
   | true=>simp[hk]at h;subst h;exact⟨e,rfl,hk⟩
   | false =>
    simp only[hk,Option.map_eq_some_iff]at h
    obtain⟨r,h1,h2⟩:=h
    cases r with
    | none=>simp at h2
    | some j =>
     simp at h2;subst h2
     obtain⟨e',h3,h4⟩:=iy k es j h1
     exact⟨e',by simpa using h3,h4⟩
theorem bB.set {es:List (T×T)}{ah:Array MapEntry}(h:bB g w es ah){k v:T}{vk vv:Value}(hk:VR g w k vk)(hv:VR g w v vv)(i:Nat) :
  bB g w (es.set i (k,v)) (ah.modify i fun e=>{ e with key:=vk,val:=vv }):=by
 refine⟨by simp[h.1],fun j e m a b=>?_⟩
 rw[List.getElem?_set]at a
 rw[Array.getElem?_modify]at b
 split at a
 ·rename_i e'
  rw[if_pos e']at b
  subst e'
  split at a
  ·simp at a b
   obtain⟨m',_,rfl⟩:=b
   subst a
   exact⟨hk,hv⟩
  ·cases a
 ·rename_i e'
  rw[if_neg e']at b
  exact h.2 j e m a b
theorem bB.push {es:List (T×T)}{ah:Array MapEntry}(h:bB g w es ah){k v:T}{vk vv:Value}(hk:VR g w k vk)(hv:VR g w v vv)(c:Nat) :
  bB g w (es++[(k,v)]) (ah.push { key:=vk,val:=vv,born:=c }):=by
 refine⟨by simp[h.1],fun j e m a b=>?_⟩
 rw[Array.getElem?_push,h.1]at b
 rw[List.getElem?_append]at a
 split at b
 ·rename_i e'
  subst e'
  simp at a b
  subst a;subst b
  exact⟨hk,hv⟩
 ·rename_i e'
  split at a
  ·exact h.2 j e m a b
  ·have:j<ah.size:=(Array.getElem?_eq_some_iff.1 b).1
   rw[h.1]at this;omega
theorem bB.erase {es:List (T×T)}{ah:Array MapEntry}(h:bB g w es ah)(i:Nat)(hi:i<es.length):bB g w (es.eraseIdx i) (ah.eraseIdxIfInBounds i):=by
 have b6:i<ah.size:=by rw[h.1];exact hi
 have e1:(ah.eraseIdxIfInBounds i).toList=ah.toList.eraseIdx i:=by simp[Array.eraseIdxIfInBounds,b6]
 refine⟨by rw[←Array.length_toList,e1,List.length_eraseIdx,List.length_eraseIdx,if_pos hi,Array.length_toList,if_pos b6,h.1],fun j e m a b=>?_⟩
 have b':(ah.toList.eraseIdx i)[j]?=some m:=by rw[←e1,Array.getElem?_toList];exact b
 rw[List.getElem?_eraseIdx]at a b'
 split at a
 ·rename_i aD;rw[if_pos aD]at b';exact h.2 j e m a (by simpa using b')
 ·rename_i aD;rw[if_neg aD]at b';exact h.2 _ e m a (by simpa using b')
theorem bW.set {ah:Array MapEntry}{c:Nat}(h:bW ah c)(k v:Value)(i:Nat):bW (ah.modify i fun e=>{ e with key:=k,val:=v }) c:=by
 have e:(ah.modify i fun e=>{ e with key:=k,val:=v }).toList.map (·.born)=ah.toList.map (·.born):=by
  apply List.ext_getElem?
  intro j
  simp only[List.getElem?_map,Array.getElem?_toList,Array.getElem?_modify]
  split
  ·cases ah[j]?<;>rfl
  ·rfl
 refine⟨fun m hm=>?_,by rw[e];exact h.2⟩
 have:=List.mem_map_of_mem (f:=fun m:MapEntry=>m.born) hm
 rw[e]at this
 obtain⟨m',h1,h2⟩:=List.mem_map.1 this
 rw[←h2];exact h.1 m' h1
theorem bW.push {ah:Array MapEntry}{c:Nat}(h:bW ah c)(k v:Value):bW (ah.push { key:=k,val:=v,born:=c }) (c+1):=by
 refine⟨fun m hm=>?_,?_⟩
 ·rw[Array.toList_push,List.mem_append]at hm
  rcases hm with hm|hm
  ·exact Nat.lt_succ_of_lt (h.1 m hm)
  ·simp at hm;subst hm;exact Nat.lt_succ_self _
 ·rw[Array.toList_push,List.map_append,List.nodup_append]
  refine⟨h.2,by simp,fun a ha b hb=>?_⟩
  simp at hb
  subst hb
  obtain⟨m,hm,rfl⟩:=List.mem_map.1 ha
  exact Nat.ne_of_lt (h.1 m hm)
theorem bW.erase {ah:Array MapEntry}{c:Nat}(h:bW ah c)(i:Nat):bW (ah.eraseIdxIfInBounds i) c:=by
 by_cases b6:i<ah.size
 ·have e1:(ah.eraseIdxIfInBounds i).toList=ah.toList.eraseIdx i:=by simp[Array.eraseIdxIfInBounds,b6]
  exact⟨fun m hm=>h.1 m (by rw[e1]at hm;exact(List.eraseIdx_sublist _ _).subset hm),by rw[e1];exact h.2.sublist ((List.eraseIdx_sublist _ _).map _)⟩
 ·have e1:ah.eraseIdxIfInBounds i=ah:=by simp[Array.eraseIdxIfInBounds,b6]
  rw[e1];exact h
theorem uP {ty key elem:TypeId}{kt:KT}{b:Nat}{k v:T}{vm vk vv:Value}{es:List (T×T)}{r:Option Nat}(hu:P.underlying ty=some (.map key elem))(dU:fo P key kt=true)
  (h:SR w0 g H w) (hm:VR g w (.map b) vm) (hk:VR g w k vk) (hv:VR g w v vv) (mZ:k.dw kt=true) (hb:H[b]?=some (.map es)) (hr:bm k es=some r) :
  ∃w' g',(Instr.mapUpdate ty vm vk vv).run P w=.ok () w'∧Le g w g' w'∧SR w0 g' (H.set b (.map (match r with|some i=>es.set i (k,v)|none=>es++[(k,v)]))) w'∧Fr g H g' (H.set b (.map (match r with|some i=>es.set i (k,v)|none=>es++[(k,v)]))):=by
 cases hm with
 | @map _ rr o q hφ =>
  obtain⟨h1,ah,c,h2,hE,hB⟩:=h.dy b _ hb rr o q hφ
  have hf:=kC dU hk mZ es ah.toList (by simpa using hE.1) (fun i e m a b=>hE.2 i e m a (by simpa using b)) hr
  have hc:=eA (P:=P) (w:=w) (e:=false) dU hk mZ
  cases r with
  | none =>
   obtain⟨le,sr,fr⟩:=h.kE (c':=c+1) hb hφ h2 (hE.push hk hv c) (hB.push _ _)
   refine⟨_,g,?_,le,sr,fr⟩
   simp at hf
   simp[Instr.mapUpdate,run_underlying hu,getObj,setObj,Sem.run,h2,hc,hf,World.aI]
  | some i =>
   obtain⟨e,he,Ag⟩:=iy k es i hr
   have aD:i<ah.size:=by rw[hE.1];exact(List.getElem?_eq_some_iff.1 he).1
   have yS:ah[i]?=some ah[i]:=Array.getElem?_eq_getElem aD
   have jF:=(hE.2 i e _ he yS).1
   have DE:=iw hk jF Ag
   have Eg:Instr.sameBits 10000 ah[i].key vk=true:=by
    have:dn e.1 k=some true∨True:=.inr trivial
    by_cases h':∃aq bs,k=.agg aq∧e.1=.agg bs
    ·obtain⟨aq,bs,rfl,e2⟩:=h'
     have HE:∀(aq bs:List T),aM aq bs=some true→aM bs aq=some true:=by
      intro aq
      induction aq with
      | nil=>intro bs n3;cases bs<;>simp[aM]at n3 ⊢
      | cons a aq ih =>
       intro bs n3
       cases bs with
       | nil=>simp[aM]at n3
       | cons b bs =>
        simp only[aM]at n3 ⊢
        cases e1:dA a b with
        | none=>simp[e1]at n3
        | some r1 =>
         cases e2:aM aq bs with
         | none=>simp[e1,e2]at n3
         | some r2 =>
          simp[e1,e2]at n3
          obtain⟨rfl,rfl⟩:=n3
          have:dA b a=some true:=by
           cases a<;>cases b<;>simp[dA,dm]at e1 ⊢
           ·exact⟨e1.1.symm,e1.2.symm⟩
           ·exact e1.symm
           ·exact e1.symm
          simp[this,ih bs e2]
     rw[e2]at jF Ag
     exact iw jF hk (HE _ _ Ag)
    ·have e1:dA k e.1=some true:=by
      generalize e.1=d at *
      cases k<;>first|exact Ag|(cases d<;>first|exact Ag|exact absurd ⟨_,_,rfl,rfl⟩ h')
     have e2:dA e.1 k=some true:=by
      generalize e.1=d at *
      cases k<;>cases d<;>simp[dA,dm]at e1 ⊢
      ·exact⟨e1.1.symm,e1.2.symm⟩
      ·exact e1.symm
      ·exact e1.symm
     exact gb jF hk e2
   obtain⟨le,sr,fr⟩:=h.kE (c':=c) hb hφ h2 (hE.set hk hv i) (hB.set _ _ i)
   refine⟨_,g,?_,le,sr,fr⟩
   have hx:((some i:Option Nat).bind fun i=>(ah.toList[i]?).map fun m=>(i,m.val))=some (i,ah[i].val):=by simp[aD]
   rw[hx]at hf
   have HF:(Instr.keyThatStays ah[i].key vk).run P w=.ok vk w:=by simp[Instr.keyThatStays,Eg]
   simp[Instr.mapUpdate,run_underlying hu,getObj,setObj,Sem.run,h2,hc,hf,aD,HF,World.aI]
theorem uQ {ty key elem xt rt:TypeId}{kt:KT}{b:Nat}{k:T}{vm vk:Value}{es:List (T×T)}{r:Option Nat}(hu:P.underlying ty=some (.map key elem))(dU:fo P key kt=true)
  (h:SR w0 g H w) (hm:VR g w (.map b) vm) (hk:VR g w k vk) (mZ:k.dw kt=true) (hb:H[b]?=some (.map es)) (hr:bm k es=some r) :
  aG P w0 g H w (Builtin.delete_ #[ty,xt] rt #[vm,vk]) (.bo []) (match r with|some i=>H.set b (.map (es.eraseIdx i))|none=>H):=by
 cases hm with
 | @map _ rr o q hφ =>
  obtain⟨h1,ah,c,h2,hE,hB⟩:=h.dy b _ hb rr o q hφ
  have hf:=kC dU hk mZ es ah.toList (by simpa using hE.1) (fun i e m a b=>hE.2 i e m a (by simpa using b)) hr
  have hc:=eA (P:=P) (w:=w) (e:=ah.isEmpty) dU hk mZ
  cases r with
  | none =>
   obtain⟨le,sr,fr⟩:=h.kE (c':=c) hb hφ h2 hE hB
   have hH:H.set b (.map es)=H:=by
    apply List.ext_getElem?
    intro j
    rw[List.getElem?_set]
    split
    ·rename_i e;subst e;rw[if_pos (List.getElem?_eq_some_iff.1 hb).1,hb]
    ·rfl
   rw[hH]at sr fr
   refine⟨.tuple #[],_,g,?_,le,sr,.bo rfl (by simp),fr⟩
   simp at hf
   simp[Builtin.delete_,run_underlying hu,getObj,setObj,Sem.run,h2,hc,hf,World.aI]
  | some i =>
   obtain⟨e,he,Ag⟩:=iy k es i hr
   have GU:i<es.length:=(List.getElem?_eq_some_iff.1 he).1
   have aD:i<ah.size:=by rw[hE.1];exact GU
   obtain⟨le,sr,fr⟩:=h.kE (c':=c) hb hφ h2 (hE.erase i GU) (hB.erase i)
   refine⟨.tuple #[],_,g,?_,le,sr,.bo rfl (by simp),fr⟩
   have hx:((some i:Option Nat).bind fun i=>(ah.toList[i]?).map fun m=>(i,m.val))=some (i,ah[i].val):=by simp[aD]
   rw[hx]at hf
   simp[Builtin.delete_,run_underlying hu,getObj,setObj,Sem.run,h2,hc,hf,World.aI]
end
section
variable {P:Program} {w0 w:World} {g:Ctx} {H:aa}
theorem eB {n:Nat}:∀(es:List (List T)),(∀c∈es,c.length=n)→∀(i j:Nat) (c:List T) (t:T),es[i]?=some c→c[j]?=some t→es.flatten[i*n+j]?=some t
 | [],_,i,j,c,t,h,_=>by simp at h
 | d :: es,hn,i,j,c,t,h,hj=>by
  have hd:=hn d (by simp)
  cases i with
  | zero =>
   simp at h;subst h
   have aD:j<d.length:=(List.getElem?_eq_some_iff.1 hj).1
   simp only[List.flatten_cons,Nat.zero_mul,Nat.zero_add]
   rw[List.getElem?_append_left aD];exact hj
  | succ i =>
   have ih:=eB es (fun c hc=>hn c (by simp[hc])) i j c t (by simpa using h) hj
   simp only[List.flatten_cons]
   rw[List.getElem?_append_right (by rw[hd,Nat.succ_mul];omega)]
   rw[show(i+1)*n+j-d.length=i*n+j by rw[hd,Nat.succ_mul];omega];exact ih
theorem cA {n:Nat}(es:List (List T))(hn:∀c∈es,c.length=n):es.flatten.length=es.length*n:=by
 induction es with
 | nil=>simp
 | cons d es ih=>simp only[List.flatten_cons,List.length_append,List.length_cons,Nat.succ_mul,hn d (by simp),ih (fun c hc=>hn c (by simp[hc]))];omega
theorem VR.gg {k:SK}{es:List (List T)}{r o cap n:Nat}{vs:List Value}(hn:∀c∈es,c.length=n)(hv:ay g w es.flatten vs)(ho:aS es.flatten)(hc:es.length≤cap)(hk:o9 g k r o es.length cap n)
  (hi:∀(j:Nat) (v:Value),vs[j]?=some v→mL g w r (o+j) v):VR g w (.sl k es) (.slice (some ⟨r,o,none⟩) es.length cap):=by
 have key:∀(i j:Nat) (c:List T) (t:T),es[i]?=some c→c[j]?=some t→es.flatten[i*n+j]?=some t∧vs[i*n+j]?=some (vs.getD (i*n+j) undef):=by
  intro i j c t a b
  have h1:=eB es hn i j c t a b
  have aD:i*n+j<vs.length:=by rw[←hv.1];exact(List.getElem?_eq_some_iff.1 h1).1
  exact⟨h1,by rw[List.getElem?_eq_getElem aD,List.getD_eq_getElem?_getD,List.getElem?_eq_getElem aD,Option.getD_some]⟩
 refine .sl (n:=n) (fun i j=>vs.getD (i*n+j) undef) hk hc hn (fun i j c t a b=>?_) (fun i j c t a b=>?_)
 ·obtain⟨h1,h2⟩:=key i j c t a b
  exact⟨ho t (List.mem_of_getElem? h1),by rw[Nat.add_assoc];exact hi _ _ h2⟩
 ·obtain⟨h1,h2⟩:=key i j c t a b
  exact hv.2 _ t _ h1 h2
theorem fL (es:List (List T)):(es.map (·.map T.erase)).flatten=es.flatten.map T.erase:=by
 induction es with
 | nil=>rfl
 | cons c es ih=>simp only[List.map_cons,List.flatten_cons,List.map_append,ih]
theorem ay.erase {ts:List T}{vs:List Value}(h:ay g w ts vs):ay g w (ts.map T.erase) vs :=
 ⟨by simp[h.1],fun i t v a b=>by
  rw[List.getElem?_map]at a
  obtain⟨t',h1,rfl⟩:=Option.map_eq_some_iff.1 a
  exact(h.2 i t' v h1 b).erase⟩
theorem iz {ts:List T}(h:aS ts):aS (ts.map T.erase):=by
 intro t ht
 obtain⟨t',h1,rfl⟩:=List.mem_map.1 ht
 rw[pa];exact h t' h1
theorem yZ {n:Nat}{y:T}{vy:Value}{new:List (List T)}(h:SR w0 g H w)(hy:VR g w y vy)(he:aH H n y=some new) :
  ∃vs:List Value,(Builtin.lenOf vy).run P w=.ok new.length w∧(Builtin.firstCells n new.length vy).run P w=.ok vs.toArray w∧ay g w new.flatten vs∧aS new.flatten∧(∀c∈new,c.length=n)∧vs.length=new.length*n:=by
 by_cases hs:∃s,y=.str s
 ·obtain⟨s,rfl⟩:=hs
  cases hy
  simp only[aH]at he
  split at he
  ·rename_i hn
   subst hn
   simp at he
   have hlen:new.length=s.size:=by rw[←he,List.length_map];exact Array.length_toList
   have gI:new.flatten=s.data.toList.map fun c=>T.int .u8 c.toNat:=by
    rw[←he]
    generalize s.data.toList=l
    induction l with
    | nil=>rfl
    | cons c l ih=>simp only[List.map_cons,List.flatten_cons,ih];rfl
   have hex:s.extract 0 s.size=s:=by simp
   refine⟨s.data.toList.map fun c=>.int .u8 c.toNat,by simp[Builtin.lenOf,hlen],?_,?_,?_,?_,?_⟩
   ·rw[hlen]
    simp only[Builtin.firstCells,hex,Sem.run_pure]
    congr 1
    apply Array.ext';simp
   ·rw[gI]
    refine⟨by simp,fun i t v a b=>?_⟩
    rw[List.getElem?_map]at a b
    obtain⟨c,h1,rfl⟩:=Option.map_eq_some_iff.1 a
    rw[h1]at b;simp at b;subst b
    exact .int _ _
   ·rw[gI];intro t ht
    obtain⟨c,_,rfl⟩:=List.mem_map.1 ht;rfl
   ·rw[←he];intro c hc
    obtain⟨_,_,rfl⟩:=List.mem_map.1 hc;rfl
   ·rw[hlen,List.length_map,Nat.mul_one];exact Array.length_toList
  ·simp at he
 ·obtain⟨a,cap,vs,rfl,_,h1,h2,h3,h4,h5,h6⟩:=fF h hy he (fun s e=>hs ⟨s,e⟩)
  refine⟨vs,by simp[Builtin.lenOf],?_,h3,h5,h6,h4⟩
  cases a with
  | none =>
   have:=(h1 rfl).1
   subst this
   simp at h4
   simp[Builtin.firstCells,h4]
  | some a =>
   obtain⟨_,h7⟩:=h2 a rfl
   have:=run_loadCells_list (P:=P) w a vs h7
   rw[h4]at this
   simpa[Builtin.firstCells]using this
theorem n4 (dN:Nat):∀(k c:Nat),c≤dN+(dN+768)/4→Builtin.growBy dN k c≤dN+(dN+768)/4
 | 0,c,h=>h
 | k+1,c,h=>by
  rw[Builtin.growBy]
  split
  ·exact h
  ·exact n4 dN k _ (by omega)
theorem uR {dN cap:Nat}(h:cap<dN):Builtin.nextslicecap dN cap≤dN+dN/4+512:=by
 unfold Builtin.nextslicecap
 split
 ·omega
 ·split
  ·omega
  ·have:=n4 dN 4 cap (by omega)
   omega
theorem n5 {dN cap bytes:Nat}(h:cap<dN)(hr:dM dN bytes=true):¬Builtin.nextslicecap dN cap*bytes>2^48:=by
 have h1:=Nat.mul_le_mul_right bytes (uR h)
 simp only[dM,decide_eq_true_eq]at hr
 omega
structure gh (P:Program)(sT xT elem:TypeId)(ei:TypeInfo)(zv:Value)(n bytes:Nat):Prop where
 hu:P.underlying sT=some (.slice elem)
 hi:P.info? elem=some ei
 hx:∃d,P.underlying xT=some d∧∀k,d≠.int k
 hn:ei.size=n
 hz:ei.zero=some zv
 uS:zv.cells.size=n
 hb:ei.bytes=bytes
 Eh:bytes≠0
theorem e8 {sT xT elem rt:TypeId}{ei:TypeInfo}{zv x:Value}{n bytes r o len cap m:Nat}{vs:List Value}(E:gh P sT xT elem ei zv n bytes)(hl:(Builtin.lenOf x).run P w=.ok m w)(hf:(Builtin.firstCells n m x).run P w=.ok vs.toArray w)
  (eC:len+m≤cap) (hs:(storeCells ⟨r,o+len*n,none⟩ vs).run P w=.ok () (w.setCells r (o+len*n) vs)) :
  (Builtin.append_ #[sT,xT] rt #[.slice (some ⟨r,o,none⟩) len cap,x]).run P w=.ok (.slice (some ⟨r,o,none⟩) (len+m) cap) (w.setCells r (o+len*n) vs):=by
 obtain⟨d,h1,h2⟩:=E.hx
 have hz:(match d with | .int _=>true|_=>false)=false:=by cases d<;>first|rfl|exact absurd rfl (h2 _)
 simp[Builtin.append_,run_underlying E.hu,run_underlying h1,hz,sizeOf,au E.hi,E.hn,hl,hf,eC,a8,hs]
theorem eD {sT xT elem rt:TypeId}{ei:TypeInfo}{zv x:Value}{n bytes:Nat}{base:Option Addr}{len cap:Nat}(E:gh P sT xT elem ei zv n bytes)(hl:(Builtin.lenOf x).run P w=.ok 0 w)(hf:(Builtin.firstCells n 0 x).run P w=.ok #[] w)(eC:len≤cap) :
  (Builtin.append_ #[sT,xT] rt #[.slice base len cap,x]).run P w=.ok (.slice base len cap) w:=by
 obtain⟨d,h1,h2⟩:=E.hx
 have hz:(match d with | .int _=>true|_=>false)=false:=by cases d<;>first|rfl|exact absurd rfl (h2 _)
 cases base<;>simp[Builtin.append_,run_underlying E.hu,run_underlying h1,hz,sizeOf,au E.hi,E.hn,hl,hf,eC,storeCells]
theorem eE (zc:Array Value)(n:Nat):(Builtin.zeroCells zc n).size=n*zc.size:=by simp[Builtin.zeroCells]
theorem cZ {sT xT elem rt:TypeId}{ei:TypeInfo}{zv x:Value}{n bytes:Nat}{base:Option Addr}{len cap m:Nat}{er vs:List Value}(E:gh P sT xT elem ei zv n bytes)(hl:(Builtin.lenOf x).run P w=.ok m w)(hf:∀w':World,w'.heap=w.heap→(Builtin.firstCells n m x).run P w'=.ok vs.toArray w')
  (ho:∀w':World,w'.heap=w.heap→(Builtin.firstCells n len (.slice base len cap)).run P w'=.ok er.toArray w') (nf:cap<len+m) (hr:dM (len+m) bytes=true) :
  ∃(bL:Nat) (rest:List Value),len+m≤bL∧rest.length=(bL-(len+m))*n ∧
   (Builtin.append_ #[sT,xT] rt #[.slice base len cap,x]).run P w=.ok (.slice (some ⟨w.heap.size,0,none⟩) (len+m) bL) (w.drew.alloc (.cells (er++vs++rest).toArray elem)):=by
 obtain⟨d,h1,h2⟩:=E.hx
 have hz:(match d with | .int _=>true|_=>false)=false:=by cases d<;>first|rfl|exact absurd rfl (h2 _)
 have c8:=n5 nf hr
 have eC:¬len+m≤cap:=by omega
 let bL:=Question.cut (.appendCap (len+m) cap elem) (w.tape w.drawn (.appendCap (len+m) cap elem))
 have fG:len+m≤bL:=by simp only[bL,Question.cut];omega
 refine⟨bL,(Builtin.zeroCells zv.cells (bL-(len+m))).toList,fG,?_,?_⟩
 ·rw[Array.length_toList,eE,E.uS]
 ·have DD:=hf w.drew rfl
  have fq:=ho w.drew rfl
  have Eh:ei.bytes≠0:=by rw[E.hb];exact E.Eh
  simp only[gt_iff_lt,Nat.not_lt]at c8
  have qD:Builtin.nextslicecap (len+m) cap*ei.bytes≤2^48:=by rw[E.hb];exact c8
  simp only[Builtin.append_,List.getElem?_toArray,List.getElem?_cons_zero,List.getElem?_cons_succ,Sem.run_bind,run_underlying E.hu,run_underlying h1,Result.andThen_ok,sizeOf,au E.hi,E.hn,hl,Sem.run_pure,eC,if_false]
  cases d<;>first
   | exact absurd rfl (h2 _)
   | (simp[hl,eC,au E.hi,Eh,qD,Nat.not_lt.2 qD,run_choose,Question.forced,fq,DD,zeroValue,E.hz,newRow,bL];congr 2;apply Array.ext';simp)
theorem SR.AG {t e r p q m:Nat}{vs:List Value}(h:SR w0 g H w)(ht:H[t]?=some (.tok e))(hp:g.π t e=some (r,p,q))(hm:0<m)(eC:p+vs.length≤q) :
  let g':=((g.row r fun j=>if p≤j∧j<p+vs.length then .cI else g.κ r j).tok t (e+m) (r,p+vs.length,q))
  Le g w g' (w.setCells r p vs)∧SR w0 g' (H.set t (.tok (e+m))) (w.setCells r p vs)∧Fr g H g' (H.set t (.tok (e+m)))∧∀(i:Nat) (v:Value),vs[i]?=some v→mL g' (w.setCells r p vs) r (p+i) v:=by
 intro g'
 have AH:t<H.length:=(List.getElem?_eq_some_iff.1 ht).1
 obtain⟨r1,p1,q1,e1,h2,h3,h4⟩:=h.dy t _ ht
 rw[hp]at e1;cases e1
 have hs:∀j,p≤j→j<p+vs.length→(w.cell? ⟨r,j,none⟩).isSome=true:=fun j a c=>(h3 j a (by omega)).2.2
 have tr:=Tr.setCells w r p vs hs
 have hS:∀r' j,lD r p vs.length r' j→g.κ r' j=.spare t:=by
  rintro r' j⟨rfl,a,c⟩;exact(h3 j a (by omega)).1
 have hκ:∀r' j,g'.κ r' j=if r'=r∧p≤j∧j<p+vs.length then .cI else g.κ r' j:=by
  intro r' j
  simp only[g',Ctx.tok,Ctx.row]
  by_cases e:r'=r
  ·subst e;simp
  ·simp[e]
 have hπ:∀t' e',g'.π t' e'=if t'=t∧e'=e+m then some (r,p+vs.length,q)else g.π t' e':=fun t' e'=>rfl
 have le:Le g w g' (w.setCells r p vs):=Le.cz tr (fun _ _ h=>h) (fun r' o hk=>by rw[hκ];split;rfl;exact hk)
  (fun t' e' x hx=>by rw[hπ];split;rename_i c;obtain⟨rfl,rfl⟩:=c;rw[h4 _ (by omega)]at hx;cases hx;exact hx)
  (fun r' j gQ e=>by rw[hS r' j gQ]at e;cases e)
 have cI:∀(i:Nat) (v:Value),vs[i]?=some v→mL g' (w.setCells r p vs) r (p+i) v:=fun i v hi=>by
  have aD:i<vs.length:=(List.getElem?_eq_some_iff.1 hi).1
  exact⟨by rw[hκ];simp;omega,aX r vs p w hs i v hi⟩
 refine⟨le,h.step (fun b'=>b'=t) tr le (fun r' j gQ=>.inr (.inr ⟨t,hS r' j gQ,rfl⟩)) (fun _ hm=>hm.elim) (fun r' j hr=>?_) (fun b' x hx=>by rw[List.length_set];exact h.gG b' x hx)
  (fun t' e' x hx=>?_) (fun _ _ _=>rfl) (fun r' j b' cY=>?_) (fun t' e' _ cY=>?_) (fun b' x hx=>?_),⟨by simp,fun b' x a c d=>⟨bF a (by rintro rfl;rw[ht]at a;cases a;exact absurd rfl (c e)),d⟩⟩,cI⟩
 ·rw[bu]at hr
  rw[hκ];split
  ·rename_i c;obtain⟨rfl,a,c⟩:=c
   have:=h.fresh r' j hr
   rw[(h3 j a (by omega)).1]at this;cases this
  ·exact h.fresh r' j hr
 ·rw[List.length_set]
  rw[hπ]at hx
  split at hx
  ·rename_i c;rw[c.1];exact AH
  ·exact h.cd t' e' x hx
 ·constructor<;>intro e'<;>rw[hκ]<;>split
  ·rename_i c;obtain⟨rfl,a,c⟩:=c;rw[(h3 j a (by omega)).1]at e';cases e'
  ·exact e'
  ·rename_i c;obtain⟨rfl,a,c⟩:=c;rw[(h3 j a (by omega)).1]at e';cases e';exact absurd rfl cY
  ·exact e'
 ·rw[hπ,if_neg (fun c=>cY c.1)]
 ·rcases bj AH hx with⟨rfl,rfl⟩|⟨aF,et⟩
  ·right
   refine⟨r,p+vs.length,q,by rw[hπ];simp,eC,fun j a c=>⟨?_,?_,?_⟩,fun e' he=>by rw[hπ,if_neg (by omega)];exact h4 e' (by omega)⟩
   ·rw[hκ,if_neg (by omega)];exact(h3 j (by omega) c).1
   ·intro j0;rw[World.frozen?_setCells];exact(h3 j (by omega) c).2.1 j0
   ·rw[aV r vs p w r j (by omega)];exact(h3 j (by omega) c).2.2
  ·exact .inl ⟨aF,et⟩
theorem SR.qE {c:Array Value}{ty:TypeId}{w1:World}{H':aa}{t e k:Nat}(h:SR w0 g H w)(tr:Tr w w1 b7 cL)(hz:w1.heap.size=w.heap.size)(ht:H'[t]?=some (.tok e))(hk:k≤c.size)
  (gi:∀e',e≤e'→g.π t e'=none) (hH:∀b' x,b'≠t→H'[b']?=some x→H[b']?=some x) (hl:H.length≤H'.length) (Af:∀(b':Nat) (x:B),H[b']?=some x→(∀e:Nat,x≠.tok e)→H'[b']?=some x) :
  let g':=((g.row w.heap.size fun j=>if j<k then .cI else .spare t).tok t e (w.heap.size,k,c.size))
  Le g w g' (w1.alloc (.cells c ty))∧SR w0 g' H' (w1.alloc (.cells c ty))∧Fr g H g' H'∧(∀(j:Nat) (v:Value),j<k→c[j]?=some v→mL g' (w1.alloc (.cells c ty)) w.heap.size j v)∧g'.π t e=some (w.heap.size,k,c.size):=by
 intro g'
 have jG:=tr.trans (Tr.alloc w1 (.cells c ty))
 have aF:∀r j ow,g.κ r j=ow→ow≠.free→r≠w.heap.size:=by rintro r j ow e hn rfl;exact hn (e▸h.fresh _ j (Nat.le_refl _))
 have hπ:∀t' e',g'.π t' e'=if t'=t∧e'=e then some (w.heap.size,k,c.size)else g.π t' e':=fun t' e'=>rfl
 have hκ:∀r j,g'.κ r j=if r=w.heap.size then(if j<k then .cI else .spare t)else g.κ r j:=fun r j=>rfl
 have le:Le g w g' (w1.alloc (.cells c ty)):=Le.cz jG (fun _ _ h=>h) (fun r o hk=>by rw[hκ,if_neg (aF r o _ hk (by simp))];exact hk)
  (fun t' e' x hx=>by rw[hπ];split;rename_i c;obtain⟨rfl,rfl⟩:=c;rw[gi _ (Nat.le_refl _)]at hx;cases hx;exact hx) (fun _ _ hs=>hs.elim)
 refine⟨le,?_,⟨hl,fun b' x a c d=>⟨Af b' x a c,d⟩⟩,fun j v hj hv=>⟨by rw[hκ];simp[hj],by rw[←hz,World.cell?_alloc_new];exact hv⟩,by rw[hπ];simp⟩
 refine h.step (fun b'=>b'=t) jG le (fun _ _ hs=>hs.elim) (fun _ hm=>hm.elim) (fun r o hr=>?_) (fun b' x hx=>Nat.lt_of_lt_of_le (h.gG b' x hx) hl) (fun t' e' x hx=>?_) (fun _ _ _=>rfl) (fun r j b' cY=>?_) (fun t' e' _ cY=>?_) (fun b' x hx=>?_)
 ·simp at hr
  rw[hκ,if_neg (by omega)];exact h.fresh r o (by omega)
 ·rw[hπ]at hx
  split at hx
  ·rename_i c;rw[c.1];exact(List.getElem?_eq_some_iff.1 ht).1
  ·exact Nat.lt_of_lt_of_le (h.cd t' e' x hx) hl
 ·constructor<;>intro e'<;>rw[hκ,if_neg (aF r j _ e' (by simp))]<;>exact e'
 ·rw[hπ,if_neg (fun c=>cY c.1)]
 ·by_cases e':b'=t
  ·subst e'
   right
   rw[ht]at hx;cases hx
   refine⟨w.heap.size,k,c.size,by rw[hπ];simp,hk,fun j a b=>⟨by rw[hκ];simp;omega,by rw[←hz];simp,by rw[←hz,World.cell?_alloc_new,Array.getElem?_eq_getElem b];rfl⟩,fun uT he=>by rw[hπ,if_neg (by omega)];exact gi uT (by omega)⟩
  ·exact .inl ⟨e',hH b' x e' hx⟩
theorem hG (w:World):Tr w w.drew b7 cL:=Tr.drew w
theorem gj {w w':World}(h:w'.heap=w.heap)(a:Addr):w'.cell? a=w.cell? a:=by unfold World.cell?;rw[h]
theorem n6 {n:Nat}{y:T}{vy:Value}{new:List (List T)}(h:SR w0 g H w)(hy:VR g w y vy)(he:aH H n y=some new) :
  ∃vs:List Value,(Builtin.lenOf vy).run P w=.ok new.length w∧(∀w':World,w'.heap=w.heap→(Builtin.firstCells n new.length vy).run P w'=.ok vs.toArray w')∧ay g w new.flatten vs∧aS new.flatten∧(∀c∈new,c.length=n)∧vs.length=new.length*n:=by
 obtain⟨vs,h1,h2,h3,h4,h5,h6⟩:=yZ (P:=P) h hy he
 refine⟨vs,h1,fun w' ng=>?_,h3,h4,h5,h6⟩
 by_cases hs:∃s,y=.str s
 ·obtain⟨s,rfl⟩:=hs
  cases hy
  simp only[Builtin.firstCells,Sem.run_pure,Result.ok.injEq,and_true]at h2 ⊢
  exact h2
 ·obtain⟨a,cap,Ab,rfl,_,k1,k2,k3,k4,k5,k6⟩:=fF h hy he (fun s e=>hs ⟨s,e⟩)
  cases a with
  | none =>
   simp only[Builtin.firstCells,Sem.run_pure,Result.ok.injEq,and_true]at h2 ⊢
   exact h2
  | some a =>
   obtain⟨_,h7⟩:=k2 a rfl
   have a1:=run_loadCells_list (P:=P) w a Ab h7
   have a2:=run_loadCells_list (P:=P) w' a Ab (fun j v hj=>by rw[gj ng];exact h7 j v hj)
   rw[k4]at a1 a2
   simp only[Builtin.firstCells]at h2 ⊢
   rw[a1]at h2
   rw[a2]
   simp at h2
   rw[h2]
theorem uU {sT xT elem rt:TypeId}{ei:TypeInfo}{zv:Value}{n bytes:Nat}{k:SK}{es new:List (List T)}{y t:T}{vx vy:Value}{H':aa}(E:gh P sT xT elem ei zv n bytes)
  (h:SR w0 g H w) (hx:VR g w (.sl k es) vx) (hy:VR g w y vy) (ey:es.all (·.length==n)=true) (jm:aH H n y=some new) (he:o6 H bytes k es new=some (t,H')) :
  aG P w0 g H w (Builtin.append_ #[sT,xT] rt #[vx,vy]) t H':=by
 obtain⟨vs,s1,s2,s3,s4,s5,s6⟩:=n6 (P:=P) h hy jm
 obtain⟨a,cap,er,rfl,fG,x1,x2,x3,x4,x5,x6⟩:=fF (n:=n) (es:=es) h hx (by simp only[aH,ey,if_true]) (fun s e=>by cases e)
 have fG:es.length≤cap:=fG
 cases gi:new with
 | nil =>
  subst gi
  simp only[o6,Option.some.injEq,Prod.mk.injEq]at he
  obtain⟨rfl,rfl⟩:=he
  have fX:vs=[]:=by simpa using s6
  subst fX
  exact aG.same h (eD E s1 (s2 w rfl) fG) hx
 | cons c0 Ei =>
  have hlen:0<new.length:=by rw[gi];simp
  rw[gi]at he
  simp only[o6]at he
  rw[←gi]at he
  split at he
  ·rename_i c8
   have tU:∀c∈es++new.map (·.map T.erase),c.length=n:=by
    intro c hc
    rcases List.mem_append.1 hc with hc|hc
    ·exact x6 c hc
    ·obtain⟨c',h1,rfl⟩:=List.mem_map.1 hc
     rw[List.length_map];exact s5 c' h1
   have gI:(es++new.map (·.map T.erase)).flatten=es.flatten++new.flatten.map T.erase:=by rw[List.flatten_append,fL]
   have wL:(es++new.map (·.map T.erase)).length=es.length+new.length:=by simp
   have ho:aS (es++new.map (·.map T.erase)).flatten:=by
    rw[gI];intro t ht
    rcases List.mem_append.1 ht with ht|ht
    ·exact x5 t ht
    ·exact iz s4 t ht
   have jd:(er++vs).length=(es.length+new.length)*n:=by rw[List.length_append,x4,s6,Nat.add_mul]
   have grow:∀(t' e':Nat) (Hn:aa),cap<es.length+new.length→Hn[t']?=some (.tok e')→(∀uT,e'≤uT→g.π t' uT=none)→(∀b' x,b'≠t'→Hn[b']?=some x→H[b']?=some x)→H.length≤Hn.length →
     (∀(b':Nat) (x:B),H[b']?=some x→(∀e:Nat,x≠.tok e)→Hn[b']?=some x)→aG P w0 g H w (Builtin.append_ #[sT,xT] rt #[.slice a es.length cap,vy]) (.sl (.own t' e') (es++new.map (·.map T.erase))) Hn:=by
    intro t' e' Hn nf k1 k2 k3 k4 k5
    have Ac:∀w':World,w'.heap=w.heap→(Builtin.firstCells n es.length (.slice a es.length cap)).run P w'=.ok er.toArray w':=by
     intro w' ng
     cases a with
     | none =>
      have:=(x1 rfl).1
      subst this
      have:er=[]:=by simpa using x4
      subst this
      simp[Builtin.firstCells]
     | some a =>
      obtain⟨_,h7⟩:=x2 a rfl
      have:=run_loadCells_list (P:=P) w' a er (fun j v hj=>by rw[gj ng];exact h7 j v hj)
      rw[x4]at this
      simpa[Builtin.firstCells]using this
    obtain⟨bL,rest,uV,uW,aJ⟩:=cZ (rt:=rt) (w:=w) E s1 s2 Ac nf c8
    have b6:(er++vs++rest).toArray.size=bL*n:=by
     simp only[List.size_toArray]
     rw[List.length_append,jd,uW,←Nat.add_mul];congr 1;omega
    obtain⟨le,sr,fr,cI,hp⟩:=h.qE (c:=(er++vs++rest).toArray) (ty:=elem) (k:=(es.length+new.length)*n) (hG w) rfl k1 (by rw[b6];exact Nat.mul_le_mul_right _ uV) k2 k3 k4 k5
    refine⟨_,_,_,aJ,le,sr,?_,fr⟩
    have hv:ay g w (es++new.map (·.map T.erase)).flatten (er++vs):=by rw[gI];exact ay.append x3 s3.erase
    have:=VR.gg (k:=.own t' e') (r:=w.heap.size) (o:=0) (cap:=bL) tU (hv.mono le) ho (by rw[wL];exact uV) ⟨by rw[hp,wL,b6];simp,by rw[wL];omega⟩ (fun j v hj=>?_)
    ·rw[wL]at this;exact this
    ·have aD:j<(er++vs).length:=(List.getElem?_eq_some_iff.1 hj).1
     rw[Nat.zero_add]
     refine cI j v (by omega) ?_
     rw[List.getElem?_toArray,List.getElem?_append_left aD];exact hj
   cases k with
   | nil =>
    simp only[Option.some.injEq,Prod.mk.injEq]at he
    obtain⟨rfl,rfl⟩:=he
    have mW:cap<es.length+new.length:=by
     cases hx with
     | slnil=>simpa using hlen
     | sl a7 hk=>exact hk.elim
    exact grow H.length _ _ mW (bE _ _) (fun uT _=>h.Ef (Nat.le_refl _)) (fun b' x e hx=>aN e hx) (by simp) (fun b' x hx _=>cq hx)
   | full =>
    simp only[Option.some.injEq,Prod.mk.injEq]at he
    obtain⟨rfl,rfl⟩:=he
    have mW:cap<es.length+new.length:=by
     cases hx with
     | sl a7 hk=>simp only[o9]at hk;omega
    exact grow H.length _ _ mW (bE _ _) (fun uT _=>h.Ef (Nat.le_refl _)) (fun b' x e hx=>aN e hx) (by simp) (fun b' x hx _=>cq hx)
   | arg=>cases he
   | own t0 e0 =>
    cases ht:H[t0]? with
    | none=>simp[ht]at he
    | some bt =>
     cases bt with
     | tok e1 =>
      simp only[ht]at he
      split at he
      ·rename_i HG
       subst HG
       simp only[Option.some.injEq,Prod.mk.injEq]at he
       obtain⟨rfl,rfl⟩:=he
       have AH:t0<H.length:=(List.getElem?_eq_some_iff.1 ht).1
       obtain⟨r1,p1,q1,GV,Ej,mN,AI⟩:=h.dy t0 _ ht
       by_cases eC:es.length+new.length≤cap
       ·-- in place
        cases hx with
        | @sl _ _ r o _ n' a7 hk hc hn h3 h4 =>
         simp only[o9]at hk
         obtain⟨Ek,HH⟩:=hk
         have uA:n'=n:=by
          cases es with
          | nil=>simp at HH
          | cons c es=>rw[←hn c (by simp),x6 c (by simp)]
         subst uA
         rw[GV]at Ek
         simp only[Option.some.injEq,Prod.mk.injEq]at Ek
         obtain⟨rfl,rfl,rfl⟩:=Ek
         have y0:o+es.length*n'+vs.length≤o+cap*n':=by
          rw[s6,Nat.add_assoc,←Nat.add_mul]
          exact Nat.add_le_add_left (Nat.mul_le_mul_right _ eC) _
         obtain⟨le,sr,fr,cI⟩:=h.AG (m:=new.length) (vs:=vs) ht GV hlen y0
         have hI:=run_storeCells_cells (P:=P) r1 (o+es.length*n') vs 0 w (fun j hj=>by simpa using (mN (o+es.length*n'+j) (by omega) (by omega)).2.2) (fun j hj=>(mN (o+es.length*n'+j) (by omega) (by omega)).2.1 _) (s3.dr s4)
         rw[Nat.add_zero]at hI
         have aJ:=e8 (rt:=rt) (cap:=cap) E s1 (s2 w rfl) eC hI
         refine⟨_,_,_,aJ,le,sr,?_,fr⟩
         have hv:ay g w (es++new.map (·.map T.erase)).flatten (er++vs):=by rw[gI];exact ay.append x3 s3.erase
         have AJ:∀(j:Nat) (v:Value),er[j]?=some v→mL g w r1 (o+j) v:=by
          intro j v hj
          have aD:j<es.length*n':=by rw[←x4];exact(List.getElem?_eq_some_iff.1 hj).1
          obtain⟨_,h7⟩:=x2 _ rfl
          have cM:=h7 j v hj
          rw[a8]at cM
          have AK:0<n':=by
           rcases Nat.eq_zero_or_pos n' with e|e
           ·subst e;simp at aD
           ·exact e
          have hi:j/n'<es.length:=Nat.div_lt_of_lt_mul (by rw[Nat.mul_comm];exact aD)
          have e1:es[j/n']?=some es[j/n']:=List.getElem?_eq_getElem hi
          have hm:j%n'<(es[j/n']).length:=by rw[x6 _ (List.getElem_mem hi)];exact Nat.mod_lt _ AK
          have:=(h3 (j/n') (j%n') _ _ e1 (List.getElem?_eq_getElem hm)).2
          have ee:o+j/n'*n'+j%n'=o+j:=by rw[Nat.add_assoc,Nat.mul_comm,Nat.div_add_mod]
          rw[ee]at this
          exact⟨this.1,cM⟩
         have:=VR.gg (k:=.own t0 (e0+new.length)) (r:=r1) (o:=o) (cap:=cap) tU (hv.mono le) ho (by rw[wL];exact eC) ⟨by rw[wL];simp[Ctx.tok,s6,Nat.add_mul,Nat.add_assoc],by rw[wL];omega⟩ (fun j v hj=>?_)
         ·rw[wL]at this;exact this
         ·rw[List.getElem?_append]at hj
          split at hj
          ·exact(AJ j v hj).mono le
          ·rename_i p6
           have:=cI _ v hj
           rw[x4]at this p6
           rwa[show o+es.length*n'+(j-es.length*n')=o+j by omega]at this
       ·exact grow t0 (e0+new.length) _ (by omega) (by simp[AH]) (fun uT he=>AI uT (by omega)) (fun b' x aF hx=>by
          rcases bj AH hx with⟨e,_⟩|⟨_,et⟩
          ·exact absurd e aF
          ·exact et) (by simp) (fun b' x El aF=>bF El (by rintro rfl;rw[ht]at El;cases El;exact absurd rfl (aF e0)))
      ·cases he
     | cells _=>simp[ht]at he
     | map _=>simp[ht]at he
     | _=>simp[ht]at he
  ·cases he
end
section
variable {P:Program} {w0 w:World} {g:Ctx} {H:aa}
theorem SR.AL {b r o q:Nat}{cs ts:List T}{vs:List Value}(h:SR w0 g H w)(hb:H[b]?=some (.cells cs))(hφ:g.φ b=some (r,o,q))(hv:ay g w ts vs)(ho:aS ts)(eC:o+cs.length+ts.length≤q) :
  let g':=((g.row r fun j=>if o≤j∧j<q then .mut H.length else g.κ r j).at H.length (r,o,q))
  Le g w g' (w.setCells r (o+cs.length) vs)∧SR w0 g' (H.set b .dead++[.cells (cs++ts)]) (w.setCells r (o+cs.length) vs)∧Fr g H g' (H.set b .dead++[.cells (cs++ts)]):=by
 intro g'
 have fp:b<H.length:=(List.getElem?_eq_some_iff.1 hb).1
 obtain⟨h1,h2,h3⟩:=h.dy b _ hb r o q hφ
 have hl:=hv.1
 have hs:∀j,o+cs.length≤j→j<o+cs.length+vs.length→(w.cell? ⟨r,j,none⟩).isSome=true:=fun j a c=>(h2 j (by omega) (by omega)).2.2
 have tr:=Tr.setCells w r (o+cs.length) vs hs
 have hS:∀r' j,lD r (o+cs.length) vs.length r' j→g.κ r' j=.mut b:=by
  rintro r' j⟨rfl,a,c⟩;exact(h2 j (by omega) (by omega)).1
 have hκ:∀r' j,g'.κ r' j=if r'=r∧o≤j∧j<q then .mut H.length else g.κ r' j:=by
  intro r' j
  simp only[g',Ctx.at,Ctx.row]
  by_cases e:r'=r
  ·subst e;simp
  ·simp[e]
 have dR:∀b',g'.φ b'=if b'=H.length then some (r,o,q)else g.φ b':=fun b'=>rfl
 have le:Le g w g' (w.setCells r (o+cs.length) vs):=Le.cz tr
  (fun b' x hx=>by rw[dR];split;rename_i e;rw[e,h.tX (Nat.le_refl _)]at hx;cases hx;exact hx)
  (fun r' j hk=>by rw[hκ];split;rename_i c;obtain⟨rfl,a,c⟩:=c;rw[(h2 j a c).1]at hk;cases hk;exact hk) (fun _ _ _ h=>h) (fun r' j gQ e=>by rw[hS r' j gQ]at e;cases e)
 refine⟨le,h.step (fun b'=>b'=b∨b'=H.length) tr le (fun r' j gQ=>.inr (.inl ⟨b,hS r' j gQ,.inl rfl⟩)) (fun _ hm=>hm.elim) (fun r' j hr=>?_) (fun b' x hx=>?_) (fun t e x hx=>?_) (fun b' cY hn=>?_) (fun r' j b' hn=>?_) (fun _ _ _ _=>rfl) (fun b' x hx=>?_),?_,fun b' x a c d=>?_⟩
 ·rw[bu]at hr
  rw[hκ];split
  ·rename_i c;obtain⟨rfl,a,c⟩:=c
   have:=h.fresh r' j hr
   rw[(h2 j a c).1]at this;cases this
  ·exact h.fresh r' j hr
 ·rw[dR]at hx
  simp only[List.length_append,List.length_set,List.length_singleton]
  split at hx
  ·omega
  ·have:=h.gG b' x hx;omega
 ·simp only[List.length_append,List.length_set,List.length_singleton]
  have:=h.cd t e x hx;omega
 ·rw[dR,if_neg (by omega)]
 ·constructor<;>intro e<;>rw[hκ]<;>split
  ·rename_i c;obtain⟨rfl,a,c⟩:=c;rw[(h2 j a c).1]at e;cases e;exact absurd (.inl rfl) hn
  ·exact e
  ·rename_i c;obtain⟨rfl,a,c⟩:=c;rw[(h2 j a c).1]at e;cases e
  ·exact e
 ·by_cases e:b'=H.length
  ·right
   subst e
   have et:x=.cells (cs++ts):=by
    have:(H.set b B.dead++[.cells (cs++ts)])[H.length]?=some (.cells (cs++ts)):=by
     rw[List.getElem?_append_right (by simp)];simp
    rw[this]at hx;cases hx;rfl
   subst et
   intro r' o' q' hq
   rw[dR,if_pos rfl]at hq
   simp only[Option.some.injEq,Prod.mk.injEq]at hq
   obtain⟨rfl,rfl,rfl⟩:=hq
   refine⟨by rw[List.length_append];omega,fun j a c=>⟨by rw[hκ];simp[a,c],fun j0=>by rw[World.frozen?_setCells];exact(h2 j a c).2.1 j0,tr.fj r j ?_ (h2 j a c).2.2⟩,fun i t hi=>?_⟩
   ·obtain⟨x,hx⟩:=Option.isSome_iff_exists.1 (h2 j a c).2.2;exact dQ hx
   ·rw[List.getElem?_append]at hi
    split at hi
    ·rename_i aD
     obtain⟨a,v,yW,yX⟩:=h3 i t hi
     exact⟨a,v,by rw[aV r vs _ w r (o+i) (by omega)];exact yW,yX.mono le⟩
    ·rename_i p6
     have aD:i-cs.length<vs.length:=by rw[←hl];exact(List.getElem?_eq_some_iff.1 hi).1
     refine⟨ho t (List.mem_of_getElem? hi),_,?_,(hv.2 _ t _ hi (List.getElem?_eq_getElem aD)).mono le⟩
     have:=aX r vs (o+cs.length) w hs (i-cs.length) _ (List.getElem?_eq_getElem aD)
     rwa[show o+cs.length+(i-cs.length)=o+i by omega]at this
  ·have AM:(H.set b B.dead)[b']?=some x:=aN (by simpa using e) hx
   rcases bj fp AM with⟨rfl,rfl⟩|⟨aF,et⟩
   ·right;trivial
   ·exact .inl ⟨by rintro (h|h);exact aF h;exact e h,et⟩
 ·simp
 ·have aD:b'<H.length:=(List.getElem?_eq_some_iff.1 a).1
  have aF:b'≠b:=by rintro rfl;rw[hφ]at d;cases d
  exact⟨cq (bF a aF),by rw[dR,if_neg (by omega)];exact d⟩
theorem qF {x:T}{vx:Value}(hx:VR g w x vx)(hk:qc x=true):∃(a:Option Addr) (l c:Nat),vx=.slice a l c∧l≤c:=by
 cases hx with
 | slnil=>exact⟨_,_,_,rfl,Nat.le_refl _⟩
 | dq=>exact⟨_,_,_,rfl,Nat.le_refl _⟩
 | sl a7 nY hc hn h1 h2=>exact⟨_,_,_,rfl,hc⟩
 | aQ h hc hq=>exact⟨_,_,_,rfl,hc⟩
 | _=>simp[qc]at hk
theorem qG {sT xT elem rt:TypeId}{ei:TypeInfo}{zv:Value}{n bytes:Nat}{x y t:T}{new:List (List T)}{vx vy:Value}{H':aa}(E:gh P sT xT elem ei zv n bytes)
  (h:SR w0 g H w) (hx:VR g w x vx) (hy:VR g w y vy) (jm:aH H n y=some new) (he:o7 H n bytes x new=some (t,H')) :
  aG P w0 g H w (Builtin.append_ #[sT,xT] rt #[vx,vy]) t H':=by
 obtain⟨vs,s1,s2,s3,s4,s5,s6⟩:=n6 (P:=P) h hy jm
 have jd:=cA new s5
 cases gi:new with
 | nil =>
  subst gi
  simp only[o7]at he
  split at he
  case isFalse=>cases he
  rename_i hk
  simp only[Option.some.injEq,Prod.mk.injEq]at he
  obtain⟨rfl,rfl⟩:=he
  have fX:vs=[]:=by simpa using s6
  subst fX
  have:∃a l c,vx=.slice a l c∧l≤c:=qF hx hk
  obtain⟨a,l,c,rfl,Ah⟩:=this
  exact aG.same h (eD E s1 (s2 w rfl) Ah) hx
 | cons c0 Ei =>
  have hlen:0<new.length:=by rw[gi];simp
  rw[gi]at he
  simp only[o7]at he
  rw[←gi]at he
  have empty:∀(a:Option Addr),vx=.slice a 0 0→dM (0+new.length) bytes=true→t=.aQ H.length 0 new.length n→H'=H++[.cells new.flatten]→aG P w0 g H w (Builtin.append_ #[sT,xT] rt #[vx,vy]) t H':=by
   rintro a rfl c8 rfl rfl
   have AN:∀w':World,w'.heap=w.heap→(Builtin.firstCells n 0 (.slice a 0 0)).run P w'=.ok ([]:List Value).toArray w':=by
    intro w' _
    cases a with
    | none=>simp[Builtin.firstCells]
    | some a=>simpa[Builtin.firstCells]using run_loadCells_list (P:=P) w' a [] (by simp)
   obtain⟨bL,rest,uV,uW,aJ⟩:=cZ (rt:=rt) (w:=w) E s1 s2 AN (by omega) c8
   have b6:(([]:List Value)++vs++rest).toArray.size=bL*n:=by
    simp only[List.size_toArray,List.nil_append]
    rw[List.length_append,s6,uW,←Nat.add_mul];congr 1;omega
   have cM:∀(i:Nat) (t:T),new.flatten[i]?=some t→t.one=true∧∃v,(([]:List Value)++vs++rest).toArray[i]?=some v∧VR g w t v:=by
    intro i t hi
    obtain⟨v,h1,h2⟩:=s3.cp i t hi
    refine⟨s4 t (List.mem_of_getElem? hi),v,?_,h2⟩
    simp only[List.nil_append,List.getElem?_toArray]at h1 ⊢
    rw[List.getElem?_append_left (List.getElem?_eq_some_iff.1 h1).1];exact h1
   obtain⟨g',le,sr,fr,hφ⟩:=h.cS (c:=([]++vs++rest).toArray) (ty:=elem) (cs:=new.flatten) (hG w) rfl cM
   refine⟨_,_,g',aJ,le,sr,?_,fr⟩
   rw[Nat.zero_add]at uV ⊢
   exact .aQ (r:=w.heap.size) (o:=0) (off:=0) hφ uV (by rw[b6];simp)
  cases x with
  | sl k es =>
   cases k with
   | nil =>
    simp only at he
    split at he
    ·rename_i hc
     obtain⟨c8,rfl⟩:=hc
     simp only[Option.some.injEq,Prod.mk.injEq]at he
     cases hx with
     | slnil=>exact empty none rfl (by simpa using c8) he.1.symm he.2.symm
     | sl a7 hk=>exact hk.elim
    ·cases he
   | full =>
    simp only at he
    split at he
    ·rename_i hc
     obtain⟨c8,rfl⟩:=hc
     simp only[Option.some.injEq,Prod.mk.injEq]at he
     cases hx with
     | sl a7 hk =>
      simp only[o9,List.length_nil]at hk
      subst hk
      exact empty _ rfl (by simpa using c8) he.1.symm he.2.symm
    ·cases he
   | arg=>cases he
   | own _ _=>cases he
  | aQ b off len n' =>
   simp only at he
   cases hb:H[b]? with
   | none=>simp[hb]at he
   | some z =>
    cases z with
    | cells cs =>
     simp only[hb]at he
     split at he
     ·rename_i hc
      obtain⟨rfl,rfl,kX,c8⟩:=hc
      simp only[Option.some.injEq,Prod.mk.injEq]at he
      obtain⟨rfl,rfl⟩:=he
      cases hx with
      | @aQ _ _ _ _ r o q cap hφ fG hq =>
       obtain⟨h1,h2,h3⟩:=h.dy b _ hb r o q hφ
       have fp:b<H.length:=(List.getElem?_eq_some_iff.1 hb).1
       by_cases eC:len+new.length≤cap
       ·have GW:o+cs.length+new.flatten.length≤q:=by
         rw[jd,←kX,←hq,Nat.add_assoc,←Nat.add_mul]
         have:=Nat.mul_le_mul_right n' eC
         omega
        obtain⟨le,sr,fr⟩:=h.AL hb hφ s3 s4 GW
        have fX:vs.length=new.flatten.length:=by rw[s6,jd]
        have hI:=run_storeCells_cells (P:=P) r (o+0+len*n') vs 0 w (fun j hj=>by simpa using (h2 (o+len*n'+j) (by omega) (by omega)).2.2) (fun j hj=>(h2 (o+len*n'+j) (by omega) (by omega)).2.1 _) (s3.dr s4)
        rw[Nat.add_zero]at hI
        have aJ:=e8 (rt:=rt) (cap:=cap) E s1 (s2 w rfl) eC hI
        rw[kX]at aJ
        refine⟨_,_,_,aJ,le,sr,?_,fr⟩
        exact .aQ (off:=0) (r:=r) (o:=o) (q:=q) (by simp[Ctx.at]) eC (by rw[←hq])
       ·have hp:gF H (len*n') (.ptr b 0)=some cs:=by simp[gF,hb,kX]
        obtain⟨r',o',er,e1,e2,e3,e4,e5⟩:=fk h (.ptr hφ) hp
        cases e1
        have Ac:∀w':World,w'.heap=w.heap→(Builtin.firstCells n' len (.slice (some ⟨r,o+0,none⟩) len cap)).run P w'=.ok er.toArray w':=by
         intro w' ng
         have:=run_loadCells_list (P:=P) w' ⟨r,o+0,none⟩ er (fun j v hj=>by rw[gj ng,a8];exact e3 j v hj)
         rw[e2]at this
         simpa[Builtin.firstCells]using this
        obtain⟨bL,rest,uV,uW,aJ⟩:=cZ (rt:=rt) (w:=w) E s1 s2 Ac (by omega) c8
        have b6:(er++vs++rest).toArray.size=bL*n':=by
         simp only[List.size_toArray]
         rw[List.length_append,List.length_append,e2,s6,uW,←Nat.add_mul,←Nat.add_mul];congr 1;omega
        have qH:ay g w (cs++new.flatten) (er++vs):=ay.append e4 s3
        obtain⟨le,sr,fr⟩:=h.mut (c:=(er++vs++rest).toArray) (ty:=elem) (H':=H.set b .dead++[.cells (cs++new.flatten)]) (b:=H.length) (cs:=cs++new.flatten) (hG w) rfl
         (by rw[List.getElem?_append_right (by simp)];simp) (h.tX (Nat.le_refl _))
         (fun b' x aF hx=>by
          have AM:(H.set b B.dead)[b']?=some x:=aN (by simpa using aF) hx
          rcases bj fp AM with⟨_,rfl⟩|⟨_,et⟩
          ·exact .inr rfl
          ·exact .inl et) (by simp)
         (fun b' x a _ d _=>cq (bF a (by rintro rfl;rw[hφ]at d;cases d)))
         (fun i t hi=>by
          obtain⟨v,k1,k2⟩:=qH.cp i t hi
          refine⟨?_,v,?_,k2⟩
          ·rcases List.mem_append.1 (List.mem_of_getElem? hi)with hm|hm
           ·exact e5 t hm
           ·exact s4 t hm
          ·simp only[List.getElem?_toArray]at k1 ⊢
           rw[List.getElem?_append_left (List.getElem?_eq_some_iff.1 k1).1];exact k1)
        refine⟨_,_,_,aJ,le,sr,.aQ (r:=w.heap.size) (o:=0) (off:=0) (q:=(er++vs++rest).toArray.size) (by simp[Ctx.at]) uV (by rw[b6];simp),by simp,fun b' x a c d=>fr b' x a c d (by have:=(List.getElem?_eq_some_iff.1 a).1;omega)⟩
     ·cases he
    | map _=>simp[hb]at he
    | tok _=>simp[hb]at he
    | _=>simp[hb]at he
  | _=>simp at he
theorem jH:∀(vs:List Value) (k off:Nat) (cells:Array Value),off+k+vs.length≤cells.size →
  ((vs.zipIdx k).foldl (fun (cs:Array Value) (x:Value×Nat)=>cs.setIfInBounds (off+x.2) x.1) cells).toList=cells.toList.take (off+k)++vs++cells.toList.drop (off+k+vs.length)
 | [],k,off,cells,_=>by simp
 | v :: vs,k,off,cells,h=>by
  simp only[List.length_cons]at h
  rw[List.zipIdx_cons,List.foldl_cons,jH vs (k+1) off _ (by simp;omega)]
  simp only[Array.toList_setIfInBounds,List.length_cons]
  have aD:off+k<cells.toList.length:=by simp;omega
  rw[show off+(k+1)=off+k+1 by omega,List.take_add_one]
  rw[show off+k+1+vs.length=off+k+(vs.length+1) by omega]
  rw[List.take_set_of_le (Nat.le_refl _),List.getElem?_set_self aD,List.drop_set_of_lt (by omega)]
  simp
theorem gk {off size:Nat}{v:Value}{cells:Array Value}(hs:v.cells.size=size)(hle:off+size≤cells.size) :
  (v.cells.zipIdx.foldl (fun (cs:Array Value) (x:Value×Nat)=>cs.setIfInBounds (off+x.2) x.1) cells).toList=cells.toList.take off++v.cells.toList++cells.toList.drop (off+size):=by
 have:=jH v.cells.toList 0 off cells (by simp[hs];omega)
 rw[←Array.foldl_toList,Array.toList_zipIdx]
 simpa[hs]using this
def placesOf (P:Program):List Field→List (Nat×Nat)
 | []=>[]
 | f :: fs=>(f.offset,P.cellsOf f.type) :: placesOf P fs
theorem run_places {fs:List Field}(hi:∀f∈fs,∃i,P.info? f.type=some i):(fs.mapM fun f=>do pure (f.offset,←sizeOf f.type):Sem (List (Nat×Nat))).run P w=.ok (placesOf P fs) w:=by
 induction fs with
 | nil=>simp[placesOf]
 | cons f fs ih =>
  obtain⟨i,hf⟩:=hi f (by simp)
  have ih:=ih (fun f' h'=>hi f' (by simp[h']))
  have h0:(sizeOf f.type).run P w=.ok i.size w:=by simp[sizeOf,au hf]
  rw[List.mapM_cons]
  simp only[Sem.run_bind,h0,Result.andThen_ok,Sem.run_pure,ih]
  simp[placesOf,Program.cellsOf,hf]
inductive PV (g:Ctx)(w:World)(R:ai):List (Nat×X)→List (Nat×Value)→Prop
 | nil:PV g w R [] []
 | cons {i:Nat} {x:X} {v:Value} {ps:List (Nat×X)} {pv:List (Nat×Value)} (h:VR g w (x.ev R) v) (hs:PV g w R ps pv):PV g w R ((i,x) :: ps) ((i,v) :: pv)
theorem uX {R:ai}{place:Nat→Option (Nat×Nat)}{ps:List (Nat×X)}{pv:List (Nat×Value)}(hv:PV g w R ps pv):∀(l:List (Nat×List T)) (z cs:List T) (cells:Array Value),(∀p∈ps,(place p.1).isSome=true) →
  bV R (ps.map fun p=>(((place p.1).getD (0,0)).1,((place p.1).getD (0,0)).2,p.2))=some l→eY z l=some cs→ay g w z cells.toList→aS z →
  ∃ba,Instr.fill place cells pv=some ba∧ay g w cs ba.toList∧aS cs∧ba.size=cells.size:=by
 induction hv with
 | nil =>
  intro l z cs cells hp hl hf hz ho
  simp[bV]at hl;subst hl
  simp[eY]at hf;subst hf
  exact⟨cells,rfl,hz,ho,rfl⟩
 | @cons i x v ps pv AO _ ih =>
  intro l z cs cells hp hl hf hz ho
  have DF:=hp (i,x) (by simp)
  cases y6:place i with
  | none=>simp[y6]at DF
  | some os =>
   obtain⟨off,size⟩:=os
   simp only[List.map_cons,y6,Option.getD_some]at hl
   simp only[bV]at hl
   cases hc:(x.ev R).cells? with
   | none=>simp[hc]at hl
   | some c =>
    cases hr:bV R (ps.map fun p=>(((place p.1).getD (0,0)).1,((place p.1).getD (0,0)).2,p.2))with
    | none=>simp[hc,hr]at hl
    | some l' =>
     simp only[hc,hr]at hl
     split at hl
     ·rename_i hC
      simp at hl;subst hl
      simp only[eY]at hf
      split at hf
      ·rename_i hle
       obtain⟨n7,AP⟩:=dD AO hc
       have b6:v.cells.size=size:=by have:=n7.1;simp at this;omega
       have lF:z.length=cells.size:=by have:=hz.1;simpa using this
       have Em:off+size≤cells.size:=by omega
       have bJ:=gk b6 Em
       have je:ay g w (z.take off++c++z.drop (off+c.length)) (v.cells.zipIdx.foldl (fun (cs:Array Value) (x:Value×Nat)=>cs.setIfInBounds (off+x.2) x.1) cells).toList:=by
        rw[bJ,hC]
        exact ay.append (ay.append (hz.take off) n7) (hz.drop (off+size))
       have fq:aS (z.take off++c++z.drop (off+c.length)):=by
        intro t ht
        rcases List.mem_append.1 ht with ht|ht
        ·rcases List.mem_append.1 ht with ht|ht
         ·exact ho t (List.mem_of_mem_take ht)
         ·exact AP t ht
        ·exact ho t (List.mem_of_mem_drop ht)
       obtain⟨ba,k1,k2,k3,k4⟩:=ih l' _ cs _ (fun x hx=>hp x (by simp[hx])) hr hf je fq
       refine⟨ba,?_,k2,k3,?_⟩
       ·simp only[Instr.fill,y6]
        rw[if_neg]
        ·exact k1
        ·simp[b6];omega
       ·rw[k4]
        have:=congrArg List.length bJ
        simp only[Array.length_toList,List.length_append,List.length_take,List.length_drop]at this
        omega
      ·cases hf
     ·cases hl
theorem pn {ty:TypeId}{fs:Array Field}{i:TypeInfo}{zv:Value}{R:ai}{ps:List (Nat×X)}{pv:List (Nat×Value)}{z cs:List T}{l:List (Nat×List T)}(hu:P.underlying ty=some (.struct fs))(hi:P.info? ty=some i)(hz:i.zero=some zv)(qI:bP zv.cells.toList=some z)
  (HI:∀f∈fs.toList,∃i,P.info? f.type=some i) (hp:∀p∈ps,p.1<fs.size) (h:SR w0 g H w) (hv:PV g w R ps pv)
  (hl:bV R (ps.map fun p=>((((placesOf P fs.toList)[p.1]?).getD (0,0)).1,(((placesOf P fs.toList)[p.1]?).getD (0,0)).2,p.2))=some l) (hf:eY z l=some cs) :
  aG P w0 g H w (Instr.build ty pv.toArray) (.agg cs) H:=by
 obtain⟨po,p7⟩:=br (g:=g) (w:=w) _ _ qI
 have hlen:∀l:List Field,(placesOf P l).length=l.length:=by
  intro l;induction l with
  | nil=>rfl
  | cons f l ih=>simp[placesOf,ih]
 have DG:∀p∈ps,((placesOf P fs.toList)[p.1]?).isSome=true:=fun p HJ=>by
  have:=hp p HJ
  rw[List.getElem?_eq_getElem (by rw[hlen];simpa using this)];rfl
 obtain⟨ba,k1,k2,k3,_⟩:=uX (place:=fun (i:Nat)=>(placesOf P fs.toList)[i]?) hv l z cs zv.cells DG hl hf po p7
 refine aG.same h (v:=.agg ba) ?_ (by have:=k2.agg k3;simpa using this)
 have y6:(fs.mapM fun f=>do pure (f.offset,←sizeOf f.type):Sem (Array (Nat×Nat))).run P w=.ok (placesOf P fs.toList).toArray w:=by
  rw[Array.mapM_eq_mapM_toList]
  simp only[Sem.run_map,run_places HI,Result.andThen_ok]
 simp only[Instr.build,zeroValue,Sem.run_bind,au hi,hz,Result.andThen_ok,Sem.run_pure,run_underlying hu,y6]
 have e:(fun (x:Nat)=>(placesOf P fs.toList).toArray[x]?)=fun (i:Nat)=>(placesOf P fs.toList)[i]?:=by funext x;simp
 simp[e,k1]
end
section
variable {P:Program} {w0 w:World} {g:Ctx} {H:aa}
theorem eF {n:Nat}:∀(es:List (List T)) (i:Nat) (c:List T),(∀c∈es,c.length=n)→i<es.length→(es.set i c).flatten=es.flatten.take (i*n)++c++es.flatten.drop (i*n+n)
 | [],i,c,_,h=>by simp at h
 | d :: es,0,c,hn,_=>by
  have hd:=hn d (by simp)
  simp[←hd]
 | d :: es,i+1,c,hn,h=>by
  have hd:=hn d (by simp)
  have ih:=eF es i c (fun c hc=>hn c (by simp[hc])) (by simpa using h)
  simp only[List.set_cons_succ,List.flatten_cons,ih]
  have e1:(d++es.flatten).take ((i+1)*n)=d++es.flatten.take (i*n):=by
   rw[List.take_append,hd,Nat.succ_mul]
   rw[List.take_of_length_le (by omega)]
   congr 2;omega
  have e2:(d++es.flatten).drop ((i+1)*n+n)=es.flatten.drop (i*n+n):=by
   rw[List.drop_append,hd,Nat.succ_mul]
   rw[List.drop_of_length_le (by omega)]
   simp only[List.nil_append]
   congr 1;omega
  rw[e1,e2];simp
theorem qJ {R:ai}{n:Nat}{ps:List (Nat×X)}{pv:List (Nat×Value)}(hv:PV g w R ps pv):∀(es fs:List (List T)) (cells:Array Value),dB n es R ps=some fs→(∀c∈es,c.length=n)→ay g w es.flatten cells.toList→aS es.flatten →
  ∃ba,Instr.fill (fun i=>some (i*n,n)) cells pv=some ba∧ay g w fs.flatten ba.toList∧aS fs.flatten∧(∀c∈fs,c.length=n)∧fs.length=es.length:=by
 induction hv with
 | nil =>
  intro es fs cells he hn hz ho
  simp[dB]at he;subst he
  exact⟨cells,rfl,hz,ho,hn,rfl⟩
 | @cons i x v ps pv AO _ ih =>
  intro es fs cells he hn hz ho
  simp only[dB]at he
  cases hc:(x.ev R).cells? with
  | none=>simp[hc]at he
  | some c =>
   simp only[hc]at he
   split at he
   ·rename_i aC
    obtain⟨hC,hi⟩:=aC
    obtain⟨n7,AP⟩:=dD AO hc
    have b6:v.cells.size=n:=by have:=n7.1;simp at this;omega
    have gI:=cA es hn
    have lF:es.flatten.length=cells.size:=by have:=hz.1;simpa using this
    have hle:i*n+n≤cells.size:=by
     rw[←lF,gI,←Nat.succ_mul];exact Nat.mul_le_mul_right _ hi
    have bJ:=gk b6 hle
    have ni:=eF es i (c.map T.erase) hn hi
    have je:ay g w (es.set i (c.map T.erase)).flatten (v.cells.zipIdx.foldl (fun (cs:Array Value) (x:Value×Nat)=>cs.setIfInBounds (i*n+x.2) x.1) cells).toList:=by
     rw[bJ,ni]
     exact ay.append (ay.append (hz.take _) n7.erase) (hz.drop _)
    have fq:aS (es.set i (c.map T.erase)).flatten:=by
     rw[ni]
     intro t ht
     rcases List.mem_append.1 ht with ht|ht
     ·rcases List.mem_append.1 ht with ht|ht
      ·exact ho t (List.mem_of_mem_take ht)
      ·exact iz AP t ht
     ·exact ho t (List.mem_of_mem_drop ht)
    obtain⟨ba,k1,k2,k3,k4,k5⟩:=ih _ fs _ he (fun c' ij=>by
     rcases List.mem_or_eq_of_mem_set ij with h|h
     ·exact hn c' h
     ·rw[h,List.length_map];exact hC) je fq
    refine⟨ba,?_,k2,k3,k4,by simpa using k5⟩
    simp only[Instr.fill]
    rw[if_neg]
    ·exact k1
    ·simp[b6];omega
   ·cases he
theorem eG {n:Nat}{z:List T}{zc:Array Value}(hz:ay g w z zc.toList)(hn:z.length=n)(m:Nat):ay g w (List.replicate m z).flatten ((Array.range (m*n)).map (fun i=>zc[i%zc.size]!)).toList:=by
 have uS:zc.size=n:=by have:=hz.1;simp at this;omega
 refine⟨by simp[hn],fun i t v a b=>?_⟩
 have hi:i<m*n:=by
  have:=(List.getElem?_eq_some_iff.1 b).1
  simpa using this
 have AQ:0<n:=by
  rcases Nat.eq_zero_or_pos n with e|e
  ·subst e;simp at hi
  ·exact e
 have HK:i/n<m:=Nat.div_lt_of_lt_mul (by rw[Nat.mul_comm];exact hi)
 have AR:i%n<z.length:=by rw[hn];exact Nat.mod_lt _ AQ
 have e1:(List.replicate m z)[i/n]?=some z:=by simp[HK]
 have:=eB (n:=n) (List.replicate m z) (fun c hc=>by rw[List.eq_of_mem_replicate hc];exact hn) (i/n) (i%n) z _ e1 (List.getElem?_eq_getElem AR)
 rw[show i/n*n+i%n=i by rw[Nat.mul_comm,Nat.div_add_mod]]at this
 rw[this]at a
 simp at a;subst a
 have aD:i%zc.size<zc.toList.length:=by rw[uS];simp[uS];exact Nat.mod_lt _ AQ
 have e2:zc.toList[i%zc.size]?=some v:=by
  simp[hi]at b
  rw[←b,List.getElem?_eq_getElem aD]
  have:i%zc.size<zc.size:=by simpa using aD
  simp[this]
 rw[uS]at e2
 exact hz.2 (i%n) _ v (List.getElem?_eq_getElem AR) e2
theorem dE {z:List T}(ho:aS z)(m:Nat):aS (List.replicate m z).flatten:=by
 intro t ht
 obtain⟨c,h1,h2⟩:=List.mem_flatten.1 ht
 rw[List.eq_of_mem_replicate h1]at h2
 exact ho t h2
theorem qK (w:World):Tr w w b7 cL:=Tr.refl w
theorem uY {ty elem:TypeId}{ei:TypeInfo}{zv:Value}{R:ai}{ps:List (Nat×X)}{pv:List (Nat×Value)}{z:List T}{len:Nat}{fs:List (List T)}(hu:P.underlying ty=some (.slice elem))(hi:P.info? elem=some ei)(hz:ei.zero=some zv)(qI:bP zv.cells.toList=some z)
  (nj:z.length=ei.size) (b6:len*ei.size≤2^24) (h:SR w0 g H w) (hv:PV g w R ps pv) (he:dB z.length (List.replicate len z) R ps=some fs) :
  aG P w0 g H w (Instr.buildSlice ty len pv.toArray) (.sl .full fs) H:=by
 obtain⟨po,p7⟩:=br (g:=g) (w:=w) _ _ qI
 have En:=eG po nj len
 have AN:=dE p7 len
 rw[nj]at he
 obtain⟨ba,k1,k2,k3,k4,k5⟩:=qJ hv _ fs ((Array.range (len*ei.size)).map (fun i=>zv.cells[i%zv.cells.size]!)) he (fun c hc=>by rw[List.eq_of_mem_replicate hc];exact nj) En AN
 have hlen:fs.length=len:=by rw[k5];simp
 obtain⟨le,sr,fr,cI⟩:=h.cI (c:=ba) (ty:=elem) (qK w) rfl
 refine⟨.slice (some ⟨w.heap.size,0,none⟩) len len,_,_,?_,le,sr,?_,fr⟩
 ·have qL:¬len*ei.size>2^24:=by omega
  by_cases h0:len*ei.size=0
  ·have e0:((Array.range (len*ei.size)).map (fun i=>zv.cells[i%zv.cells.size]!))=((Array.range (len*ei.size)).map (fun i=>(#[]:Array Value)[i%(#[]:Array Value).size]!)):=by
    rw[h0];simp
   rw[e0]at k1
   simp only[Instr.buildSlice,Sem.run_bind,run_underlying hu,Result.andThen_ok,sizeOf,au hi,Sem.run_pure,qL,if_false,h0,if_true]
   rw[h0]at k1
   simp at k1
   simp[k1,newRow]
  ·simp only[Instr.buildSlice,Sem.run_bind,run_underlying hu,Result.andThen_ok,sizeOf,au hi,Sem.run_pure,qL,if_false,h0,zeroValue,hz]
   simp[k1,newRow]
 ·have:=VR.gg (k:=.full) (r:=w.heap.size) (o:=0) (cap:=fs.length) k4 (k2.mono le) k3 (Nat.le_refl _) rfl (fun j v hj=>by rw[Nat.zero_add];exact cI j v (by simpa using hj))
  rw[hlen]at this;exact this
theorem wrap_i64 {n:Int}(h0:0≤n)(h1:n≤9223372036854775807):IntKind.i64.wrap n=n:=IntWalk.i64_in n (by omega)
theorem run_makeSlice {ty elem:TypeId}{ei:TypeInfo}{zv:Value}{k1 k2:IntKind}{l c:Int}(hu:P.underlying ty=some (.slice elem))(hi:P.info? elem=some ei)(hz:ei.zero=some zv)(h0:0≤l)(Ah:l≤c)(hc:c*ei.bytes≤281474976710656)(ij:c≤9223372036854775807) :
  (Instr.makeSlice ty (.int k1 l) (.int k2 c)).run P w=.ok (.slice (some ⟨w.heap.size,0,none⟩) l.toNat c.toNat)
   (w.alloc (.cells ((Array.range (c.toNat*ei.size)).map (fun i=>(if c.toNat*ei.size=0 then(#[]:Array Value)else zv.cells)[i%(if c.toNat*ei.size=0 then(#[]:Array Value)else zv.cells).size]!)) elem)):=by
 have e1:=wrap_i64 h0 (by omega:l≤9223372036854775807)
 have e2:=wrap_i64 (by omega:0≤c) ij
 have t1:((decide (c<0)||decide ((ei.bytes:Int)*c>2^48))||decide (l<0)||decide (l>c))=false:=by
  have:(ei.bytes:Int)*c=c*ei.bytes:=Int.mul_comm _ _
  simp[this];omega
 simp only[Instr.makeSlice,Sem.run_bind,run_underlying hu,Result.andThen_ok,asInt,asIntOf,Sem.run_pure,au hi,e1,e2,t1]
 by_cases hn:c.toNat*ei.size=0
 ·simp[sizeOf,au hi,hn,newRow]
 ·simp[sizeOf,au hi,hn,zeroValue,hz,newRow]
theorem uZ {ty elem:TypeId}{ei:TypeInfo}{zv:Value}{mu:Bool}{z:List T}{x y t:T}{l c:Nat}{vx vy:Value}{H':aa}(hu:P.underlying ty=some (.slice elem))(hi:P.info? elem=some ei)(hz:ei.zero=some zv)(qI:bP zv.cells.toList=some z)(nj:z.length=ei.size)(AQ:ei.size≠0)
  (h:SR w0 g H w) (hx:VR g w x vx) (hy:VR g w y vy) (hl:aR x=some l) (hc:aR y=some c) (Ah:l≤c) (hb:c*ei.bytes≤281474976710656) (JI:c≤9223372036854775807)
  (he:(if mu then(T.aQ H.length 0 l z.length,H++[.cells (List.replicate l z).flatten])else if l=0 then(.sl .arg [],H)else(.sl (.own H.length l) (List.replicate l z),H++[.tok l]))=(t,H')) :
  aG P w0 g H w (Instr.makeSlice ty vx vy) t H':=by
 obtain⟨po,p7⟩:=br (g:=g) (w:=w) _ _ qI
 obtain⟨k1,n1,rfl,a1,b1⟩:=bD hx hl
 obtain⟨k2,n2,rfl,a2,b2⟩:=bD hy hc
 have aJ:=run_makeSlice (P:=P) (w:=w) (k1:=k1) (k2:=k2) hu hi hz a1 (by omega:n1≤n2) (by
  have:(n2.toNat:Int)=n2:=Int.toNat_of_nonneg a2
  rw[←this,b2];omega) (by omega)
 rw[b1,b2]at aJ
 have tY:=eG po nj c
 have bM:=dE p7 c
 have qM:(List.replicate c z).flatten=(List.replicate l z).flatten++(List.replicate (c-l) z).flatten:=by
  rw[←List.flatten_append,List.replicate_append_replicate];congr 2;omega
 have GX:(List.replicate l z).flatten.length=l*ei.size:=by rw[cA (n:=ei.size) _ (fun c hc=>by rw[List.eq_of_mem_replicate hc];exact nj),List.length_replicate]
 have fM:(Array.range (c*ei.size)).map (fun i=>(if c*ei.size=0 then(#[]:Array Value)else zv.cells)[i%(if c*ei.size=0 then(#[]:Array Value)else zv.cells).size]!)=(Array.range (c*ei.size)).map (fun i=>zv.cells[i%zv.cells.size]!):=by
  by_cases h0:c*ei.size=0
  ·rw[h0];simp
  ·simp only[h0,if_false]
 rw[fM]at aJ
 generalize hA:(Array.range (c*ei.size)).map (fun i=>zv.cells[i%zv.cells.size]!)=A at aJ tY
 have b6:A.size=c*ei.size:=by rw[←hA];simp
 have cM:∀(i:Nat) (t:T),(List.replicate l z).flatten[i]?=some t→t.one=true∧∃v,A[i]?=some v∧VR g w t v:=by
  intro i t fW
  have e:(List.replicate c z).flatten[i]?=some t:=by
   rw[qM,List.getElem?_append_left (List.getElem?_eq_some_iff.1 fW).1];exact fW
  obtain⟨v,h1,h2⟩:=tY.cp i t e
  exact⟨bM t (List.mem_of_getElem? e),v,by simpa using h1,h2⟩
 cases mu with
 | true =>
  simp only[if_true,Prod.mk.injEq]at he
  obtain⟨rfl,rfl⟩:=he
  obtain⟨g',le,sr,fr,hφ⟩:=h.cS (c:=A) (ty:=elem) (qK w) rfl cM
  exact⟨_,_,g',aJ,le,sr,.aQ (r:=w.heap.size) (o:=0) (off:=0) hφ Ah (by rw[b6,nj];simp),fr⟩
 | false =>
  simp only[Bool.false_eq_true,if_false]at he
  split at he
  ·rename_i Ad
   subst Ad
   simp only[Prod.mk.injEq]at he
   obtain⟨rfl,rfl⟩:=he
   obtain⟨le,sr,fr,cI⟩:=h.cI (c:=A) (ty:=elem) (qK w) rfl
   exact⟨_,_,_,aJ,le,sr,.sl (n:=0) (fun _ _=>.nilIface) trivial (by simp) (by simp) (by simp) (by simp),fr⟩
  ·rename_i Ad
   simp only[Prod.mk.injEq]at he
   obtain⟨rfl,rfl⟩:=he
   obtain⟨le,sr,fr,cI,hp⟩:=h.qE (c:=A) (ty:=elem) (t:=H.length) (e:=l) (k:=l*ei.size) (H':=H++[.tok l]) (qK w) rfl (bE _ _) (by rw[b6];exact Nat.mul_le_mul_right _ Ah) (fun uT _=>h.Ef (Nat.le_refl _))
    (fun b' x e hx=>aN e hx) (by simp) (fun b' x hx _=>cq hx)
   refine⟨_,_,_,aJ,le,sr,?_,fr⟩
   have hv:ay g w (List.replicate l z).flatten (A.toList.take (l*ei.size)):=by
    have:=tY.take (l*ei.size)
    rwa[qM,List.take_append_of_le_length (by omega),List.take_of_length_le (by omega)]at this
   have:=VR.gg (k:=.own H.length l) (r:=w.heap.size) (o:=0) (cap:=c) (n:=ei.size) (es:=List.replicate l z) (fun c hc=>by rw[List.eq_of_mem_replicate hc];exact nj) (hv.mono le) (dE p7 l) (by simpa using Ah)
    ⟨by rw[hp,b6];simp,by simp;omega⟩ (fun j v hj=>by
     rw[Nat.zero_add]
     rw[List.getElem?_take]at hj
     split at hj
     ·rename_i aD;exact cI j v aD (by simpa using hj)
     ·cases hj)
   simpa using this
theorem u0 {f:Nat}{ew:List T}{vs:List Value}(h:SR w0 g H w)(hv:ay g w ew vs):aG P w0 g H w (Instr.makeFunc (.func f) #[] vs.toArray) (.fn f ew) H :=
 aG.same h rfl (.fn (by simp[hv.1]) (fun i t v a b=>hv.2 i t v a (by simpa using b)))
end
section
variable {P:Program} {w0 w:World} {g:Ctx} {H:aa}
theorem VR.Aa {t:T}{v:Value}(h:VR g w t v):VR g w (Aa t) v:=by
 cases h with
 | bU h hc hq=>exact .aQ h hc hq
 | aQ h hc hq=>exact .aQ h hc hq
 | int k n=>exact .int k n
 | bool b=>exact .bool b
 | str s=>exact .str s
 | aL=>exact .aL
 | ptr h=>exact .ptr h
 | cF a7 h1 h2=>exact .cF a7 h1 h2
 | b9=>exact .b9
 | map h=>exact .map h
 | slnil=>exact .slnil
 | dq a=>exact .dq a
 | sl a7 hk hc hn h1 h2=>exact .sl a7 hk hc hn h1 h2
 | dv=>exact .dv
 | fn hl h=>exact .fn hl h
 | gY h=>exact .gY h
 | cG=>exact .cG
 | agg hl h1 h2=>exact .agg hl h1 h2
 | bo hl h2=>exact .bo hl h2
theorem u1 {ty rt:TypeId}{e:TypeId}{b off len n c:Nat}{vx:Value}(hu:P.underlying ty=some (.slice e))(h:SR w0 g H w)(hx:VR g w (.bU b off len n c) vx) :
  aG P w0 g H w (Builtin.cap_ #[ty] rt #[vx]) (.int .i64 (c:Nat)) H:=by
 cases hx with
 | bU hφ hc hq=>exact aG.same h (v:=.int .i64 c) (by simp[Builtin.cap_,run_underlying hu,goInt]) (.int _ _)
theorem iA (cs:List T)(off n:Nat):∀k,off+k*n≤cs.length→((List.range k).map fun i=>(cs.drop (off+i*n)).take n).flatten=(cs.drop off).take (k*n)
 | 0,_=>by simp
 | k+1,h=>by
  have h':off+k*n≤cs.length:=by rw[Nat.succ_mul]at h;omega
  rw[List.range_succ,List.map_append,List.flatten_append,iA cs off n k h',Nat.succ_mul,List.take_add]
  simp[List.drop_drop]
theorem jI {n k:Nat}{y:T}{vy:Value}{new:List (List T)}(h:SR w0 g H w)(hy:VR g w y vy)(he:fh H n k y=some new) :
  ∃r o ly cap vs,vy=.slice (some ⟨r,o,none⟩) ly cap∧ui y=some ly∧(∀(j:Nat) (v:Value),vs[j]?=some v→w.cell? ⟨r,o+j,none⟩=some v)∧ay g w new.flatten vs∧vs.length=k*n∧aS new.flatten∧new.flatten.length=k*n:=by
 have key:∀(b off:Nat) (r o q:Nat),g.φ b=some (r,o,q)→(match H[b]? with|some (.cells cs)=>if off+k*n≤cs.length then some ((List.range k).map fun i=>(cs.drop (off+i*n)).take n)else none|_=>none)=some new →
   ∃vs,(∀(j:Nat) (v:Value),vs[j]?=some v→w.cell? ⟨r,o+off+j,none⟩=some v)∧ay g w new.flatten vs∧vs.length=k*n∧aS new.flatten∧new.flatten.length=k*n:=by
  intro b off r o q hφ he
  cases hb:H[b]? with
  | none=>simp[hb]at he
  | some z =>
   cases z<;>simp only[hb]at he<;>(try (cases he;done))
   rename_i cs
   split at he
   ·rename_i hle
    simp only[Option.some.injEq]at he
    have gI:=iA cs off n k hle
    rw[he]at gI
    have hp:gF H (k*n) (.ptr b off)=some new.flatten:=by simp[gF,hb,hle,gI]
    obtain⟨r',o',vs,e1,e2,e3,e4,e5⟩:=fk h (.ptr hφ) hp
    cases e1
    exact⟨vs,e3,e4,e2,e5,by rw[gI,List.length_take,List.length_drop];omega⟩
   ·cases he
 cases hy<;>simp only[fh]at he<;>(try (cases he;done))
 ·rename_i b off len n' r o q cap hφ hc hq
  obtain⟨vs,a1,a2,a3,a4,a5⟩:=key b off r o q hφ (by
   cases hb:H[b]? with
   | none=>simp[hb]at he
   | some z =>
    cases z<;>simp only[hb]at he ⊢<;>(try (cases he;done))
    split at he
    ·rename_i kF;rw[if_pos kF.2];exact he
    ·cases he)
  exact⟨r,o+off,len,cap,vs,rfl,rfl,a1,a2,a3,a4,a5⟩
 ·rename_i b off len n' r o q cap hφ hc hq
  obtain⟨vs,a1,a2,a3,a4,a5⟩:=key b off r o q hφ (by
   cases hb:H[b]? with
   | none=>simp[hb]at he
   | some z =>
    cases z<;>simp only[hb]at he ⊢<;>(try (cases he;done))
    split at he
    ·rename_i kF;rw[if_pos kF.2];exact he
    ·cases he)
  exact⟨r,o+off,len,cap,vs,rfl,rfl,a1,a2,a3,a4,a5⟩
theorem SR.y7 {b off r o q:Nat}{cs ts:List T}{vs:List Value}(h:SR w0 g H w)(hb:H[b]?=some (.cells cs))(hφ:g.φ b=some (r,o,q))(pf:off≤cs.length)(hle:o+off+ts.length≤q)(hv:ay g w ts vs)(ho:aS ts) :
  Le g w g (w.setCells r (o+off) vs)∧SR w0 g (H.set b (.cells (cs.take off++ts++cs.drop (off+ts.length)))) (w.setCells r (o+off) vs):=by
 have fp:b<H.length:=(List.getElem?_eq_some_iff.1 hb).1
 obtain⟨h1,h2,h3⟩:=h.dy b _ hb r o q hφ
 have hl:=hv.1
 have hs:∀j,o+off≤j→j<o+off+vs.length→(w.cell? ⟨r,j,none⟩).isSome=true:=fun j a c=>(h2 j (by omega) (by omega)).2.2
 have tr:=Tr.setCells w r (o+off) vs hs
 have hS:∀r' j,lD r (o+off) vs.length r' j→g.κ r' j=.mut b:=by
  rintro r' j⟨rfl,a,c⟩;exact(h2 j (by omega) (by omega)).1
 have le:Le g w g (w.setCells r (o+off) vs):=Le.cz tr (fun _ _ h=>h) (fun _ _ h=>h) (fun _ _ _ h=>h) (fun r' j gQ e=>by rw[hS r' j gQ]at e;cases e)
 refine⟨le,h.step (fun b'=>b'=b) tr le (fun r' j gQ=>.inr (.inl ⟨b,hS r' j gQ,rfl⟩)) (fun _ hm=>hm.elim) (fun r' j hr=>h.fresh r' j (by rwa[bu]at hr)) (fun b' x hx=>by rw[List.length_set];exact h.gG b' x hx)
  (fun t e x hx=>by rw[List.length_set];exact h.cd t e x hx) (fun _ _ _=>rfl) (fun _ _ _ _=>⟨id,id⟩) (fun _ _ _ _=>rfl) (fun b' x hx=>?_)⟩
 rcases bj fp hx with⟨rfl,rfl⟩|⟨aF,et⟩
 ·right
  intro r' o' q' dR
  rw[hφ]at dR;cases dR
  have hlen:(cs.take off++ts++cs.drop (off+ts.length)).length=max cs.length (off+ts.length):=by simp;omega
  refine⟨by rw[hlen];omega,fun j a c=>⟨(h2 j a c).1,fun j0=>by rw[World.frozen?_setCells];exact(h2 j a c).2.1 j0,tr.fj r j ?_ (h2 j a c).2.2⟩,fun i t hi=>?_⟩
  ·obtain⟨x,hx⟩:=Option.isSome_iff_exists.1 (h2 j a c).2.2;exact dQ hx
  ·have fW:i<max cs.length (off+ts.length):=by rw[←hlen];exact(List.getElem?_eq_some_iff.1 hi).1
   by_cases jl:off≤i∧i<off+ts.length
   ·have ht:ts[i-off]?=some t:=by
     rw[List.append_assoc,List.getElem?_append_right (by simp;omega),List.getElem?_append_left (by simp;omega)]at hi
     rw[←hi];congr 1;simp;omega
    have aD:i-off<vs.length:=by omega
    refine⟨ho t (List.mem_of_getElem? ht),vs[i-off],?_,(hv.2 _ t _ ht (List.getElem?_eq_getElem aD)).mono le⟩
    have:=aX r vs (o+off) w hs (i-off) _ (List.getElem?_eq_getElem aD)
    rwa[show o+off+(i-off)=o+i by omega]at this
   ·have ht:cs[i]?=some t:=by
     by_cases aD:i<off
     ·rw[List.append_assoc,List.getElem?_append_left (by simp;omega),List.getElem?_take,if_pos aD]at hi;exact hi
     ·rw[List.getElem?_append_right (by simp;omega),List.getElem?_drop]at hi
      rw[←hi];congr 1;simp;omega
    obtain⟨a,v,yW,yX⟩:=h3 i t ht
    refine⟨a,v,?_,yX.mono le⟩
    rw[aV r vs (o+off) w r (o+i) (by omega)];exact yW
 ·exact .inl ⟨aF,et⟩
theorem pq (w:World)(dT sT ty elem:TypeId){ei:TypeInfo}(b o y8 Eo:Nat)(a:Addr)(y9 Ep:Nat)(cs:List Value)
  (hu:P.underlying dT=some (.slice elem)) (hi:P.info? elem=some ei) (hn:cs.length=Nat.min y9 y8*ei.size)
  (jm:∀(j:Nat) v,cs[j]?=some v→w.cell? (a.add j)=some v) (hc:∀j,j<cs.length→(w.cell? ⟨b,o+j,none⟩).isSome=true) (hf:∀j,j<cs.length→w.frozen? ⟨b,o+j,none⟩=false) (h1:∀v∈cs,v.oneCell'=true) :
  (Builtin.copy_ #[dT,sT] ty #[.slice (some ⟨b,o,none⟩) y8 Eo,.slice (some a) y9 Ep]).run P w=.ok (goInt (Nat.min y9 y8:Nat)) (w.setCells b o cs):=by
 have hl:=run_loadCells_list (P:=P) w a cs jm
 have hI:=run_storeCells_cells (P:=P) b o cs 0 w (by simpa using hc) (by simpa using hf) h1
 rw[hn]at hl
 have hq:(typeInfo elem).run P w=.ok ei w:=au hi
 simp[Builtin.copy_,run_underlying hu,Builtin.lenOf,Builtin.firstCells,sizeOf,hq,hl,hI]
theorem u2 {dT sT rt elem:TypeId}{ei:TypeInfo}{x y t:T}{vx vy:Value}{H':aa}(hu:P.underlying dT=some (.slice elem))(hi:P.info? elem=some ei)
  (h:SR w0 g H w) (hx:VR g w x vx) (hy:VR g w y vy) (he:qd H ei.size x y=some (t,H')):aG P w0 g H w (Builtin.copy_ #[dT,sT] rt #[vx,vy]) t H':=by
 have key:∀b off len n' r o q cap,g.φ b=some (r,o,q)→len≤cap→o+off+cap*n'=q→vx=.slice (some ⟨r,o+off,none⟩) len cap →
   (∀ly,ui y=some ly→∀cs new,H[b]?=some (.cells cs)→fh H ei.size (min ly len) y=some new→n'=ei.size∧ei.size≠0∧off≤cs.length →
    t=.int .i64 (min ly len:Nat)→H'=H.set b (.cells (cs.take off++new.flatten++cs.drop (off+(min ly len)*ei.size)))→aG P w0 g H w (Builtin.copy_ #[dT,sT] rt #[vx,vy]) t H'):=by
  rintro b off len n' r o q cap hφ hc hq rfl ly za cs new hb hK⟨rfl,AQ,pf⟩ rfl rfl
  obtain⟨r2,o2,JJ,kz,vs,rfl,AS,a1,a2,a3,a4,a5⟩:=jI h hy hK
  rw[za]at AS;cases AS
  have fp:b<H.length:=(List.getElem?_eq_some_iff.1 hb).1
  obtain⟨h1,h2,h3⟩:=h.dy b _ hb r o q hφ
  have hmul:min ly len*ei.size≤cap*ei.size:=Nat.mul_le_mul_right _ (by omega)
  have aJ:=pq (P:=P) w dT sT rt elem r (o+off) len cap ⟨r2,o2,none⟩ ly kz vs hu hi (by rw[a3]) (fun j v hj=>by rw[a8];exact a1 j v hj) (fun j hj=>(h2 _ (by omega) (by omega)).2.2) (fun j hj=>(h2 (o+off+j) (by omega) (by omega)).2.1 _) (a2.dr a4)
  obtain⟨le,sr⟩:=h.y7 hb hφ pf (by rw[a5];omega) a2 a4
  rw[a5]at sr
  refine⟨_,_,g,aJ,le,sr,by simpa[goInt]using .int _ _,by simp,fun b' y' a _ d=>⟨bF a ?_,d⟩⟩
  rintro rfl;rw[hφ]at d;cases d
 unfold qd at he
 cases hx<;>simp only[]at he<;>(try (cases he;done))
 all_goals
  rename_i b off len n' r o q cap hφ hc hq
  cases za:ui y with
  | none=>simp[za]at he
  | some ly =>
   simp only[za]at he
   cases hb:H[b]? with
   | none=>simp[hb]at he
   | some z =>
    cases hK:fh H ei.size (min ly len) y with
    | none=>cases z<;>simp[hb,hK]at he
    | some new =>
     cases z<;>simp only[hb,hK]at he<;>(try (cases he;done))
     split at he
     ·rename_i kF
      simp only[Option.some.injEq,Prod.mk.injEq]at he
      exact key b off len n' r o q cap hφ hc hq rfl ly za _ new hb hK kF he.1.symm he.2.symm
     ·cases he
theorem qN {R:ai}{n:Nat}{ps:List (Nat×X)}{pv:List (Nat×Value)}(hv:PV g w R ps pv):∀(es fs:List (List T)) (cells:Array Value),dC n es R ps=some fs→(∀c∈es,c.length=n)→ay g w es.flatten cells.toList→aS es.flatten →
  ∃ba,Instr.fill (fun i=>some (i*n,n)) cells pv=some ba∧ay g w fs.flatten ba.toList∧aS fs.flatten∧(∀c∈fs,c.length=n)∧fs.length=es.length:=by
 induction hv with
 | nil =>
  intro es fs cells he hn hz ho
  simp[dC]at he;subst he
  exact⟨cells,rfl,hz,ho,hn,rfl⟩
 | @cons i x v ps pv AO _ ih =>
  intro es fs cells he hn hz ho
  simp only[dC]at he
  cases hc:(x.ev R).cells? with
  | none=>simp[hc]at he
  | some c =>
   simp only[hc]at he
   split at he
   ·rename_i aC
    obtain⟨hC,hi⟩:=aC
    obtain⟨n7,AP⟩:=dD AO hc
    have b6:v.cells.size=n:=by have:=n7.1;simp at this;omega
    have gI:=cA es hn
    have lF:es.flatten.length=cells.size:=by have:=hz.1;simpa using this
    have hle:i*n+n≤cells.size:=by
     rw[←lF,gI,←Nat.succ_mul];exact Nat.mul_le_mul_right _ hi
    have bJ:=gk b6 hle
    have ni:=eF es i c hn hi
    have je:ay g w (es.set i c).flatten (v.cells.zipIdx.foldl (fun (cs:Array Value) (x:Value×Nat)=>cs.setIfInBounds (i*n+x.2) x.1) cells).toList:=by
     rw[bJ,ni]
     exact ay.append (ay.append (hz.take _) n7) (hz.drop _)
    have fq:aS (es.set i c).flatten:=by
     rw[ni]
     intro t ht
     rcases List.mem_append.1 ht with ht|ht
     ·rcases List.mem_append.1 ht with ht|ht
      ·exact ho t (List.mem_of_mem_take ht)
      ·exact AP t ht
     ·exact ho t (List.mem_of_mem_drop ht)
    obtain⟨ba,k1,k2,k3,k4,k5⟩:=ih _ fs _ he (fun c' ij=>by
     rcases List.mem_or_eq_of_mem_set ij with h|h
     ·exact hn c' h
     ·rw[h];exact hC) je fq
    refine⟨ba,?_,k2,k3,k4,by simpa using k5⟩
    simp only[Instr.fill]
    rw[if_neg]
    ·exact k1
    ·simp[b6];omega
   ·cases he
theorem SR.pr {c:Array Value}{ty:TypeId}{cs:List T}(h:SR w0 g H w)(b6:cs.length=c.size)
  (hc:∀(i:Nat) (t:T),cs[i]?=some t→t.one=true∧∃v,c[i]?=some v∧VR g w t v) :
  ∃g',Le g w g' (w.alloc (.cells c ty))∧SR w0 g' (H++[.lit cs]) (w.alloc (.cells c ty))∧Fr g H g' (H++[.lit cs])∧g'.φ H.length=some (w.heap.size,0,c.size):=by
 have jG:=Tr.alloc w (.cells c ty)
 have aF:∀r j ow,g.κ r j=ow→ow≠.free→r≠w.heap.size:=by rintro r j ow e hn rfl;exact hn (e▸h.fresh _ j (Nat.le_refl _))
 have AU:=h.tX (b:=H.length) (Nat.le_refl _)
 have hκ:∀r j,((g.row w.heap.size fun j=>if j=c.size then .mut H.length else .cI).at H.length (w.heap.size,0,c.size)).κ r j=if r=w.heap.size then(if j=c.size then .mut H.length else .cI)else g.κ r j:=fun r j=>rfl
 have le:Le g w ((g.row w.heap.size fun j=>if j=c.size then .mut H.length else .cI).at H.length (w.heap.size,0,c.size)) (w.alloc (.cells c ty)):=Le.cz jG
  (fun b' x hx=>by simp only[Ctx.at,Ctx.row];split;rename_i e;subst e;rw[AU]at hx;simp at hx;exact hx)
  (fun r o hk=>by rw[hκ,if_neg (aF r o _ hk (by simp))];exact hk) (fun _ _ _ h=>h) (fun _ _ hs=>hs.elim)
 refine⟨_,le,?_,⟨by simp,fun b x a _ d=>⟨cq a,?_⟩⟩,by simp[Ctx.at]⟩
 ·refine h.step (fun b'=>b'=H.length) jG le (fun _ _ hs=>hs.elim) (fun _ hm=>hm.elim) (fun r o hr=>?_) (fun b' x hx=>?_) (fun t e x hx=>by have:=h.cd t e x hx;simp;omega) (fun b' _ cY=>?_) (fun r j b' cY=>?_) (fun _ _ _ _=>rfl) (fun b' x hx=>?_)
  ·simp at hr
   rw[hκ,if_neg (by omega)];exact h.fresh r o (by omega)
  ·simp only[Ctx.at,Ctx.row]at hx
   split at hx
   ·rename_i e;subst e;simp
   ·have:=h.gG b' x hx;simp;omega
  ·simp only[Ctx.at,Ctx.row];rw[if_neg cY]
  ·constructor<;>intro e<;>rw[hκ,if_neg (aF r j _ e (by simp))]<;>exact e
  ·by_cases e:b'=H.length
   ·subst e
    right
    rw[bE]at hx;cases hx
    refine⟨w.heap.size,c.size,by simp[Ctx.at],by rw[hκ];simp,fun j hj=>by rw[hκ,if_pos rfl,if_neg hj],c,ty,by show(w.heap.push _)[w.heap.size]?=_;simp,rfl,b6,fun i t hi=>?_⟩
    obtain⟨a,v,b1,b2⟩:=hc i t hi
    exact⟨a,v,b1,b2.mono le⟩
   ·exact .inl ⟨e,aN e hx⟩
 ·have:=(List.getElem?_eq_some_iff.1 a).1
  simp only[Ctx.at,Ctx.row];rw[if_neg (by omega)];exact d
theorem SR.nk {c:Array Value}{ty:TypeId}{cs z:List T}{n:Nat}(h:SR w0 g H w)(b6:cs.length=c.size)
  (hc:∀(i:Nat) (t:T),cs[i]?=some t→t.one=true∧∃v,c[i]?=some v∧VR g w t v) :
  ∃g',Le g w g' (w.alloc (.cells c ty))∧SR w0 g' (H++[gP n z cs]) (w.alloc (.cells c ty))∧Fr g H g' (H++[gP n z cs])∧g'.φ H.length=some (w.heap.size,0,c.size):=by
 unfold gP
 split
 ·exact h.pr b6 hc
 ·exact h.cS (qK w) rfl hc
theorem u3 {ty elem:TypeId}{ei:TypeInfo}{zv:Value}{R:ai}{ps:List (Nat×X)}{pv:List (Nat×Value)}{z:List T}{len:Nat}{fs:List (List T)}(hu:P.underlying ty=some (.slice elem))(hi:P.info? elem=some ei)(hz:ei.zero=some zv)(qI:bP zv.cells.toList=some z)
  (nj:z.length=ei.size) (b6:len*ei.size≤2^24) (h:SR w0 g H w) (hv:PV g w R ps pv) (he:dC z.length (List.replicate len z) R ps=some fs) :
  aG P w0 g H w (Instr.buildSlice ty len pv.toArray) (.aQ H.length 0 len z.length) (H++[gP len z fs.flatten]):=by
 obtain⟨po,p7⟩:=br (g:=g) (w:=w) _ _ qI
 have En:=eG po nj len
 have AN:=dE p7 len
 rw[nj]at he
 obtain⟨ba,k1,k2,k3,k4,k5⟩:=qN hv _ fs ((Array.range (len*ei.size)).map (fun i=>zv.cells[i%zv.cells.size]!)) he (fun c hc=>by rw[List.eq_of_mem_replicate hc];exact nj) En AN
 have hlen:fs.length=len:=by rw[k5];simp
 have gI:fs.flatten.length=len*ei.size:=by rw[cA fs k4,hlen]
 have kX:ba.size=len*ei.size:=by have:=k2.1;simp only[Array.length_toList]at this;omega
 obtain⟨g',le,sr,fr,hφ⟩:=h.nk (c:=ba) (ty:=elem) (cs:=fs.flatten) (n:=len) (z:=z) (by rw[gI,kX]) (fun i t hi=>by
  obtain⟨v,a1,a2⟩:=k2.cp i t hi
  exact⟨k3 t (List.mem_of_getElem? hi),v,by simpa using a1,a2⟩)
 refine⟨.slice (some ⟨w.heap.size,0,none⟩) len len,_,g',?_,le,sr,?_,fr⟩
 ·have qL:¬len*ei.size>2^24:=by omega
  by_cases h0:len*ei.size=0
  ·have e0:((Array.range (len*ei.size)).map (fun i=>zv.cells[i%zv.cells.size]!))=((Array.range (len*ei.size)).map (fun i=>(#[]:Array Value)[i%(#[]:Array Value).size]!)):=by
    rw[h0];simp
   rw[e0]at k1
   simp only[Instr.buildSlice,Sem.run_bind,run_underlying hu,Result.andThen_ok,sizeOf,au hi,Sem.run_pure,qL,if_false,h0,if_true]
   rw[h0]at k1
   simp at k1
   simp[k1,newRow]
  ·simp only[Instr.buildSlice,Sem.run_bind,run_underlying hu,Result.andThen_ok,sizeOf,au hi,Sem.run_pure,qL,if_false,h0,zeroValue,hz]
   simp[k1,newRow]
 ·rw[nj]
  exact .aQ (r:=w.heap.size) (o:=0) (off:=0) hφ (Nat.le_refl _) (by rw[kX];simp)
theorem u4 {sT xT elem rt:TypeId}{ei:TypeInfo}{zv:Value}{z:List T}{kq kn:IntKind}{x t:T}{vx:Value}{k:Nat}{H':aa}(hu:P.underlying sT=some (.slice elem))(u5:P.underlying xT=some (.int kn))(hi:P.info? elem=some ei)(hz:ei.zero=some zv)(qI:bP zv.cells.toList=some z)
  (hb:ei.bytes≠0) (h:SR w0 g H w) (hx:VR g w x vx) (he:uj H ei.size ei.bytes z x k=some (t,H')):aG P w0 g H w (Builtin.append_ #[sT,xT] rt #[vx,.int kq k]) t H':=by
 unfold uj at he
 cases x<;>simp only[]at he<;>(try (cases he;done))
 rename_i b off len n' c
 cases hK:fh H ei.size len (.bU b off len n' c)with
 | none=>simp[hK]at he
 | some es =>
  simp only[hK]at he
  split at he
  ·rename_i kF
   obtain⟨rfl,AQ,HL,hC,nj,c8⟩:=kF
   simp only[Option.some.injEq,Prod.mk.injEq]at he
   obtain⟨rfl,rfl⟩:=he
   obtain⟨r,o,ly,cap,vs,rfl,za,a1,a2,a3,a4,a5⟩:=jI h hx hK
   cases za
   have fG:cap=c:=by cases hx;rfl
   subst fG
   obtain⟨po,p7⟩:=br (g:=g) (w:=w) _ _ qI
   have hold:(Builtin.firstCells ei.size len (.slice (some ⟨r,o,none⟩) len cap)).run P w.drew=.ok vs.toArray w.drew:=by
    have:=run_loadCells_list (P:=P) w.drew ⟨r,o,none⟩ vs (fun j v hj=>by rw[a8];exact a1 j v hj)
    rw[a3]at this
    simpa[Builtin.firstCells]using this
   have DH:¬Builtin.nextslicecap (len+k) cap*ei.bytes>2^48:=n5 hC c8
   have hr:=c8
   simp only[dM,decide_eq_true_eq]at hr
   have wM:(len+k)*ei.bytes≤281474976710656:=Nat.le_trans (Nat.mul_le_mul_right _ (by omega)) hr
   have Er:len+k≤281474976710656:=Nat.le_trans (Nat.le_mul_of_pos_right _ (by omega)) wM
   have HM:k*ei.bytes≤281474976710656:=Nat.le_trans (Nat.mul_le_mul_right _ (by omega)) wM
   have aJ:=Go.Lib.run_append_grow_zeros (P:=P) w sT xT rt elem ei zv kq kn hu u5 hi hz (some ⟨r,o,none⟩) len cap vs hold k HL (by omega) hC (by omega) HM (by omega)
   have uS:zv.cells.toList.length=ei.size:=by have:=po.1;omega
   have AV:zv.cells.size=ei.size:=by simpa using uS
   have qH:ay g w (es.flatten++(List.replicate k z).flatten) (vs++(Builtin.zeroCells zv.cells k).toList):=by
    refine ay.append a2 ?_
    have:=eG po nj k
    simpa[Builtin.zeroCells,AV]using this
   have p6:=grownCap_ge w (len+k) cap elem
   generalize grownCap w (len+k) cap elem=nc at aJ p6
   have AW:aS (es.flatten++(List.replicate k z).flatten):=fun t ht=>by
    rcases List.mem_append.1 ht with ht|ht
    ·exact a4 t ht
    ·exact dE p7 k t ht
   have b6:(vs.toArray++Builtin.zeroCells zv.cells k++Builtin.zeroCells zv.cells (nc-(len+k))).size=nc*ei.size:=by
    simp only[Array.size_append,eE,List.size_toArray,a3,AV]
    rw[←Nat.add_mul,←Nat.add_mul];congr 1;omega
   obtain⟨g',le,sr,fr,hφ⟩:=h.cS (c:=vs.toArray++Builtin.zeroCells zv.cells k++Builtin.zeroCells zv.cells (nc-(len+k))) (ty:=elem) (cs:=es.flatten++(List.replicate k z).flatten) (hG w) rfl (fun i t hi=>by
    obtain⟨v,b1,b2⟩:=qH.cp i t hi
    refine⟨AW t (List.mem_of_getElem? hi),v,?_,b2⟩
    rw[List.getElem?_toArray]at b1
    have aD:=(List.getElem?_eq_some_iff.1 b1).1
    have e:(vs.toArray++Builtin.zeroCells zv.cells k++Builtin.zeroCells zv.cells (nc-(len+k))).toList=(vs++(Builtin.zeroCells zv.cells k).toList)++(Builtin.zeroCells zv.cells (nc-(len+k))).toList:=by simp
    rw[←Array.getElem?_toList,e,List.getElem?_append_left aD];exact b1)
   refine⟨_,_,g',aJ,le,sr,?_,fr⟩
   exact .aQ (r:=w.heap.size) (o:=0) (off:=0) hφ p6 (by rw[b6];simp)
  ·cases he
end
section
variable {P:Program} {w0 w:World} {g:Ctx} {H:aa}
theorem jn {params results:Array TypeId}(tS e:TypeId)(hp:params[0]?=some tS)(ht:P.underlying tS=some (.slice e))(size:Nat)(hz:(Go.sizeOf e).run P w=.ok size w)
  (a b:Addr) (la ca lb cb:Nat) (aF:a.block≠b.block) (tA tB:TypeId) (kA kB:Nat)
  (Es:w.shape? a.block=some (tA,kA)) (DE:w.shape? b.block=some (tB,kB)) (Et:kB≠0)
  (HN:w.frozen? a=false) (HO:w.frozen? { block:=a.block,off:=kA }=false) :
  (Extern.SlicesOverlaps.overlaps params results #[.slice (some a) la ca,.slice (some b) lb cb]).run P w=.ok (.bool false) w:=by
 have DH:(a.block != b.block)=true:=by simpa using aF
 have zb:(a.block==b.block)=false:=by simpa using aF
 conv=>lhs;arg 2;whnf
 simp only[hp]
 by_cases h0:la=0∨lb=0∨size=0
 ·simp[run_underlying ht,hz,h0]
 ·cases kB with
  | zero=>exact absurd rfl Et
  | succ kB =>
   simp[run_underlying ht,hz,h0,DH,zb,frozen,noView,viewAt,mayBeOne,stringish,shape,Sem.run,Es,DE,HN,HO]
theorem kG {params results:Array TypeId}(tS e:TypeId)(hp:params[0]?=some tS)(ht:P.underlying tS=some (.slice e))(size:Nat)(hz:(Go.sizeOf e).run P w=.ok size w)
  (a b:Addr) (la ca lb cb:Nat) (aF:a.block=b.block) (hd:la≠0→lb≠0→size≠0→¬(a.off<b.off+lb*size∧b.off<a.off+la*size)) :
  (Extern.SlicesOverlaps.overlaps params results #[.slice (some a) la ca,.slice (some b) lb cb]).run P w=.ok (.bool false) w:=by
 have DH:(a.block != b.block)=false:=by simpa using aF
 have zb:(a.block==b.block)=true:=by simpa using aF
 conv=>lhs;arg 2;whnf
 simp only[hp]
 by_cases h0:la=0∨lb=0∨size=0
 ·simp[run_underlying ht,hz,h0]
 ·have h1:=hd (fun h=>h0 (.inl h)) (fun h=>h0 (.inr (.inl h))) (fun h=>h0 (.inr (.inr h)))
  simp[run_underlying ht,hz,h0,DH,zb]
  intro aD
  have:¬b.off<a.off+la*size:=fun h=>h1 ⟨aD,h⟩
  omega
theorem fN {params results:Array TypeId}(tS e:TypeId)(hp:params[0]?=some tS)(ht:P.underlying tS=some (.slice e))(size:Nat)(hz:(Go.sizeOf e).run P w=.ok size w)
  (a b:Addr) (la ca lb cb:Nat) (h0:la=0∨size=0) :
  (Extern.SlicesOverlaps.overlaps params results #[.slice (some a) la ca,.slice (some b) lb cb]).run P w=.ok (.bool false) w:=by
 have h0:la=0∨lb=0∨size=0:=by rcases h0 with h|h;exact .inl h;exact .inr (.inr h)
 conv=>lhs;arg 2;whnf
 simp only[hp]
 simp[run_underlying ht,hz,h0]
theorem lG {r j:Nat}(h:(w.cell? ⟨r,j,none⟩).isSome=true):∃t k,w.shape? r=some (t,k)∧k≠0:=by
 unfold World.cell? at h
 unfold World.shape?
 cases hr:w.heap[r]? with
 | none=>simp[hr]at h
 | some x =>
  cases x<;>simp[hr]at h ⊢
  rename_i c t f
  exact⟨_,_,⟨rfl,rfl⟩,by omega⟩
theorem u6 {params results:Array TypeId}{tS e:TypeId}{ei:TypeInfo}{x y t:T}{vx vy:Value}{H':aa}(hp:params[0]?=some tS)(ht:P.underlying tS=some (.slice e))(hi:P.info? e=some ei)
  (h:SR w0 g H w) (hx:VR g w x vx) (hy:VR g w y vy) (he:qf H ei.size x y=some (t,H')):aG P w0 g H w (Extern.SlicesOverlaps.overlaps params results #[vx,vy]) t H':=by
 have hz:(Go.sizeOf e).run P w=.ok ei.size w:=by simp[sizeOf,au hi]
 unfold qf at he
 cases hx<;>(try (simp only[reduceCtorEq]at he;done))<;>(try (cases he;done))
 rename_i bv u7 lv n1 r' o' q' kz dR ij GW
 cases hy<;>(try (simp only[reduceCtorEq]at he;done))<;>(try (cases he;done))
 rename_i b off len n2 r o q c hφ hc hq
 cases DI:H[bv]? with
 | none=>simp[DI]at he
 | some zv =>
  cases hb:H[b]? with
  | none=>cases zv<;>simp[DI,hb]at he
  | some z =>
   cases zv<;>cases z<;>simp only[DI,hb]at he<;>(try (cases he;done))
   rename_i JK cs
   split at he
   ·rename_i kF
    obtain⟨aF,rfl,Eu,zd⟩:=kF
    simp only[Option.some.injEq,Prod.mk.injEq]at he
    obtain⟨rfl,rfl⟩:=he
    subst Eu
    obtain⟨a1,a2,a3⟩:=h.dy _ _ DI r' o' q' dR
    obtain⟨b1,b2,b3⟩:=h.dy _ _ hb r o q hφ
    by_cases hr:r'=r
    ·subst hr
     refine aG.same h (kG tS e hp ht _ hz _ _ _ _ _ _ rfl fun hl JL hs hh=>?_) (.bool _)
     obtain⟨h1,h2⟩:=hh
     simp only at h1 h2
     have m1:lv*ei.size≤kz*ei.size:=Nat.mul_le_mul_right _ ij
     have m2:len*ei.size≤c*ei.size:=Nat.mul_le_mul_right _ hc
     have p1:0<lv*ei.size:=Nat.mul_pos (by omega) (by omega)
     have p2:0<len*ei.size:=Nat.mul_pos (by omega) (by omega)
     have k1:=(a2 (max (o'+u7) (o+off)) (by omega) (by omega)).1
     have k2:=(b2 (max (o'+u7) (o+off)) (by omega) (by omega)).1
     rw[k1]at k2;cases k2;exact aF rfl
    ·by_cases HP:lv=0
     ·subst HP
      refine aG.same h ?_ (.bool _)
      exact fN tS e hp ht _ hz _ _ _ _ _ _ (.inl rfl)
     ·by_cases hs:ei.size=0
      ·refine aG.same h ?_ (.bool _)
       exact fN tS e hp ht _ hz _ _ _ _ _ _ (.inr hs)
      ·have m1:lv*ei.size≤kz*ei.size:=Nat.mul_le_mul_right _ ij
       have p1:0<lv*ei.size:=Nat.mul_pos (by omega) (by omega)
       have tY:=a2 (o'+u7) (by omega) (by omega)
       have HQ:=b2 o (Nat.le_refl _) (by omega)
       have gi:w0.heap.size≤r':=by
        rcases Nat.lt_or_ge r' w0.heap.size with aD|p6
        ·have:=h.pb r' (o'+u7) aD;rw[tY.1]at this;cases this
        ·exact p6
       obtain⟨tA,kA,Es,_⟩:=lG tY.2.2
       obtain⟨tB,kB,DE,Et⟩:=lG HQ.2.2
       exact aG.same h (jn tS e hp ht _ hz _ _ _ _ _ _ hr tA tB kA kB Es DE Et (tY.2.1 _) (tY.2.1 _)) (.bool _)
   ·cases he
end
end Go.Rmp
end

section
namespace Go.Rmp
open Go.ChangeMaps (setBlock)
section
variable {P:Program} {w0 w:World} {g:Ctx} {H:aa}
theorem SR.AX {w':World}(h:SR w0 g H w)(tr:Tr w w' b7 cL)(hz:w'.heap.size=w.heap.size):SR w0 g H w'∧Le g w g w':=by
 have le:Le g w g w':=Le.cz tr (fun _ _ h=>h) (fun _ _ h=>h) (fun _ _ _ h=>h) (fun _ _ hs=>hs.elim)
 refine⟨?_,le⟩
 exact h.step (fun _=>False) tr le (fun _ _ hs=>hs.elim) (fun _ hm=>hm.elim) (fun r o hr=>h.fresh r o (by omega)) h.gG h.cd (fun _ _ _=>rfl) (fun _ _ _ _=>⟨id,id⟩) (fun _ _ _ _=>rfl) (fun b x hx=>.inl ⟨id,hx⟩)
theorem ze {b:Nat}{vm:Value}{es:List (T×T)}(h:SR w0 g H w)(hm:VR g w (.map b) vm)(eZ:cu H (.map b)=some es) :
  ∃r o q,vm=.map (some r)∧g.φ b=some (r,o,q)∧g.κ r 0=.mut b∧b<H.length∧∃ah clock,w.heap[r]?=some (.map ah clock)∧bB g w es ah∧bW ah clock:=by
 cases hm with
 | @map _ r o q hφ =>
  simp only[cu]at eZ
  cases hb:H[b]? with
  | none=>simp[hb]at eZ
  | some y =>
   have fp:=(List.getElem?_eq_some_iff.1 hb).1
   cases y<;>simp[hb]at eZ
   ·subst eZ
    obtain⟨h1,ah,c,h2,h3,h4⟩:=h.dy b _ hb r o q hφ
    exact⟨r,o,q,rfl,hφ,h1,fp,ah,c,h2,h3,h4⟩
   ·subst eZ
    obtain⟨r2,o',q',dR,h1,ah,c,h2,h3,h4,_⟩:=h.dy b _ hb
    rw[hφ]at dR;cases dR
    exact⟨r,o,q,rfl,hφ,h1,fp,ah,c,h2,h3,h4⟩
theorem u9 {ty key elem:TypeId}{b:Nat}{vm:Value}{es:List (T×T)}(hu:P.underlying ty=some (.map key elem))(h:SR w0 g H w)(hm:VR g w (.map b) vm)(eZ:cu H (.map b)=some es) :
  aG P w0 g H w (Instr.range ty vm) (.ptr H.length 0) (H.set b (.ct es (List.range es.length) H.length none)++[.pZ b]):=by
 obtain⟨r,o,q,rfl,hφ,hk,fp,ah,c,h2,h3,h4⟩:=ze h hm eZ
 have HR:cw (.mapIter (some r) c #[] c)=true:=rfl
 have jG:=Tr.alloc w (.mapIter (some r) c #[] c)
 have aF:∀r j ow,g.κ r j=ow→ow≠.free→r≠w.heap.size:=by rintro r j ow e hn rfl;exact hn (e▸h.fresh _ j (Nat.le_refl _))
 have AU:=h.tX (b:=H.length) (Nat.le_refl _)
 have Ev:=aF r 0 _ hk (by simp)
 have le:Le g w ((g.row w.heap.size fun _=>.mut b).at H.length (w.heap.size,0,0)) (w.alloc (.mapIter (some r) c #[] c)):=Le.cz jG
  (fun b' x hx=>by simp only[Ctx.at,Ctx.row];split;rename_i e;subst e;rw[AU]at hx;simp at hx;exact hx)
  (fun r o hk=>by simp only[Ctx.row,Ctx.at];rw[if_neg (aF r o _ hk (by simp))];exact hk) (fun _ _ _ h=>h) (fun _ _ hs=>hs.elim)
 have aD:r<w.heap.size:=(Array.getElem?_eq_some_iff.1 h2).1
 refine⟨_,_,_,by simp[Instr.range,run_underlying hu,getObj,Sem.run,h2,newObj],le,?_,.ptr (r:=w.heap.size) (o:=0) (q:=0) (by simp[Ctx.at]),by simp,fun b' x a _ d=>?_⟩
 ·refine h.step (fun b'=>b'=b∨b'=H.length) jG le (fun _ _ hs=>hs.elim) (fun _ hm=>hm.elim) (fun r o hr=>?_) (fun b' x hx=>?_) (fun t e x hx=>by have:=h.cd t e x hx;simp;omega) (fun b' _ cY=>?_) (fun r j b' cY=>?_) (fun _ _ _ _=>rfl) (fun b' x hx=>?_)
  ·simp at hr
   simp only[Ctx.row,Ctx.at];rw[if_neg (by omega)];exact h.fresh r o (by omega)
  ·simp only[Ctx.at,Ctx.row]at hx
   split at hx
   ·rename_i e;subst e;simp
   ·have:=h.gG b' x hx;simp;omega
  ·simp only[Ctx.at,Ctx.row];rw[if_neg (fun e=>cY (.inr e))]
  ·constructor<;>intro e<;>simp only[Ctx.row,Ctx.at]<;>rw[if_neg (aF r j _ e (by simp))]<;>exact e
  ·by_cases e:b'=H.length
   ·subst e
    rw[List.getElem?_append_right (by simp)]at hx
    simp at hx;subst hx
    exact .inr trivial
   ·have cY:b'<H.length:=by
     have:=(List.getElem?_eq_some_iff.1 hx).1
     simp at this;omega
    rw[List.getElem?_append_left (by simpa using cY)]at hx
    rcases bj fp hx with⟨rfl,rfl⟩|⟨hn,et⟩
    ·refine .inr ⟨r,o,q,le.φ _ _ hφ,by simp only[Ctx.row,Ctx.at];rw[if_neg Ev];exact hk,ah,c,?_,h3.mono le,h4,w.heap.size,0,#[],by simp[Ctx.at],by simp[Ctx.row,Ctx.at],World.alloc_heap_new w _,List.nodup_range,fun i=>?_,fun c hc=>by cases hc⟩
     ·show(w.heap.push _)[r]?=_
      rw[Array.getElem?_push,if_neg (by omega)];exact h2
     ·rw[List.mem_range,←h3.1]
      exact⟨fun hi=>⟨ah[i],Array.getElem?_eq_getElem hi,by simp⟩,fun ⟨m,hm,_⟩=>(Array.getElem?_eq_some_iff.1 hm).1⟩
    ·exact .inl ⟨fun hh=>hh.elim hn e,et⟩
 ·have hl:=(List.getElem?_eq_some_iff.1 a).1
  refine⟨?_,by simp only[Ctx.at,Ctx.row];rw[if_neg (by omega)];exact d⟩
  rw[List.getElem?_append_left (by simpa using hl)]
  exact bF a (by rintro rfl;rw[hφ]at d;cases d)
theorem vd {ty:TypeId}{b bi:Nat}{v:Value}{es:List (T×T)}{ix:List Nat}{cur:Option Nat}(h:SR w0 g H w)(hx:VR g w (.ptr bi 0) v)(hb:H[b]?=some (.ct es ix bi cur)) :
  ∃t H',fE H b bi es ix t H'∧aG P w0 g H w (Instr.next v false ty) t H':=by
 have fp:b<H.length:=(List.getElem?_eq_some_iff.1 hb).1
 obtain⟨r,o,q,hφ,h1,ah,c,h2,h3,h4,ri,q',seen,h5,h6,h7,h8,h9,Ew⟩:=h.dy b _ hb
 cases hx with
 | @ptr _ _ r2 o2 q2 n8 =>
  rw[h5]at n8;cases n8
  have Af:∀y,Fr g H g (H.set b y):=fun y=>⟨by simp,fun b' x a _ d=>⟨bF a (by rintro rfl;rw[hφ]at d;cases d),d⟩⟩
  rcases run_next_at (P:=P) w ty ri r c c seen ah c h7 h2 h4.1 (Nat.le_refl _)with⟨hz,aJ⟩|⟨e,he,w1,DJ,aJ⟩
  ·have qu:ix=[]:=by
    refine List.eq_nil_iff_forall_not_mem.2 fun i hi=>?_
    obtain⟨m,hm,hn⟩:=(h9 i).1 hi
    have:m∈leftOf ah seen:=by
     simp only[leftOf,Array.mem_filter]
     exact⟨Array.mem_of_getElem? hm,by simpa using hn⟩
    rw[Array.eq_empty_of_size_eq_zero hz]at this
    simp at this
   refine⟨_,_,.inl ⟨qu,rfl,rfl⟩,.tuple #[.bool false],w,g,by simpa using aJ,.refl _ _,?_,.bo rfl (fun i t v a b=>?_),Af _⟩
   ·refine h.step (fun b'=>b'=b) (Tr.refl w) (.refl _ _) (fun _ _ hs=>hs.elim) (fun _ hm=>hm.elim) h.fresh (fun b' x hx=>by rw[List.length_set];exact h.gG b' x hx) (fun t e x hx=>by rw[List.length_set];exact h.cd t e x hx) (fun _ _ _=>rfl) (fun _ _ _ _=>⟨id,id⟩) (fun _ _ _ _=>rfl) (fun b' x hx=>?_)
    rcases bj fp hx with⟨rfl,rfl⟩|⟨hn,et⟩
    ·refine .inr fun r' o' q' dR=>?_
     rw[hφ]at dR;cases dR
     exact⟨h1,ah,c,h2,h3,h4⟩
    ·exact .inl ⟨hn,et⟩
   ·cases i with
    | zero=>simp at a b;subst a;subst b;exact .bool _
    | succ i=>simp at a
  ·have AY:e∈ah∧e.born∉seen:=by
    have:e∈leftOf ah seen:=by simpa using he
    simp only[leftOf,Array.mem_filter]at this
    exact⟨this.1,by simpa using this.2⟩
   obtain⟨i,hi,gR⟩:=Array.getElem_of_mem AY.1
   have AZ:ah[i]?=some e:=by rw[Array.getElem?_eq_getElem hi,gR]
   have gm:i<es.length:=by rw[←h3.1];exact hi
   have qu:i∈ix:=(h9 i).2 ⟨e,AZ,AY.2⟩
   have bS:=h3.2 i es[i] e (List.getElem?_eq_getElem gm) AZ
   have HS:Tr w w1 b7 cL:=by rcases DJ with rfl|rfl;exact Tr.refl _;exact Tr.drew _
   obtain⟨zf,cP⟩:=h.AX HS (by rcases DJ with rfl|rfl<;>rfl)
   have DK:w1.heap[ri]?=some (.mapIter (some r) c seen c):=by rcases DJ with rfl|rfl<;>exact h7
   have GY:w1.heap[r]?=some (.map ah c):=by rcases DJ with rfl|rfl<;>exact h2
   have tr:Tr w1 (World.aI w1 ri (.mapIter (some r) c (seen.push e.born) c)) b7 (fun r'=>r'=ri):=Tr.nb w1 ri rfl rfl DK
   have le:Le g w1 g (World.aI w1 ri (.mapIter (some r) c (seen.push e.born) c)):=Le.cz tr (fun _ _ h=>h) (fun _ _ h=>h) (fun _ _ _ h=>h) (fun _ _ hs=>hs.elim)
   have HT:r≠ri:=by rintro rfl;rw[GY]at DK;cases DK
   refine⟨_,_,.inr ⟨i,es[i],qu,List.getElem?_eq_getElem gm,rfl,rfl⟩,.tuple #[.bool true,e.key,e.val],_,g,by simpa[setBlock,World.aI]using aJ,cP.trans le,?_,.bo rfl (fun i t v a b=>?_),Af _⟩
   ·show SR w0 g _ (World.aI w1 ri (.mapIter (some r) c (seen.push e.born) c))
    refine zf.step (fun b'=>b'=b) tr le (fun _ _ hs=>hs.elim) (fun r' hm=>⟨b,by rw[hm];exact h6,rfl⟩) (fun r' j e7=>zf.fresh r' j (by simpa[World.aI]using e7)) (fun b' x hx=>by rw[List.length_set];exact h.gG b' x hx) (fun t e x hx=>by rw[List.length_set];exact h.cd t e x hx) (fun _ _ _=>rfl) (fun _ _ _ _=>⟨id,id⟩) (fun _ _ _ _=>rfl) (fun b' x hx=>?_)
    rcases bj fp hx with⟨rfl,rfl⟩|⟨hn,et⟩
    ·refine .inr ⟨r,o,q,hφ,h1,ah,c,?_,h3.mono (cP.trans le),h4,ri,q',seen.push e.born,h5,h6,iu _ _ (Array.getElem?_eq_some_iff.1 DK).1,h8.erase _,fun j=>?_,fun c' ij=>?_⟩
     ·rw[ir _ _ HT];exact GY
     ·rw[h8.mem_erase_iff,h9 j]
      constructor
      ·rintro⟨Ey,m,hm,hn⟩
       refine⟨m,hm,fun jl=>?_⟩
       rcases Array.mem_push.1 jl with jl|jl
       ·exact hn jl
       ·apply Ey
        have hj:=(Array.getElem?_eq_some_iff.1 hm).1
        have jJ:=h4.2
        have e1:(ah.toList.map (·.born))[j]?=some m.born:=by simp[hm]
        have e2:(ah.toList.map (·.born))[i]?=some m.born:=by simp[AZ,jl]
        have HU:j<(ah.toList.map (·.born)).length:=by simpa using hj
        exact(List.getElem?_inj HU jJ).1 (e1.trans e2.symm)
      ·rintro⟨m,hm,hn⟩
       refine⟨fun Ey=>?_,m,hm,fun jl=>hn (Array.mem_push.2 (.inl jl))⟩
       subst Ey
       rw[AZ]at hm;cases hm
       exact hn (Array.mem_push.2 (.inr rfl))
     ·cases ij
      exact⟨e,AZ,by simp⟩
    ·exact .inl ⟨hn,et⟩
   ·have yW:=bS.1.mono (cP.trans le)
    have yX:=bS.2.mono (cP.trans le)
    match i,a,b with
    | 0,a,b=>simp at a b;subst a;subst b;exact .bool _
    | 1,a,b=>simp at a b;subst a;subst b;exact yW
    | 2,a,b=>simp at a b;subst a;subst b;exact yX
    | i+3,a,b=>simp at a
theorem ve {b bi c:Nat}{v:Value}{es:List (T×T)}{ix:List Nat}{e:T×T}(h:SR w0 g H w)(hx:VR g w (.ptr bi 0) v)(hb:H[b]?=some (.ct es ix bi (some c)))(he:es[c]?=some e) :
  aG P w0 g H w (Instr.entry v) (.bo [e.1,e.2]) H:=by
 obtain⟨r,o,q,hφ,h1,ah,cl,h2,h3,h4,ri,q',seen,h5,h6,h7,h8,h9,Ew⟩:=h.dy b _ hb
 cases hx with
 | @ptr _ _ r2 o2 q2 n8 =>
  rw[h5]at n8;cases n8
  obtain⟨m,hm,hs⟩:=Ew c rfl
  have bS:=h3.2 c e m he hm
  have Ez:m∈ah.toList:=by have:=Array.mem_of_getElem? hm;simpa using this
  have hf:ah.find? (·.born==m.born)=some m:=by rw[←Array.find?_toList];exact find_born m ah.toList h4.2 Ez
  refine aG.same h (v:=.tuple #[m.key,m.val]) ?_ (.bo rfl fun i t v a b=>?_)
  ·simp[Instr.entry,getObj,Sem.run,h7,h2,hs,hf]
  ·match i,a,b with
   | 0,a,b=>simp at a b;subst a;subst b;exact bS.1
   | 1,a,b=>simp at a b;subst a;subst b;exact bS.2
   | i+2,a,b=>simp at a
theorem vg {ty rt elem:TypeId}{ei:TypeInfo}{zv:Value}{z:List T}{v:Value}{b off len:Nat}{cs:List T}(hu:P.underlying ty=some (.slice elem))(hi:P.info? elem=some ei)(hz:ei.zero=some zv)(qI:bP zv.cells.toList=some z)
  (h:SR w0 g H w) (hx:VR g w (.aQ b off len ei.size) v) (hb:H[b]?=some (.cells cs)) (lF:z.length=ei.size) (hle:off+len*ei.size≤cs.length) :
  aG P w0 g H w (Builtin.clear_ #[ty] rt #[v]) (.bo []) (H.set b (.cells (cs.take off++(List.replicate len z).flatten++cs.drop (off+len*ei.size)))):=by
 cases hx with
 | @aQ _ _ _ _ r o q cap hφ hc hq =>
  obtain⟨h1,h2,h3⟩:=h.dy b _ hb r o q hφ
  obtain⟨po,p7⟩:=br (g:=g) (w:=w) _ _ qI
  have bS:=eG po lF len
  have GZ:=dE p7 len
  have hlen:(List.replicate len z).flatten.length=len*ei.size:=by simp[List.length_flatten,lF]
  have uS:zv.cells.size=ei.size:=by have:=po.1;simp at this;omega
  have zg:ay g w (List.replicate len z).flatten (Builtin.zeroCells zv.cells len).toList:=by
   simpa[Builtin.zeroCells,uS]using bS
  obtain⟨le,sr⟩:=h.store hb hφ (by rw[hlen];exact hle) zg GZ
  rw[hlen]at sr
  refine⟨.tuple #[],_,g,?_,le,sr,.bo rfl (by simp),by simp,fun b' y' a _ d=>⟨bF a (by rintro rfl;rw[hφ]at d;cases d),d⟩⟩
  have hl:=zg.1
  rw[hlen]at hl
  cases len with
  | zero =>
   have e:(Builtin.zeroCells zv.cells 0).toList=[]:=List.eq_nil_of_length_eq_zero (by rw[←hl];simp)
   rw[e]
   simp[Builtin.clear_,run_underlying hu,World.setCells]
  | succ len =>
   have aJ:=run_storeCells_cells (P:=P) r (o+off) (Builtin.zeroCells zv.cells (len+1)).toList 0 w (fun j hj=>(h2 _ (by omega) (by omega)).2.2) (fun j hj=>(h2 (o+off+0+j) (by omega) (by omega)).2.1 _) (zg.dr GZ)
   have HV:(zeroValue elem).run P w=.ok zv w:=by simp[zeroValue,au hi,hz]
   simp only[Nat.add_zero]at aJ
   simp[Builtin.clear_,run_underlying hu,HV,aJ]
theorem SR.shrink {b:Nat}{cs:List T}(k:Nat)(h:SR w0 g H w)(hb:H[b]?=some (.cells cs))(hφ:∃x,g.φ b=some x):SR w0 g (H.set b (.cells (cs.take k))) w∧Fr g H g (H.set b (.cells (cs.take k))):=by
 have fp:b<H.length:=(List.getElem?_eq_some_iff.1 hb).1
 obtain⟨y,hy⟩:=hφ
 refine⟨?_,by simp,fun b' x a _ d=>⟨bF a (by rintro rfl;rw[hy]at d;cases d),d⟩⟩
 refine h.step (fun b'=>b'=b) (Tr.refl w) (.refl _ _) (fun _ _ hs=>hs.elim) (fun _ hm=>hm.elim) h.fresh (fun b' x hx=>by rw[List.length_set];exact h.gG b' x hx) (fun t e x hx=>by rw[List.length_set];exact h.cd t e x hx) (fun _ _ _=>rfl) (fun _ _ _ _=>⟨id,id⟩) (fun _ _ _ _=>rfl) (fun b' x hx=>?_)
 rcases bj fp hx with⟨rfl,rfl⟩|⟨hn,et⟩
 ·refine .inr fun r o q hφ=>?_
  obtain⟨h1,h2,h3⟩:=h.dy b' _ hb r o q hφ
  refine⟨by simp;omega,h2,fun i t hi=>h3 i t ?_⟩
  rw[List.getElem?_take]at hi
  split at hi
  ·exact hi
  ·cases hi
 ·exact .inl ⟨hn,et⟩
end
end Go.Rmp
end

section
namespace Go.Rmp
def aj:Operand→Option X
 | .tmp t=>some (.r t)
 | .const v=>(fm v).map .c
 | .func f=>some (.c (.fn f []))
 | .global _=>none
def cg:List Operand→Option (List X)
 | []=>some []
 | x :: xs=>match aj x,cg xs with
  | some y,some ys=>some (y :: ys)
  | _,_=>none
def dV:Option Operand→Option (Option X)
 | none=>some none
 | some x=>(aj x).map some
def ft:List (Nat×Operand)→Option (List (Nat×X))
 | []=>some []
 | (i,x) :: xs=>match aj x,ft xs with
  | some y,some ys=>some ((i,y) :: ys)
  | _,_=>none
def G0:TypeDesc→Option kW
 | .int _=>some .int
 | .string=>some .str
 | .bool=>some .bool
 | _=>none
def kinds (P:Program):List Field→Option (List kW)
 | []=>some []
 | f :: fs=>match (P.underlying f.type).bind G0,kinds P fs with
  | some k,some ks=>some (k :: ks)
  | _,_=>none
def kH (P:Program)(ty:TypeId):Option KT :=
 match P.underlying ty with
 | some (.struct fs)=>(kinds P fs.toList).map .st
 | some d=>(G0 d).map .sc
 | none=>none
def zeroOf (P:Program)(ty:TypeId):Option (List T) :=
 match P.info? ty with
 | some i=>match i.zero with
  | some zv=>bP zv.cells.toList
  | none=>none
 | none=>none
def isEq:BinOp→Option Bool
 | .eql=>some false
 | .neq=>some true
 | _=>none
def cls:TypeDesc→Option ue
 | .pointer _=>some .ptr
 | .slice _=>some .slice
 | .map _ _=>some .map
 | .func _ _ _=>some .func
 | _=>none
def qO (P:Program)(op:BinOp)(ty:TypeId)(x y:X):Option Bo :=
 match P.underlying ty with
 | some (.int _)|some .string=>some (.bin op x y)
 | some .bool=>(isEq op).map fun n=>.beq n x y
 | some (.struct fs)=>match isEq op,kinds P fs.toList with
  | some n,some ks=>if flat P fs.toList 0 ks&&!P.stoodInHeld ty&&!P.eqGuardType P.depth ty then some (.eqs n ks x y)else none
  | _,_=>none
 | some d=>match isEq op,cls d with
  | some n,some c=>some (.eX n c x y)
  | _,_=>none
 | none=>none
def jK (P:Program)(ty:TypeId)(x:X):Option Bo :=
 match P.underlying ty,P.info? ty with
 | some d,some i=>some (.ld (if bC d then i.size else 1) (bC d) x)
 | _,_=>none
def fu (P:Program)(ty:TypeId)(x:X)(f:Nat)(ad:Bool):Option Bo :=
 match P.underlying ty with
 | some (.struct fs)=>match fs[f]? with
  | some f=>match P.underlying f.type,P.info? f.type with
   | some d,some i=>if ad then(if i.size=0 then none else some (.jy f.offset x))else some (.Du f.offset i.size (bC d) x)
   | _,_=>none
  | none=>none
 | _=>none
def nq (P:Program)(ty:TypeId)(x i:X)(ad:Bool):Option Bo :=
 match P.underlying ty,ad with
 | some (.slice e),true=>(P.info? e).map fun ei=>.mJ ei.size x i
 | some (.array n e),true=>(P.info? e).map fun ei=>.wE n ei.size x i
 | some .string,false=>some (.Ar x i)
 | some (.array n e),false=>match P.info? e,P.underlying e with
  | some ei,some d=>some (.Dv n ei.size (bC d) x i)
  | _,_=>none
 | _,_=>none
def gn (P:Program)(ty:TypeId)(x:X)(lo hi mx:Option X):Option Bo :=
 match P.underlying ty with
 | some .string=>if mx.isSome then none else some (.yB x lo hi)
 | some (.slice e)=>match P.info? e with
  | some ei=>if mx.isSome&&hi.isNone then none else some (.fV ei.size x lo hi mx)
  | none=>none
 | _=>none
def pt (P:Program)(ty:TypeId)(x:X)(lo hi mx:Option X):Option Bo :=
 match P.underlying ty,lo,hi,mx with
 | some (.slice e),none,some hi,none=>(P.info? e).map fun ei=>.Dx ei.size x hi
 | _,_,_,_=>none
def jL (P:Program)(src dst:TypeId)(x:X):Option Bo :=
 match P.underlying src,P.underlying dst with
 | some (.int _),some (.int k)=>some (.eg k x)
 | some .string,some .string=>none
 | some .string,some (.slice e)=>match P.underlying e with
  | some (.int .u8)=>some (.yA false x)
  | _=>none
 | some (.slice e),some .string=>match P.underlying e with
  | some (.int .u8)=>some (.p9 x)
  | _=>none
 | some (.slice _),some (.slice e)=>if src==dst then(match P.underlying e with
  | some (.int .u8)=>some (.yA true x)
  | _=>none)else none
 | _,_=>none
def qP:TypeDesc→Bool
 | .int _=>false
 | _=>true
def eP (P:Program)(mu:Bool)(dt:List TypeId)(aq:List X):Option Bo :=
 match dt,aq with
 | [sT,xT],[x,y]=>match P.underlying sT,P.underlying xT with
  | some (.slice e),some d=>match P.info? e with
   | some ei=>match ei.zero with
    | some zv=>if qP d&&zv.cells.size==ei.size&&ei.bytes != 0 then some (.app ei.size ei.bytes mu x y)else none
    | none=>none
   | none=>none
  | _,_=>none
 | _,_=>none
def lH (P:Program)(dt:List TypeId)(aq:List X):Option Bo :=
 match dt,aq with
 | [sT,xT],[x,k]=>match P.underlying sT,P.underlying xT with
  | some (.slice e),some (.int _)=>match P.info? e,zeroOf P e with
   | some ei,some z=>if ei.bytes != 0 then some (.Au ei.size ei.bytes z x k)else none
   | _,_=>none
  | _,_=>none
 | _,_=>none
def dF (P:Program)(mu:Bool)(b:Builtin)(dt:List TypeId)(aq:List X):Option Bo :=
 match b,dt,aq with
 | .append,dt,aq=>match lH P dt aq with
  | some b=>some b
  | none=>eP P mu dt aq
 | .cap,[t],[x]=>match P.underlying t with
  | some (.slice _)=>some (.cap x)
  | _=>none
 | .copy,[dT,_],[x,y]=>match P.underlying dT with
  | some (.slice e)=>(P.info? e).map fun ei=>.uf ei.size x y
  | _=>none
 | .len,[t],[x]=>match P.underlying t with
  | some .string=>some (.len .str x)
  | some (.slice _)=>some (.len .sl x)
  | some (.map _ _)=>some (.len .map x)
  | _=>none
 | .clear,[t],[x]=>match P.underlying t with
  | some (.slice e)=>match P.info? e,zeroOf P e with
   | some ei,some z=>some (.As ei.size z x)
   | _,_=>none
  | _=>none
 | .min,_,[x,y]=>some (.mn x y)
 | .max,_,[x,y]=>some (.mx x y)
 | .delete,[t,_],[m,k]=>match P.underlying t with
  | some (.map key _)=>match kH P key with
   | some kt=>if fo P key kt then some (.del kt m k)else none
   | none=>none
  | _=>none
 | _,_,_=>none
def nr (P:Program)(ty:TypeId)(m k:X):Option (Nat×KT×T) :=
 match P.underlying ty with
 | some (.map key e)=>match kH P key,P.info? e with
  | some kt,some ei=>match ei.zero with
   | some zv=>match fm zv with
    | some z=>if fo P key kt then some (e,kt,z)else none
    | none=>none
   | none=>none
  | _,_=>none
 | _=>none
def lI (P:Program)(fs:List Field):Bool:=fs.all fun f=>(P.info? f.type).isSome
def gp (P:Program)(ty:TypeId)(ps:List (Nat×X)):Option Bo :=
 match P.underlying ty,zeroOf P ty with
 | some (.struct fs),some z=>if lI P fs.toList&&ps.all (fun p=>p.1<fs.size)then
   some (.build z (ps.map fun p=>((((placesOf P fs.toList)[p.1]?).getD (0,0)).1,(((placesOf P fs.toList)[p.1]?).getD (0,0)).2,p.2)))else none
 | _,_=>none
def pw (P:Program)(mu:Bool)(ty:TypeId)(n:Nat)(ps:List (Nat×X)):Option Bo :=
 match P.underlying ty with
 | some (.slice e)=>match P.info? e,zeroOf P e with
  | some ei,some z=>if z.length==ei.size&&decide (n*ei.size≤16777216)then some (if mu then .z8 n z ps else .kr n z ps)else none
  | _,_=>none
 | _=>none
def px (P:Program)(mu:Bool)(ty:TypeId)(l c:X):Option Bo :=
 match P.underlying ty with
 | some (.slice e)=>match P.info? e,zeroOf P e with
  | some ei,some z=>if z.length==ei.size&&ei.size != 0 then some (.Dw mu ei.bytes z l c)else none
  | _,_=>none
 | _=>none
def wN (n:String):Bool:=(Extern.allGenericRows.lookup n).isNone&&(Extern.allTypedRows.lookup n).isNone&&(Extern.allRows.lookup n).isNone
def n9 (P:Program)(f:FuncId):Option Nat :=
 match P.funcs[f]? with
 | some fn=>match fn.params[0]? with
  | some t=>match P.underlying t with
   | some (.slice e)=>match P.info? e with
    | some ei=>if fn.name != "runtime.NumGoroutine"&&fn.body.isNone&&(Extern.findNext fn).isNone&&fn.origin=="slices.overlaps"&&wN fn.name then some ei.size else none
    | none=>none
   | _=>none
  | none=>none
 | none=>none
def aB (P:Program)(mu:Bool):Op→Option Bo
 | .move x | .assign x=>(aj x).map .ak
 | .pick c a b=>match aj c,aj a,aj b with
  | some c,some a,some b=>some (.pick c a b)
  | _,_,_=>none
 | .binOp op ty x y _=>match aj x,aj y with
  | some x,some y=>qO P op ty x y
  | _,_=>none
 | .unOp op _ x=>(aj x).map (.un op)
 | .convert s d x=>(aj x).bind (jL P s d)
 | .alloc ty=>(zeroOf P ty).map .alloc
 | .box _ x=>(aj x).map .box
 | .build ty ps=>(ft ps.toList).bind (gp P ty)
 | .buildSlice ty n ps=>(ft ps.toList).bind (pw P mu ty n)
 | .load ty x=>(aj x).bind (jK P ty)
 | .store ty a v=>match P.info? ty,aj a,aj v with
  | some i,some a,some v=>some (.st i.size a v)
  | _,_,_=>none
 | .fieldAddr ty x f=>(aj x).bind fun x=>fu P ty x f true
 | .field ty x f=>(aj x).bind fun x=>fu P ty x f false
 | .indexAddr ty x i=>match aj x,aj i with
  | some x,some i=>nq P ty x i true
  | _,_=>none
 | .index ty x i=>match aj x,aj i with
  | some x,some i=>nq P ty x i false
  | _,_=>none
 | .slice ty x lo hi mx=>match aj x,dV lo,dV hi,dV mx with
  | some x,some lo,some hi,some mx=>if mu then pt P ty x lo hi mx else gn P ty x lo hi mx
  | _,_,_,_=>none
 | .makeMap _ none=>some .nV
 | .lookup ty m k ok=>match aj m,aj k with
  | some m,some k=>(nr P ty m k).map fun (_,kt,z)=>.mK kt z ok m k
  | _,_=>none
 | .mapUpdate ty m k v | .insert ty m k v=>match aj m,aj k,aj v with
  | some m,some k,some v=>(nr P ty m k).map fun (_,kt,_)=>.tR kt m k v
  | _,_,_=>none
 | .makeSlice ty l c=>match aj l,aj c with
  | some l,some c=>px P mu ty l c
  | _,_=>none
 | .makeFunc (.func f) first ew=>if first.size=0 then(cg ew.toList).map (.yC f)else none
 | .extract x i=>(aj x).map (.ext i)
 | .nilCheck x=>(aj x).map .hP
 | .range ty m=>match P.underlying ty with
  | some (.map _ _)=>(aj m).map .z6
  | _=>none
 | .next it false=>(aj it).map .hU
 | .entry it=>(aj it).map .z7
 | .call { callee:=.value (.func f),args,.. }=>match n9 P f,cg args.toList with
  | some n,some [x,y]=>some (.z1 n x y)
  | _,_=>none
 | .call { callee:=.builtin b,args,argTypes }=>(cg args.toList).bind (dF P mu b argTypes.toList)
 | _=>none
def tZ (P:Program)(w0:World)(g:Ctx)(H:aa)(w:World)(s:Sem Next)(t:T)(H':aa):Prop :=
 ∃nx v w' g',s.run P w=.ok nx w'∧(nx=.value v∨(nx=.skip∧v=undef))∧Le g w g' w'∧SR w0 g' H' w'∧VR g' w' t v∧Fr g H g' H'
theorem aG.fv {P:Program}{w0 w:World}{g:Ctx}{H H':aa}{s:Sem Value}{t:T}(h:aG P w0 g H w s t H'):tZ P w0 g H w (do pure (.value (←s))) t H':=by
 obtain⟨v,w',g',h1,h2⟩:=h
 exact⟨.value v,v,w',g',by simp[h1],.inl rfl,h2⟩
theorem da {g:Ctx}{w:World}:VR g w aw undef:=.bo rfl (by simp)
section
variable {P:Program} {w0 w:World} {g:Ctx} {H:aa} {R:ai} {ρ:Operand→Value}
def RV (g:Ctx)(w:World)(R:ai)(ρ:Operand→Value)(xs:List Operand):Prop:=∀x∈xs,∀y,aj x=some y→VR g w (y.ev R) (ρ x)
theorem cj:∀(xs:List Operand) (ys:List X),cg xs=some ys→RV g w R ρ xs→ay g w (ys.map (X.ev R)) (xs.map ρ)
 | [],ys,h,_=>by simp[cg]at h;subst h;exact ay.nil
 | x :: xs,ys,h,hv=>by
  simp only[cg]at h
  cases h1:aj x with
  | none=>simp[h1]at h
  | some y =>
   cases h2:cg xs with
   | none=>simp[h1,h2]at h
   | some HW =>
    simp[h1,h2]at h;subst h
    exact ay.cons (hv x (by simp) y h1) (cj xs HW h2 (fun z hz=>hv z (by simp[hz])))
theorem gq:∀(ps:List (Nat×Operand)) (qs:List (Nat×X)),ft ps=some qs→RV g w R ρ (ps.map (·.2))→PV g w R qs (ps.map fun p=>(p.1,ρ p.2))
 | [],qs,h,_=>by simp[ft]at h;subst h;exact .nil
 | (i,x) :: ps,qs,h,hv=>by
  simp only[ft]at h
  cases h1:aj x with
  | none=>simp[h1]at h
  | some y =>
   cases h2:ft ps with
   | none=>simp[h1,h2]at h
   | some HX =>
    simp[h1,h2]at h;subst h
    exact .cons (hv x (by simp) y h1) (gq ps HX h2 (fun z hz=>hv z (by simp at hz ⊢;exact .inr hz)))
end
end Go.Rmp
end
