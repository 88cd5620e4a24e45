/- Part of a proof of a law of this seat: the machine of plain values, its simulation, and the contracts of the functions that the law reaches. Conditions: none beyond the given row. -/
import Derived.OrdersIn
import Derived.RangeFuncIn
import Derived.Laws.Sem
import Derived.Laws.World
import Derived.Laws.IdiomCopy
import Derived.ChangeKeysEq
import Derived.Laws.StructEq
import Derived.Laws.BytesString
import Derived.IntWalk
import Derived.Lib.AppendZerosOnto
import Derived.Lib.Overlaps
import Derived.Maps.RangeRun
import Derived.RangeFuncRecord
open Int renaming reduceLT → q3, reduceLE → q4, reduceBEq → q5, reduceBNe → q6, reduceEq → q7
open Nat renaming reduceAdd → q8, reduceLeDiff → q9, reduceLT → j1, reduceEqDiff → j2
set_option linter.unusedSimpArgs false
set_option linter.unusedVariables false
set_option linter.unnecessarySimpa false
set_option maxHeartbeats 4000000
section
namespace Go.Rmp
inductive SK where
 | nil|arg|full|own (t e:Nat)
 deriving DecidableEq
inductive T where
 | int (k:IntKind) (n:Int)
 | bool (b:Bool)
 | str (s:ByteArray)
 | bE
 | ptr (b off:Nat)
 | cq (cs:List T)
 | bL
 | map (b:Nat)
 | sl (k:SK) (es:List (List T))
 | aO (b off len n:Nat)
 | bS (b off len n c:Nat)
 | dz
 | fn (f:Nat) (ew:List T)
 | gL (b:Nat)
 | cE
 | agg (cs:List T)
 | bl (vs:List T)
abbrev ah:=Nat→T
def ar:T:=.bl []
def T.one:T→Bool
 | .agg _ | .bl _=>false
 | _=>true
def T.cells?:T→Option (List T)
 | .agg cs=>some cs
 | .bl _=>none
 | v=>some [v]
def T.erase:T→T
 | .sl _ es=>.sl .arg es
 | v=>v
inductive X where
 | r (t:Nat)
 | c (v:T)
def X.ev (R:ah):X→T
 | .r t=>R t
 | .c v=>v
def gg (R:ah)(d:Nat)(v:T):ah:=fun t=>if t=d then v else R t
def aw (R:ah)(d:Option Nat)(v:T):ah:=match d with|some d=>gg R d v|none=>R
inductive uc where|ptr|slice|map|func
 deriving DecidableEq
inductive Lc where|str|sl|map
inductive kZ where|int|str|bool
 deriving DecidableEq
inductive KT where
 | sc (t:kZ)
 | st (l:List kZ)
def T.mR:kZ→T→Bool
 | .int,.int _ _ | .str,.str _ | .bool,.bool _=>true
 | _,_=>false
def hasAll:List kZ→List T→Bool
 | [],[]=>true
 | t :: ts,v :: vs=>v.mR t&&hasAll ts vs
 | _,_=>false
def T.dt:KT→T→Bool
 | .sc t,v=>v.mR t
 | .st l,.agg cs=>hasAll l cs
 | _,_=>false
inductive Bo where
 | aP (x:X)
 | pick (c a b:X)
 | bin (op:BinOp) (x y:X)
 | gV (neg:Bool) (c:uc) (x y:X)
 | beq (neg:Bool) (x y:X)
 | eqs (neg:Bool) (ks:List kZ) (x y:X)
 | un (op:UnOp) (x:X)
 | pT (k:IntKind) (x:X)
 | p3 (x:X)
 /-- a text's bytes;or (m) a literal's bytes,told to be a text's -/
 | wo (m:Bool) (x:X)
 | len (k:Lc) (x:X)
 | alloc (z:List T)
 | box (x:X)
 | build (z:List T) (ps:List (Nat×Nat×X))
 | oX (n:Nat) (z:List T) (ps:List (Nat×X))
 | ld (n:Nat) (ag:Bool) (x:X)
 | st (n:Nat) (a v:X)
 | pU (off:Nat) (x:X)
 | BF (off n:Nat) (ag:Bool) (x:X)
 | nT (st:Nat) (x i:X)
 | zu (n st:Nat) (x i:X)
 | zw (x i:X)
 | BG (n st:Nat) (ag:Bool) (x i:X)
 | xr (x:X) (lo hi:Option X)
 | tN (st:Nat) (x:X) (lo hi mx:Option X)
 | mS
 | p4 (kt:KT) (z:T) (ok:Bool) (m k:X)
 | wq (kt:KT) (m k v:X)
 | del (kt:KT) (m k:X)
 | app (st bytes:Nat) (mu:Bool) (x y:X)
 | BH (mu:Bool) (bytes:Nat) (z:List T) (l c:X)
 | yW (f:Nat) (ew:List X)
 | ext (i:Nat) (x:X)
 | mn (x y:X)
 | mx (x y:X)
 | mT (x:X)
 | cap (x:X)
 | BI (n:Nat) (x y:X)
 | zx (n:Nat) (x y:X)
 | yX (x:X)
 | gW (x:X)
 | yY (x:X)
 | zy (n:Nat) (z:List T) (x:X)
 | BJ (n bytes:Nat) (z:List T) (x k:X)
 | yZ (n:Nat) (z:List T) (ps:List (Nat×X))
 | BK (n:Nat) (x hi:X)
abbrev Gd:=Option (Nat×Bool)
structure Rd where
 d:Nat
 op:Bo
 g:Gd
inductive tO where
 | b (op:Bo)
 | call (f:Nat) (as:List X)
 | aQ (f:X) (as:List X)
structure O where
 d:Option Nat
 op:tO
 g:Gd
 gX:List Rd
inductive C where
 | skip
 | ops (l:List O)
 | seq (a b:C)
 | cond (x:X) (a b:C)
 | block (id:Nat) (a:C)
 | loop (a:C)
 | exit (id:Nat)
 | ret
 | bd (n:Nat) (x:X) (ps:List Nat) (bc body:C)
inductive Ex where
 | normal|exit (id:Nat)|ret
inductive p5 where
 | ready|busy|done
 deriving DecidableEq
inductive B where
 | cells (cs:List T)
 | map (es:List (T×T))
 | tok (e:Nat)
 | loop (st:p5) (br:Option Ex) (n:Nat) (R:Nat→T) (ps:List Nat) (bc body:C)
 | lr
 | dead
 /-- a map that is ranged over: the places still to come;the range's block;the place last told -/
 | cr (es:List (T×T)) (ix:List Nat) (bi:Nat) (cur:Option Nat)
 | pV (b:Nat)
 /-- written cells that stand still from here on: they may be read -/
 | fz (cs:List T)
 /-- a row of bytes out of a literal,not yet told to be a text's -/
 | lit (cs:List T)
abbrev aa:=List B
def dj (a b:ByteArray):Bool:=a.toList==b.toList
def strLt (a b:ByteArray):Bool:=Op.bytesLess a.toList b.toList
def aM (op:BinOp):T→T→Option T
 | .int k a,.int k' b =>
  match op with
  | .shl=>if b<0 then none else some (.int k (k.wrap (a*2^(min b.toNat k.bits))))
  | .shr=>if b<0 then none else some (.int k (a.fdiv (2^(min b.toNat k.bits))))
  | op =>
   if k=k' then
    match op with
    | .add=>some (.int k (k.wrap (a+b)))
    | .sub=>some (.int k (k.wrap (a-b)))
    | .mul=>some (.int k (k.wrap (a*b)))
    | .quo=>if b=0 then none else some (.int k (k.wrap (a.tdiv b)))
    | .rem=>if b=0 then none else some (.int k (a.tmod b))
    | .and=>some (.int k (k.wrap (BitVec.ofInt k.bits a &&& BitVec.ofInt k.bits b).toNat))
    | .or=>some (.int k (k.wrap (BitVec.ofInt k.bits a ||| BitVec.ofInt k.bits b).toNat))
    | .xor=>some (.int k (k.wrap (BitVec.ofInt k.bits a ^^^ BitVec.ofInt k.bits b).toNat))
    | .andNot=>some (.int k (k.wrap (BitVec.ofInt k.bits a &&& ~~~ BitVec.ofInt k.bits b).toNat))
    | .eql=>some (.bool (a==b))
    | .neq=>some (.bool (a != b))
    | .lss=>some (.bool (a<b))
    | .leq=>some (.bool (a≤b))
    | .gtr=>some (.bool (a>b))
    | .geq=>some (.bool (a≥b))
    | _=>none
   else none
 | .str a,.str b =>
  match op with
  | .add=>if a.size+b.size≤9223372036854775807 then some (.str (a++b))else none
  | .eql=>some (.bool (dj a b))
  | .neq=>some (.bool (!dj a b))
  | .lss=>some (.bool (strLt a b))
  | .leq=>some (.bool (strLt a b||dj a b))
  | .gtr=>some (.bool (!(strLt a b||dj a b)))
  | .geq=>some (.bool (!strLt a b))
  | _=>none
 | _,_=>none
def y0 (op:UnOp):T→Option T
 | .int k n =>
  match op with
  | .neg=>some (.int k (k.wrap (0-n)))
  | .xor=>some (.int k (k.wrap (BitVec.ofInt k.bits (if k.signed then -1 else k.max) ^^^ BitVec.ofInt k.bits n).toNat))
  | _=>none
 | .bool b=>match op with | .not=>some (.bool !b)|_=>none
 | _=>none
def lu:uc→T→Option Bool
 | .ptr,.bE=>some true
 | .ptr,.ptr _ _ | .ptr,.cq _=>some false
 | .slice,.sl .nil []=>some true
 | .slice,.sl .full _ | .slice,.sl (.own _ _) _ | .slice,.sl .arg (_ :: _) | .slice,.aO _ _ _ _=>some false
 | .map,.bL=>some true
 | .map,.map _=>some false
 | .func,.dz=>some true
 | .func,.fn _ _=>some false
 | _,_=>none
def p6 (c:uc)(x y:T):Option Bool :=
 match lu c x,lu c y with
 | some true,some b=>some b
 | some b,some true=>some b
 | _,_=>none
def du:T→T→Option Bool
 | .int k a,.int k' b=>if k=k' then some (a==b)else none
 | .str a,.str b=>some (dj a b)
 | .bool a,.bool b=>some (a==b)
 | _,_=>none
def aH:List T→List T→Option Bool
 | [],[]=>some true
 | a :: as,b :: bs=>match du a b,aH as bs with
  | some x,some y=>some (x&&y)
  | _,_=>none
 | _,_=>none
def dk:T→T→Option Bool
 | .agg as,.agg bs=>aH as bs
 | a,b=>du a b
def bg (k:T):List (T×T)→Option (Option Nat)
 | []=>some none
 | e :: es=>match dk k e.1 with
  | some true=>some (some 0)
  | some false=>(bg k es).map (Option.map (·+1))
  | none=>none
def ct (H:aa):T→Option (List (T×T))
 | .bL=>some []
 | .map b=>match H[b]? with|some (.map es)=>some es|some (.cr es _ _ _)=>some es|_=>none
 | _=>none
def e7 (cells:List T):List (Nat×List T)→Option (List T)
 | []=>some cells
 | (off,vs) :: rest=>if off+vs.length≤cells.length then e7 (cells.take off++vs++cells.drop (off+vs.length)) rest else none
def bT (R:ah):List (Nat×Nat×X)→Option (List (Nat×List T))
 | []=>some []
 | (off,n,x) :: rest=>match (x.ev R).cells?,bT R rest with
  | some cs,some l=>if cs.length=n then some ((off,cs) :: l)else none
  | _,_=>none
def dA (n:Nat)(es:List (List T))(R:ah):List (Nat×X)→Option (List (List T))
 | []=>some es
 | (i,x) :: rest=>match (x.ev R).cells? with
  | some cs=>if cs.length=n∧i<es.length then dA n (es.set i (cs.map T.erase)) R rest else none
  | none=>none
def dB (n:Nat)(es:List (List T))(R:ah):List (Nat×X)→Option (List (List T))
 | []=>some es
 | (i,x) :: rest=>match (x.ev R).cells? with
  | some cs=>if cs.length=n∧i<es.length then dB n (es.set i cs) R rest else none
  | none=>none
def gM (H:aa)(n:Nat):T→Option (List T)
 | .ptr b off=>match H[b]? with
  | some (.cells cs)=>if off+n≤cs.length then some ((cs.drop off).take n)else none
  | some (.fz cs)=>if off+n≤cs.length then some ((cs.drop off).take n)else none
  | _=>none
 | .cq cs=>if n≤cs.length then some (cs.take n)else none
 | _=>none
def valOf (ag:Bool)(cs:List T):Option T :=
 if ag then some (.agg cs)else match cs with | [v]=>some v|_=>none
def ud (H:aa)(vs:List T):T→Option aa
 | .ptr b off=>match H[b]? with
  | some (.cells cs)=>if off+vs.length≤cs.length then some (H.set b (.cells (cs.take off++vs++cs.drop (off+vs.length))))else none
  | _=>none
 | _=>none
def kv (off:Nat):T→Option T
 | .ptr b o=>some (.ptr b (o+off))
 | .cq cs=>if off<cs.length then some (.cq (cs.drop off))else none
 | _=>none
def oY (n i:Nat):T→Option T
 | .sl _ es=>match es[i]? with
  | some c=>if c.length=n∧n≠0 then some (.cq c)else none
  | none=>none
 | .aO b off len n'=>if n'=n∧i<len∧n≠0 then some (.ptr b (off+i*n))else none
 | _=>none
def aI (H:aa)(n:Nat):T→Option (List (List T))
 | .sl _ es=>if es.all (·.length==n)then some es else none
 | .aO b off len n'=>match H[b]? with
  | some (.cells cs)=>if n'=n∧off+len*n≤cs.length then some ((List.range len).map fun i=>(cs.drop (off+i*n)).take n)else none
  | some (.fz cs)=>if n'=n∧off+len*n≤cs.length then some ((List.range len).map fun i=>(cs.drop (off+i*n)).take n)else none
  | _=>none
 | .str s=>if n=1 then some (s.data.toList.map fun c=>[.int .u8 c.toNat])else none
 | _=>none
def bytesOf:List (List T)→Option (List UInt8)
 | []=>some []
 | [.int .u8 n] :: es=>(bytesOf es).map (UInt8.ofNat n.toNat :: ·)
 | _=>none
def eo (H:aa):Lc→T→Option Nat
 | .str,.str s=>some s.size
 | .sl,.sl _ es=>some es.length
 | .sl,.aO _ _ len _=>some len
 | .sl,.bS _ _ len _ _=>some len
 | .map,.bL=>some 0
 | .map,.map b=>match H[b]? with
  | some (.map es)=>some es.length
  | some (.cr es _ _ _)=>some es.length
  | _=>none
 | _,_=>none
def aR:T→Option Nat
 | .int _ n=>if 0≤n then some n.toNat else none
 | _=>none
def cU (R:ah)(d:Nat):Option X→Option Nat
 | none=>some d
 | some x=>aR (x.ev R)
def SK.cut (k:SK)(len lo hi:Nat):SK :=
 match k with
 | .nil=>.nil
 | .arg=>.arg
 | .full=>if hi=len then .full else .arg
 | .own t e=>if hi=len∧lo<len then .own t e else .arg
def b8 (dL bytes:Nat):Bool:=(dL+dL/4+512)*bytes≤281474976710656
def gY (H:aa)(bytes:Nat)(k:SK)(es new:List (List T)):Option (T×aa) :=
 match new with
 | []=>some (.sl k es,H)
 | _ =>
  if b8 (es.length+new.length) bytes then
   match k with
   | .nil | .full=>some (.sl (.own H.length (es.length+new.length)) (es++new.map (·.map T.erase)),H++[.tok (es.length+new.length)])
   | .own t e=>match H[t]? with
    | some (.tok e')=>if e=e' then some (.sl (.own t (e+new.length)) (es++new.map (·.map T.erase)),H.set t (.tok (e+new.length)))else none
    | _=>none
   | .arg=>none
  else none
def p7:T→Bool
 | .sl _ _ | .aO _ _ _ _=>true
 | _=>false
def oZ (H:aa)(n bytes:Nat)(x:T)(new:List (List T)):Option (T×aa) :=
 match new with
 | []=>if p7 x then some (x,H)else none
 | _ =>
  match x with
  | .sl .nil es | .sl .full es =>
   if b8 (es.length+new.length) bytes∧es=[]then some (.aO H.length 0 new.length n,H++[.cells new.flatten])else none
  | .aO b off len n'=>match H[b]? with
   | some (.cells cs) =>
    if n'=n∧off=0∧len*n=cs.length∧b8 (len+new.length) bytes then
     some (.aO H.length 0 (len+new.length) n,H.set b .dead++[.cells (cs++new.flatten)])else none
   | _=>none
  | _=>none
def y6:T→T
 | .bS b off len n _=>.aO b off len n
 | t=>t
def fo (H:aa)(n k:Nat):T→Option (List (List T))
 | .aO b off _ n' | .bS b off _ n' _=>match H[b]? with
  | some (.cells cs)=>if n'=n∧off+k*n≤cs.length then some ((List.range k).map fun i=>(cs.drop (off+i*n)).take n)else none
  | _=>none
 | _=>none
def ue:T→Option Nat
 | .aO _ _ len _ | .bS _ _ len _ _=>some len
 | _=>none
def p8 (H:aa)(n:Nat)(x y:T):Option (T×aa) :=
 match x,ue y with
 | .aO b off len n',some ly | .bS b off len n' _,some ly =>
  match H[b]?,fo H n (min ly len) y with
  | some (.cells cs),some new =>
   if n'=n∧n≠0∧off≤cs.length then some (.int .i64 (min ly len:Nat),H.set b (.cells (cs.take off++new.flatten++cs.drop (off+(min ly len)*n))))else none
  | _,_=>none
 | _,_=>none
def p9 (H:aa)(b:Nat):Nat:=match H[b]? with
 | some (.cells cs)=>cs.length
 | some (.fz cs)=>cs.length
 | _=>0
def uf (H:aa)(n bytes:Nat)(z:List T)(x:T)(k:Nat):Option (T×aa) :=
 match x with
 | .bS b off len n' c=>match fo H n len x with
  | some es=>if n'=n∧n≠0∧0<k∧c<len+k∧z.length=n∧b8 (len+k) bytes then some (.aO H.length 0 (len+k) n,H++[.cells (es.flatten++(List.replicate k z).flatten)])else none
  | none=>none
 | _=>none
def qa (H:aa)(n:Nat)(x y:T):Option (T×aa) :=
 match x,y with
 | .aO bv _ _ n1,.bS b _ len n2 _ =>
  match H[bv]?,H[b]? with
  | some (.cells _),some (.cells cs)=>if bv≠b∧n1=n∧n2=n∧0<cs.length then some (.bool false,H)else none
  | _,_=>none
 | _,_=>none
def wu (R:ah)(l:List X):List T:=l.map (X.ev R)
def Cc (n:Nat):List T→Bool
 | [.int .u8 _]=>n != 0
 | _=>false
def qb (n:Nat)(z cs:List T):B:=if Cc n z then .lit cs else .cells cs
def ae (R:ah)(H:aa):Bo→Option (T×aa)
 | .aP x=>some (x.ev R,H)
 | .pick c a b=>match c.ev R with
  | .bool t=>some (if t then a.ev R else b.ev R,H)
  | _=>none
 | .bin op x y=>(aM op (x.ev R) (y.ev R)).map (·,H)
 | .gV neg c x y=>(p6 c (x.ev R) (y.ev R)).map fun b=>(.bool (if neg then !b else b),H)
 | .beq neg x y=>match x.ev R,y.ev R with
  | .bool a,.bool b=>some (.bool (if neg then !(a==b)else a==b),H)
  | _,_=>none
 | .eqs neg ks x y=>match x.ev R,y.ev R with
  | .agg as,.agg bs=>if hasAll ks as then(aH as bs).map fun b=>(.bool (if neg then !b else b),H)else none
  | _,_=>none
 | .un op x=>(y0 op (x.ev R)).map (·,H)
 | .pT k x=>match x.ev R with
  | .int _ n=>some (.int k (k.wrap n),H)
  | _=>none
 | .p3 x=>match aI H 1 (x.ev R)with
  | some es=>match x.ev R with
   | .str _=>none
   | _=>(bytesOf es).map fun l=>(.str ⟨l.toArray⟩,H)
  | none=>none
 | .wo m x=>match x.ev R with
  | .aO b off len n=>match H[b]? with
   | some (.lit cs)=>if m=true∧off=0∧n=1∧len=cs.length then some (.sl .arg (cs.map fun c=>[c]),H.set b .dead)else none
   | _=>none
  | .str s=>if m=false∧s.size≤16777216 then some (.sl .arg (s.data.toList.map fun c=>[.int .u8 c.toNat]),H)else none
  | _=>none
 | .len k x=>(eo H k (x.ev R)).map fun (n:Nat)=>(T.int .i64 (n:Int),H)
 | .alloc z=>some (.ptr H.length 0,H++[.cells z])
 | .box x=>(x.ev R).cells?.map fun cs=>(.ptr H.length 0,H++[.cells cs])
 | .build z ps=>match bT R ps with
  | some l=>(e7 z l).map fun cs=>(.agg cs,H)
  | none=>none
 | .oX n z ps=>(dA z.length (List.replicate n z) R ps).map fun es=>(.sl .full es,H)
 | .ld n ag x=>match gM H n (x.ev R)with
  | some cs=>(valOf ag cs).map (·,H)
  | none=>none
 | .st n a v=>match (v.ev R).cells? with
  | some vs=>if vs.length=n then(ud H vs (a.ev R)).map (ar,·)else none
  | none=>none
 | .pU off x=>(kv off (x.ev R)).map (·,H)
 | .BF off n ag x=>match x.ev R with
  | .agg cs=>if off+n≤cs.length then(valOf ag ((cs.drop off).take n)).map (·,H)else none
  | _=>none
 | .nT n x i=>(aR (i.ev R)).bind fun i=>(oY n i (x.ev R)).map (·,H)
 | .zu len n x i=>match x.ev R,aR (i.ev R)with
  | .ptr b off,some i=>if i<len then some (.ptr b (off+i*n),H)else none
  | _,_=>none
 | .zw x i=>match x.ev R,aR (i.ev R)with
  | .str s,some i=>(s.data[i]?).map fun c=>(.int .u8 c.toNat,H)
  | _,_=>none
 | .BG len n ag x i=>match x.ev R,aR (i.ev R)with
  | .agg cs,some i=>if i<len∧i*n+n≤cs.length then(valOf ag ((cs.drop (i*n)).take n)).map (·,H)else none
  | _,_=>none
 | .xr x lo hi=>match x.ev R with
  | .str s=>match cU R 0 lo,cU R s.size hi with
   | some l,some h=>if l≤h∧h≤s.size then some (.str (s.extract l h),H)else none
   | _,_=>none
  | _=>none
 | .tN n x lo hi mx=>match x.ev R with
  | .sl k es=>match cU R 0 lo,cU R es.length hi,mx with
   | some l,some h,none=>if l≤h∧h≤es.length∧es.all (·.length==n)then some (.sl (k.cut es.length l h) ((es.take h).drop l),H)else none
   | some l,some h,some m=>match aR (m.ev R)with
    | some m =>
     if l≤h∧h≤m∧m≤es.length∧es.all (·.length==n)then
      some (.sl (if k=.nil then .nil else if es=[]∧k=.arg then .arg else if h=m then .full else .arg) ((es.take h).drop l),H)else none
    | none=>none
   | _,_,_=>none
  | .aO b off len n'=>match cU R 0 lo,cU R len hi,mx with
   | some l,some h,none =>
    if n'=n∧l≤h∧h≤len then some (if l=h then(if l=0 then .aO b off 0 n else .sl .arg [])else .aO b (off+l*n) (h-l) n,H)else none
   | _,_,_=>none
  | .bS b off len n' c=>match cU R 0 lo,cU R len hi,mx with
   | some l,some h,none =>
    if n'=n∧l≤h∧h≤c then some (if l<c∨l=0 then .bS b (off+l*n) (h-l) n (c-l)else .sl .arg [],H)else none
   | _,_,_=>none
  | _=>none
 | .mS=>some (.map H.length,H++[.map []])
 | .p4 kt z ok m k =>
  if (k.ev R).dt kt then
   match ct H (m.ev R)with
   | some es=>match bg (k.ev R) es with
    | some (some i)=>match es[i]? with
     | some e=>some (if ok then .bl [e.2,.bool true]else e.2,H)
     | none=>none
    | some none=>some (if ok then .bl [z,.bool false]else z,H)
    | none=>none
   | none=>none
  else none
 | .wq kt m k v=>match m.ev R with
  | .map b=>if (k.ev R).dt kt then match H[b]? with
   | some (.map es)=>match bg (k.ev R) es with
    | some (some i)=>some (ar,H.set b (.map (es.set i (k.ev R,v.ev R))))
    | some none=>some (ar,H.set b (.map (es++[(k.ev R,v.ev R)])))
    | none=>none
   | _=>none else none
  | _=>none
 | .del kt m k=>match m.ev R with
  | .map b=>if (k.ev R).dt kt then match H[b]? with
   | some (.map es)=>match bg (k.ev R) es with
    | some (some i)=>some (.bl [],H.set b (.map (es.eraseIdx i)))
    | some none=>some (.bl [],H)
    | none=>none
   | _=>none else none
  | _=>none
 | .app n bytes mu x y=>match aI H n (y.ev R)with
  | some new=>if mu then oZ H n bytes (y6 (x.ev R)) new else match x.ev R with
   | .sl k es=>if es.all (·.length==n)then gY H bytes k es new else none
   | _=>none
  | none=>none
 | .BH mu bytes z l c=>match aR (l.ev R),aR (c.ev R)with
  | some l,some c =>
   if l≤c∧c*bytes≤281474976710656∧c≤9223372036854775807 then
    if mu then some (.aO H.length 0 l z.length,H++[.cells (List.replicate l z).flatten])
    else if l=0 then some (.sl .arg [],H)else some (.sl (.own H.length l) (List.replicate l z),H++[.tok l])
   else none
  | _,_=>none
 | .yW f ew=>some (.fn f (wu R ew),H)
 | .ext i x=>match x.ev R with
  | .bl vs=>(vs[i]?).map (·,H)
  | _=>none
 | .mn x y=>match x.ev R,y.ev R with
  | .int k a,.int _ b=>some (.int k (if b<a then b else a),H)
  | _,_=>none
 | .mx x y=>match x.ev R,y.ev R with
  | .int k a,.int _ b=>some (.int k (if b>a then b else a),H)
  | _,_=>none
 | .mT x=>match x.ev R with
  | .bE | .cE | .dz=>none
  | v=>some (v,H)
 | .cap x=>match x.ev R with
  | .bS _ _ _ _ c=>some (.int .i64 (c:Nat),H)
  | _=>none
 | .BI n x y=>p8 H n (x.ev R) (y.ev R)
 | .yX x=>match x.ev R with
  | .map b=>(ct H (.map b)).map fun es=>(.ptr H.length 0,H.set b (.cr es (List.range es.length) H.length none)++[.pV b])
  | _=>none
 | .gW _=>none
 | .yY x=>match x.ev R with
  | .ptr bi 0=>match H[bi]? with
   | some (.pV b)=>match H[b]? with
    | some (.cr es _ wv (some c))=>if wv=bi then(es[c]?).map fun e=>(.bl [e.1,e.2],H)else none
    | _=>none
   | _=>none
  | _=>none
 | .zy n z x=>match x.ev R with
  | .aO b off len n'=>match H[b]? with
   | some (.cells cs)=>if n'=n∧z.length=n∧off+len*n≤cs.length then some (ar,H.set b (.cells (cs.take off++(List.replicate len z).flatten++cs.drop (off+len*n))))else none
   | _=>none
  | _=>none
 | .zx n x y=>qa H n (x.ev R) (y.ev R)
 | .BJ n bytes z x k=>(aR (k.ev R)).bind fun k=>uf H n bytes z (x.ev R) k
 | .yZ n z ps=>(dB z.length (List.replicate n z) R ps).bind fun es=>if z.length≠0 then some (.aO H.length 0 n z.length,H++[qb n z es.flatten])else none
 | .BK n x hi=>match x.ev R,aR (hi.ev R)with
  | .aO b off _ n',some h=>if n'=n∧n≠0∧0<h∧off+h*n≤p9 H b then some (.aO b off h n,H)else none
  | _,_=>none
def aq (R:ah):Gd→Bool
 | none=>true
 | some (t,b)=>match R t with
  | .bool c=>c==b
  | _=>false
inductive Rs where
 | t (r:Nat)
 | cl (r n:Nat) (ag:Bool)
structure Fn where
 n:Nat
 np:Nat
 res:List Rs
 body:C
structure Env where
 fn:Nat→Option Fn
 gj:Nat→List T→aa→(T→aa→Prop)→Prop
 mono:∀f az H (Q Q':T→aa→Prop),gj f az H Q→(∀t H',Q t H'→Q' t H')→gj f az H Q'
inductive J where
 | code (c:C) (R:ah)
 | ops (l:List O) (R:ah)
 | call (f:Nat) (as:List T)
inductive Out where
 | ex (e:Ex) (R:ah)
 | val (v:T)
def C.ep:C→Bool
 | .seq a b | .cond _ a b=>a.ep||b.ep
 | .block _ a | .loop a=>a.ep
 | .bd _ _ _ _ _=>true
 | _=>false
def fJ (R:ah):List Nat→List T→ah
 | p :: ps,v :: vs=>fJ (gg R p v) ps vs
 | _,_=>R
def qc:T→Option Nat
 | .ptr b 0=>some b
 | _=>none
def ie:List T→Option (List Nat)
 | []=>some []
 | t :: ts=>match qc t,ie ts with
  | some b,some bs=>some (b :: bs)
  | _,_=>none
def marks:T→Option (List Nat)
 | .bl ts=>ie ts
 | _=>none
def fK (t:T)(b:Nat):T:=match t with
 | .bl ts=>.bl (.ptr b 0 :: ts)
 | t=>t
def kill (H:aa):List Nat→aa
 | []=>H
 | b :: bs=>kill (H.set b .dead) bs
def kx:Option Ex→Ex
 | none=>.normal
 | some e=>e
def dm (as:List T):ah:=fun t=>as.getD t ar
def mU (R:ah)(H:aa):Rs→Option T
 | .t r=>some (R r)
 | .cl r n ag=>match gM H n (R r)with
  | some cs=>valOf ag cs
  | none=>none
def jk (R:ah)(H:aa):List Rs→Option (List T)
 | []=>some []
 | x :: xs=>match mU R H x,jk R H xs with
  | some v,some vs=>some (v :: vs)
  | _,_=>none
def o3:List T→T
 | [v]=>v
 | l=>.bl l
def fL (R:ah)(H:aa)(l:List Rs):Option T:=(jk R H l).map o3
def cF (R:ah)(H:aa)(l:List Rd):Prop:=∀r∈l,aq R r.g=true→ae R H r.op=some (R r.d,H)
def dM (cs:List T)(off len n:Nat):List (List T):=(List.range len).map fun i=>(cs.drop (off+i*n)).take n
def ug (b:Nat)(cs:List T):T→T
 | .aO b' off len n=>if b'=b∧off+len*n≤cs.length then .sl .arg (dM cs off len n)else .aO b' off len n
 | t=>t
def mV (b:Nat)(cs:List T):T→T
 | .bl vs=>.bl (vs.map (ug b cs))
 | t=>ug b cs t
def ig (b:Nat):T→Prop
 | .bl vs=>∃off len n,T.aO b off len n∈vs
 | .aO b' _ _ _=>b'=b
 | _=>False
inductive Vw (H:aa):T→T→Prop
 | refl (t:T):Vw H t t
 | ms {b off len n:Nat} {cs:List T} {es:List (List T)} (src:Nat→Nat→T) (hb:H[b]?=some (.fz cs)) (hl:es.length=len) (hn:∀c∈es,c.length=n) (hle:off+len*n≤cs.length)
   (h1:∀(i j:Nat) (c:List T) (t':T),es[i]?=some c→c[j]?=some t'→cs[off+i*n+j]?=some (src i j)∧t'.one=true) (h2:∀(i j:Nat) (c:List T) (t':T),es[i]?=some c→c[j]?=some t'→Vw H (src i j) t'):Vw H (.aO b off len n) (.sl .arg es)
def Et (H:aa)(as:List T)(b:Nat):Prop:=∃(i b' off len n:Nat),as[i]?=some (.aO b' off len n)∧(b'=b∨∃(cs:List T) (j xu xv n':Nat),(H[b']?=some (.cells cs)∨H[b']?=some (.fz cs))∧(cs[j]?:Option T)=some (.aO b xu xv n'))
def fM (H:aa)(b bi:Nat)(es:List (T×T))(ix:List Nat)(t:T)(H':aa):Prop :=
 (ix=[]∧t=.bl [.bool false]∧H'=H.set b (.map es))∨∃i e,i∈ix∧es[i]?=some e∧t=.bl [.bool true,e.1,e.2]∧H'=H.set b (.cr es (ix.erase i) bi (some i))
inductive W (E:Env):J→aa→(Out→aa→Prop)→Prop
 | skip {R H Q} (h:Q (.ex .normal R) H):W E (.code .skip R) H Q
 | exit {id R H Q} (h:Q (.ex (.exit id) R) H):W E (.code (.exit id) R) H Q
 | ret {R H Q} (h:Q (.ex .ret R) H):W E (.code .ret R) H Q
 | xw {l R H Q} (h:W E (.ops l R) H Q):W E (.code (.ops l) R) H Q
 | seq {a b R H Q} (M:Out→aa→Prop) (h1:W E (.code a R) H M) (h2:∀R' H',M (.ex .normal R') H'→W E (.code b R') H' Q)
   (h3:∀o H',M o H'→(∀R',o≠.ex .normal R')→Q o H'):W E (.code (.seq a b) R) H Q
 | cond {x a b R H Q} (t:Bool) (hx:x.ev R=.bool t) (h:W E (.code (if t then a else b) R) H Q):W E (.code (.cond x a b) R) H Q
 | block {id a R H Q} (M:Out→aa→Prop) (h1:W E (.code a R) H M) (h2:∀R' H',M (.ex (.exit id) R') H'→Q (.ex .normal R') H')
   (h3:∀o H',M o H'→(∀R',o≠.ex (.exit id) R')→Q o H'):W E (.code (.block id a) R) H Q
 | loop {a R H Q} (M:Out→aa→Prop) (h1:W E (.code a R) H M) (h2:∀R' H',M (.ex .normal R') H'→W E (.code (.loop a) R') H' Q)
   (h3:∀o H',M o H'→(∀R',o≠.ex .normal R')→Q o H'):W E (.code (.loop a) R) H Q
 | nil {R H Q} (h:Q (.ex .normal R) H):W E (.ops [] R) H Q
 | no {o l R H Q} (hg:aq R o.g=false) (h:W E (.ops l (aw R o.d ar)) H Q):W E (.ops (o :: l) R) H Q
 | op {d b g s l R H Q v H'} (hg:aq R g=true) (he:ae R H b=some (v,H')) (hs:cF R H' s) (h:W E (.ops l (aw R d v)) H' Q):W E (.ops (⟨d,.b b,g,s⟩ :: l) R) H Q
 | call {d f as g s l R H Q} (M:Out→aa→Prop) (hg:aq R g=true) (h1:W E (.call f (as.map (X.ev R))) H M)
   (hs:∀v H',M (.val v) H'→cF R H' s) (h2:∀v H',M (.val v) H'→W E (.ops l (aw R d v)) H' Q):W E (.ops (⟨d,.call f as,g,s⟩ :: l) R) H Q
 | aQ {d x f cs as g s l R H Q} (M:Out→aa→Prop) (hg:aq R g=true) (hf:x.ev R=.fn f cs) (h1:W E (.call f (as.map (X.ev R)++cs)) H M)
   (hs:∀v H',M (.val v) H'→cF R H' s) (h2:∀v H',M (.val v) H'→W E (.ops l (aw R d v)) H' Q):W E (.ops (⟨d,.aQ x as,g,s⟩ :: l) R) H Q
 | mW {d neg c x y s l R H Q} (hs:s=[]) (h:∀b:Bool,W E (.ops l (aw R d (.bool b))) H Q) (hx:x.ev R=.sl .arg []) (hy:y.ev R=.sl .nil []) (hc:c=.slice) :
   W E (.ops (⟨d,.b (.gV neg c x y),none,s⟩ :: l) R) H Q
 | gL {d x b as g s l R H Q n R0 ps bc body} (M1 M:Out→aa→Prop) (hg:aq R g=true) (hf:x.ev R=.gL b) (hb:H[b]?=some (.loop .ready none n R0 ps bc body)) (hn:as.length=ps.length)
   (h1:W E (.code bc (fJ R0 ps (as.map (X.ev R)))) H M1) (o4:∀o H',M1 o H'→(∃R1,o=.ex .normal R1)∧H'[b]?=some (.loop .ready none n R0 ps bc body))
   (h2:∀R1 H1,M1 (.ex .normal R1) H1→W E (.code body R1) (H1.set b (.loop .busy none n R0 ps bc body)) M) (lx:∀o H',M o H'→H'[b]?=some (.loop .busy none n R0 ps bc body))
   (y7:∀R' H',M (.ex .normal R') H'→cF R (H'.set b (.loop .ready none n R0 ps bc body)) s)
   (h3:∀R' H',M (.ex .normal R') H'→W E (.ops l (aw R d (.bool true))) (H'.set b (.loop .ready none n R0 ps bc body)) Q)
   (y8:∀e R' H',M (.ex e R') H'→e≠.normal→cF R (H'.set b (.loop .done (some e) n R0 ps bc body)) s)
   (h4:∀e R' H',M (.ex e R') H'→e≠.normal→W E (.ops l (aw R d (.bool false))) (H'.set b (.loop .done (some e) n R0 ps bc body)) Q):W E (.ops (⟨d,.aQ x as,g,s⟩ :: l) R) H Q
 | bd {n x ps bc body R H Q f cs} (M:Out→aa→Prop) (hx:x.ev R=.fn f cs) (h1:W E (.call f (.gL (H.length+1) :: cs)) (H++[.lr,.loop .ready none n R ps bc body]) M)
   (h2:∀v H',M (.val v) H'→∃st br,st≠.busy∧br≠some .normal∧H'[H.length+1]?=some (.loop st br n R ps bc body)∧Q (.ex (kx br) (gg R n (fK (R n) H.length))) (H'.set (H.length+1) .dead)) :
   W E (.code (.bd n x ps bc body) R) H Q
 | y9 {f as H Q fn} (M:Out→aa→Prop) (hf:E.fn f=some fn) (hn:as.length=fn.np) (h1:W E (.code fn.body (dm as)) H M)
   (h2:∀o H',M o H'→∃R' bs,(o=.ex .normal R'∨o=.ex .ret R')∧marks (R' fn.n)=some bs∧bs.Nodup∧(∀b∈bs,H'[b]?=some .lr)∧∃v,fL R' (kill H' bs) fn.res=some v∧Q (.val v) (kill H' bs)):W E (.call f as) H Q
 | fn {f as H Q fn} (M:Out→aa→Prop) (hf:E.fn f=some fn) (hr:fn.body.ep=false) (hn:as.length=fn.np) (h1:W E (.code fn.body (dm as)) H M)
   (h2:∀o H',M o H'→∃R',(o=.ex .normal R'∨o=.ex .ret R')∧∃v,fL R' H' fn.res=some v∧Q (.val v) H'):W E (.call f as) H Q
 | qd {f as H Q b off len n} (i:Nat) (M:Out→aa→Prop) (hi:as[i]?=some (.aO b off len n)) (h1:∀c,len≤c→W E (.call f (as.set i (.bS b off len n c))) H M) (h2:∀v H',M (.val v) H'→Q (.val (y6 v)) H'):W E (.call f as) H Q
 | nU {f as H Q} (M:Out→aa→Prop) (h1:W E (.call f as) H M) (h2:∀o H',M o H'→∃v b cs,o=.val v∧ig b v∧H'[b]?=some (.cells cs)∧Q (.val (mV b cs v)) (H'.set b .dead)):W E (.call f as) H Q
 | gW {d x g s l R H Q b bi es ix cur} (hg:aq R g=true) (hx:x.ev R=.ptr bi 0) (hb:H[b]?=some (.cr es ix bi cur))
   (hs:∀t H',fM H b bi es ix t H'→cF R H' s) (h:∀t H',fM H b bi es ix t H'→W E (.ops l (aw R d t)) H' Q):W E (.ops (⟨d,.b (.gW x),g,s⟩ :: l) R) H Q
 | shr {f as H Q} (M:Out→aa→Prop) (h1:W E (.call f as) H M) (h2:∀o H',M o H'→∃v b cs k,o=.val v∧ig b v∧H'[b]?=some (.cells cs)∧Q (.val v) (H'.set b (.cells (cs.take k)))):W E (.call f as) H Q
 | qe {f as H Q b off len n cs} (i:Nat) (hi:as[i]?=some (.aO b off len n)) (hb:H[b]?=some (.cells cs)) (h:W E (.call f (as.map (mV b cs))) (H.set b .dead) Q):W E (.call f as) H Q
 | zz {f as H Q b cs} (hk:Et H as b) (hb:H[b]?=some (.cells cs)) (h:W E (.call f as) (H.set b (.fz cs)) Q):W E (.call f as) H Q
 | vw {f as tP H Q} (hl:tP.length=as.length) (hv:∀(i:Nat) (t t':T),as[i]?=some t→tP[i]?=some t'→Vw H t t') (h:W E (.call f tP) H Q):W E (.call f as) H Q
 | za {d n bytes y g s l R H Q b len cs v H' t} (hg:aq R g=true) (ht:R t=.aO b 0 len n) (hb:H[b]?=some (.cells cs)) (hlen:len*n=cs.length) (h0:0<len)
   (he:ae (gg R t (.sl (.own H.length len) (dM cs 0 len n))) (H.set b (.fz cs)++[.tok len]) (.app n bytes false (.r t) y)=some (v,H')) (hs:cF R H' s) (h:W E (.ops l (aw R d v)) H' Q):W E (.ops (⟨d,.b (.app n bytes false (.r t) y),g,s⟩ :: l) R) H Q
 | gj {f as H Q} (h:E.gj f as H fun v H'=>Q (.val v) H'):W E (.call f as) H Q
inductive Ow where
 | free|cG|mut (b:Nat)|spare (t:Nat)
 deriving DecidableEq
structure Ctx where
 φ:Nat→Option (Nat×Nat×Nat)
 κ:Nat→Nat→Ow
 π:Nat→Nat→Option (Nat×Nat×Nat)
 ck:Nat→C→Code→Prop
def mL (g:Ctx)(w:World)(r o:Nat)(v:Value):Prop:=g.κ r o=.cG∧w.cell? ⟨r,o,none⟩=some v
def o5 (g:Ctx)(k:SK)(r o len cap n:Nat):Prop :=
 match k with
 | .nil=>False
 | .arg=>True
 | .full=>cap=len
 | .own t e=>g.π t e=some (r,o+len*n,o+cap*n)∧0<len
inductive VR (g:Ctx)(w:World):T→Value→Prop
 | int (k n):VR g w (.int k n) (.int k n)
 | bool (b):VR g w (.bool b) (.bool b)
 | str (s):VR g w (.str s) (.string s)
 | bE:VR g w .bE (.pointer none)
 | ptr {b off r o q} (h:g.φ b=some (r,o,q)):VR g w (.ptr b off) (.pointer (some ⟨r,o+off,none⟩))
 | cq {cs r o} (a0:Nat→Value) (h1:∀(j:Nat) (t:T),cs[j]?=some t→t.one=true∧mL g w r (o+j) (a0 j)) (h2:∀(j:Nat) (t:T),cs[j]?=some t→VR g w t (a0 j)) :
   VR g w (.cq cs) (.pointer (some ⟨r,o,none⟩))
 | bL:VR g w .bL (.map none)
 | map {b r o q} (h:g.φ b=some (r,o,q)):VR g w (.map b) (.map (some r))
 | slnil:VR g w (.sl .nil []) (.slice none 0 0)
 | dn (a:Option Addr):VR g w (.sl .arg []) (.slice a 0 0)
 | sl {k es r o cap n} (a0:Nat→Nat→Value) (hk:o5 g k r o es.length cap n) (hc:es.length≤cap) (hn:∀c∈es,c.length=n)
   (h1:∀(i j:Nat) (c:List T) (t:T),es[i]?=some c→c[j]?=some t→t.one=true∧mL g w r (o+i*n+j) (a0 i j))
   (h2:∀(i j:Nat) (c:List T) (t:T),es[i]?=some c→c[j]?=some t→VR g w t (a0 i j)) :
   VR g w (.sl k es) (.slice (some ⟨r,o,none⟩) es.length cap)
 | aO {b off len n r o q cap} (h:g.φ b=some (r,o,q)) (hc:len≤cap) (hq:o+off+cap*n=q):VR g w (.aO b off len n) (.slice (some ⟨r,o+off,none⟩) len cap)
 | bS {b off len n r o q c} (h:g.φ b=some (r,o,q)) (hc:len≤c) (hq:o+off+c*n=q):VR g w (.bS b off len n c) (.slice (some ⟨r,o+off,none⟩) len c)
 | dz:VR g w .dz .nilFunc
 | fn {f ew vs} (hl:vs.size=ew.length) (h:∀(i:Nat) (t:T) (v:Value),ew[i]?=some t→vs[i]?=some v→VR g w t v):VR g w (.fn f ew) (.func (.func f) #[] vs)
 | gL {b r o q} (h:g.φ b=some (r,o,q)):VR g w (.gL b) (.func (.yield r) #[] #[])
 | cE:VR g w .cE .nilIface
 | agg {cs vs} (hl:vs.size=cs.length) (h1:∀t∈cs,t.one=true) (h2:∀(i:Nat) (t:T) (v:Value),cs[i]?=some t→vs[i]?=some v→VR g w t v):VR g w (.agg cs) (.agg vs)
 | bl {cs vs} (hl:vs.size=cs.length) (h2:∀(i:Nat) (t:T) (v:Value),cs[i]?=some t→vs[i]?=some v→VR g w t v):VR g w (.bl cs) (.tuple vs)
structure Le (g:Ctx)(w:World)(g':Ctx)(w':World):Prop where
 φ:∀b x,g.φ b=some x→g'.φ b=some x
 κ:∀r o,g.κ r o=.cG→g'.κ r o=.cG
 π:∀t e x,g.π t e=some x→g'.π t e=some x
 cell:∀r o v,g.κ r o=.cG→w.cell? ⟨r,o,none⟩=some v→w'.cell? ⟨r,o,none⟩=some v
 ck:g'.ck=g.ck
theorem Le.refl (g:Ctx)(w:World):Le g w g w:=⟨fun _ _ h=>h,fun _ _ h=>h,fun _ _ _ h=>h,fun _ _ _ _ h=>h,rfl⟩
theorem Le.trans {g g' zA:Ctx}{w w' zB:World}(h:Le g w g' w')(h':Le g' w' zA zB):Le g w zA zB :=
 ⟨fun b x e=>h'.φ b x (h.φ b x e),fun r o e=>h'.κ r o (h.κ r o e),fun t e x k=>h'.π t e x (h.π t e x k),fun r o v k e=>h'.cell r o v (h.κ r o k) (h.cell r o v k e),h'.ck.trans h.ck⟩
theorem mL.mono {g g':Ctx}{w w':World}(le:Le g w g' w'){r o:Nat}{v:Value}(h:mL g w r o v):mL g' w' r o v:=⟨le.κ _ _ h.1,le.cell _ _ _ h.1 h.2⟩
theorem o5.mono {g g':Ctx}{w w':World}(le:Le g w g' w'){k:SK}{r o len cap n:Nat}(h:o5 g k r o len cap n):o5 g' k r o len cap n:=by
 cases k with
 | nil=>exact h
 | arg=>exact h
 | full=>exact h
 | own t e=>exact⟨le.π _ _ _ h.1,h.2⟩
theorem VR.mono {g g':Ctx}{w w':World}(le:Le g w g' w'){t:T}{v:Value}(h:VR g w t v):VR g' w' t v:=by
 induction h with
 | int k n=>exact .int k n
 | bool b=>exact .bool b
 | str s=>exact .str s
 | bE=>exact .bE
 | ptr h=>exact .ptr (le.φ _ _ h)
 | cq a0 h1 _ ih=>exact .cq a0 (fun j t e=>⟨(h1 j t e).1,(h1 j t e).2.mono le⟩) ih
 | bL=>exact .bL
 | map h=>exact .map (le.φ _ _ h)
 | slnil=>exact .slnil
 | dn a=>exact .dn a
 | sl a0 hk hc hn h1 _ ih=>exact .sl a0 (hk.mono le) hc hn (fun i j c t a b=>⟨(h1 i j c t a b).1,(h1 i j c t a b).2.mono le⟩) ih
 | aO h hc hq=>exact .aO (le.φ _ _ h) hc hq
 | bS h hc hq=>exact .bS (le.φ _ _ h) hc hq
 | dz=>exact .dz
 | fn hl _ ih=>exact .fn hl ih
 | gL h=>exact .gL (le.φ _ _ h)
 | cE=>exact .cE
 | agg hl h1 _ ih=>exact .agg hl h1 ih
 | bl hl _ ih=>exact .bl hl ih
theorem VR.erase {g:Ctx}{w:World}{t:T}{v:Value}(h:VR g w t v):VR g w t.erase v:=by
 cases h with
 | sl a0 hk hc hn h1 h2=>exact .sl a0 trivial hc hn h1 h2
 | slnil=>exact .dn none
 | dn a=>exact .dn a
 | int k n=>exact .int k n
 | bool b=>exact .bool b
 | str s=>exact .str s
 | bE=>exact .bE
 | ptr h=>exact .ptr h
 | cq a0 h1 h2=>exact .cq a0 h1 h2
 | bL=>exact .bL
 | map h=>exact .map h
 | aO h hc hq=>exact .aO h hc hq
 | bS h hc hq=>exact .bS h hc hq
 | dz=>exact .dz
 | fn hl h=>exact .fn hl h
 | gL h=>exact .gL h
 | cE=>exact .cE
 | agg hl h1 h2=>exact .agg hl h1 h2
 | bl hl h2=>exact .bl hl h2
theorem o6 (t:T):t.erase.one=t.one:=by cases t<;>rfl
theorem VR.dp {g:Ctx}{w:World}{t:T}{v:Value}(h:VR g w t v)(ho:t.one=true):v.oneCell'=true:=by
 cases h<;>simp_all [T.one,Value.oneCell']
def hN (g:Ctx)(w:World)(b:Nat)(cs:List T)(r o q:Nat):Prop :=
 o+cs.length≤q∧(∀j,o≤j→j<q→g.κ r j=.mut b∧(∀j0,w.frozen? ⟨r,j0,none⟩=false)∧(w.cell? ⟨r,j,none⟩).isSome=true) ∧
 ∀(i:Nat) (t:T),cs[i]?=some t→t.one=true∧∃v,w.cell? ⟨r,o+i,none⟩=some v∧VR g w t v
def uh (g:Ctx)(w:World)(cs:List T)(r o q:Nat):Prop :=
 o+cs.length≤q∧∀(i:Nat) (t:T),cs[i]?=some t→t.one=true∧∃v,mL g w r (o+i) v∧VR g w t v
def bw (g:Ctx)(w:World)(es:List (T×T))(af:Array MapEntry):Prop :=
 af.size=es.length∧∀(i:Nat) (e:T×T) (m:MapEntry),es[i]?=some e→af[i]?=some m→VR g w e.1 m.key∧VR g w e.2 m.val
def bU (af:Array MapEntry)(clock:Nat):Prop:=(∀m∈af.toList,m.born<clock)∧(af.toList.map (·.born)).Nodup
def ui (af:Array MapEntry)(seen:Array Nat)(ix:List Nat)(cur:Option Nat):Prop :=
 ix.Nodup∧(∀i,i∈ix↔∃m,af[i]?=some m∧m.born∉seen)∧∀c,cur=some c→∃m,af[c]?=some m∧seen.back?=some m.born
def zC (g:Ctx)(w:World)(t e:Nat):Prop :=
 ∃r p q,g.π t e=some (r,p,q)∧p≤q∧(∀j,p≤j→j<q→g.κ r j=.spare t∧(∀j0,w.frozen? ⟨r,j0,none⟩=false)∧(w.cell? ⟨r,j,none⟩).isSome=true)∧∀e',e<e'→g.π t e'=none
def p5.real:p5→LoopState
 | .ready=>.ready
 | .busy=>.busy
 | .done=>.done
def lz:Option Ex→Option Code
 | some .ret=>some .ret
 | some (.exit id)=>some (.exit id)
 | _=>none
def ky (g:Ctx)(w:World)(st:p5)(br:Option Ex)(n:Nat)(R:Nat→T)(ps:List Nat)(bc body:C)(rec:Loop):Prop :=
 rec.state=st.real∧rec.pending=lz br∧rec.params.toList=ps∧rec.tmps.size=n∧(∀t,t<n→VR g w (R t) (rec.tmps.getD t undef))∧(∀p∈ps,p<n)∧g.ck n bc rec.assign∧g.ck n body rec.body
def lA (g:Ctx)(w:World)(b:Nat):B→Prop
 | .cells cs=>∀r o q,g.φ b=some (r,o,q)→hN g w b cs r o q
 | .map es=>∀r o q,g.φ b=some (r,o,q)→g.κ r 0=.mut b∧∃af clock,w.heap[r]?=some (.map af clock)∧bw g w es af∧bU af clock
 | .tok e=>zC g w b e
 | .loop st br n R ps bc body=>∀r o q,g.φ b=some (r,o,q)→g.κ r 0=.mut b∧∃rec,w.heap[r]?=some (.loop rec)∧ky g w st br n R ps bc body rec
 | .lr=>∀r o q,g.φ b=some (r,o,q)→g.κ r 0=.mut b∧w.heap[r]?=some (.deferred (some []))
 | .dead=>True
 | .cr es ix bi cur=>∃r o q,g.φ b=some (r,o,q)∧g.κ r 0=.mut b∧∃af clock,w.heap[r]?=some (.map af clock)∧bw g w es af∧bU af clock ∧
   ∃ri q' seen,g.φ bi=some (ri,0,q')∧g.κ ri 0=.mut b∧w.heap[ri]?=some (.mapIter (some r) clock seen clock)∧ui af seen ix cur
 | .pV _=>True
 | .lit cs=>∃r q,g.φ b=some (r,0,q)∧g.κ r q=.mut b∧(∀j,j≠q→g.κ r j=.cG)∧∃c t,w.heap[r]?=some (.cells c t)∧c.size=q∧cs.length=q ∧
   ∀(i:Nat) (t:T),cs[i]?=some t→t.one=true∧∃v,c[i]?=some v∧VR g w t v
 | .fz cs=>∀r o q,g.φ b=some (r,o,q)→uh g w cs r o q
structure SR (w0:World)(g:Ctx)(H:aa)(w:World):Prop where
 size:w0.heap.size≤w.heap.size
 eu:∀r,r<w0.heap.size→w.heap[r]?=w0.heap[r]?
 o7:∀r o,r<w0.heap.size→g.κ r o=.cG
 fresh:∀r o,w.heap.size≤r→g.κ r o=.free
 gZ:∀b x,g.φ b=some x→b<H.length
 cu:∀t e x,g.π t e=some x→t<H.length
 dv:∀b x,H[b]?=some x→lA g w b x
 env:w.os=w0.os∧w.output=w0.output
def cw:Obj→Bool
 | .map _ _ | .loop _ | .deferred _ | .mapIter _ _ _ _=>true
 | _=>false
structure Cd (w w':World)(S:Nat→Nat→Prop)(M:Nat→Prop):Prop where
 size:w.heap.size≤w'.heap.size
 cell:∀r j,r<w.heap.size→¬S r j→w'.cell? ⟨r,j,none⟩=w.cell? ⟨r,j,none⟩
 ey:∀r j,r<w.heap.size→(w.cell? ⟨r,j,none⟩).isSome=true→(w'.cell? ⟨r,j,none⟩).isSome=true
 maps:∀r x,¬M r→cw x=true→w.heap[r]?=some x→w'.heap[r]?=some x
 eu:∀r,r<w.heap.size→¬M r→(∀j,¬S r j)→w'.heap[r]?=w.heap[r]?
 env:w'.os=w.os∧w'.output=w.output
structure Tr (w w':World)(S:Nat→Nat→Prop)(M:Nat→Prop):Prop extends Cd w w' S M where
 nU:∀r j,r<w.heap.size→w'.frozen? ⟨r,j,none⟩=w.frozen? ⟨r,j,none⟩
theorem dN {w:World}{r j:Nat}{v:Value}(h:w.cell? ⟨r,j,none⟩=some v):r<w.heap.size:=by
 unfold World.cell? at h
 cases hr:w.heap[r]? with
 | none=>simp[hr]at h
 | some x=>exact(Array.getElem?_eq_some_iff.1 hr).1
theorem hN.mono {g g':Ctx}{w w':World}{b:Nat}{cs:List T}{r o q:Nat}(h:hN g w b cs r o q)(le:Le g w g' w')
  (hκ:∀j,o≤j→j<q→g'.κ r j=.mut b) (hf:∀j,o≤j→j<q→(∀j0,w'.frozen? ⟨r,j0,none⟩=w.frozen? ⟨r,j0,none⟩)∧w'.cell? ⟨r,j,none⟩=w.cell? ⟨r,j,none⟩):hN g' w' b cs r o q:=by
 obtain⟨h1,h2,h3⟩:=h
 refine⟨h1,fun j hj hq=>⟨hκ j hj hq,fun j0=>by rw[(hf j hj hq).1];exact(h2 j hj hq).2.1 j0,by rw[(hf j hj hq).2];exact(h2 j hj hq).2.2⟩,fun i t hi=>?_⟩
 have aA:i<cs.length:=(List.getElem?_eq_some_iff.1 hi).1
 obtain⟨h4,v,h5,h6⟩:=h3 i t hi
 exact⟨h4,v,by rw[(hf (o+i) (by omega) (by omega)).2];exact h5,h6.mono le⟩
theorem uh.mono {g g':Ctx}{w w':World}{cs:List T}{r o q:Nat}(h:uh g w cs r o q)(le:Le g w g' w'):uh g' w' cs r o q :=
 ⟨h.1,fun i t hi=>let ⟨a,v,b,c⟩:=h.2 i t hi;⟨a,v,b.mono le,c.mono le⟩⟩
theorem bw.mono {g g':Ctx}{w w':World}{es:List (T×T)}{af:Array MapEntry}(h:bw g w es af)(le:Le g w g' w'):bw g' w' es af :=
 ⟨h.1,fun i e m a b=>⟨(h.2 i e m a b).1.mono le,(h.2 i e m a b).2.mono le⟩⟩
theorem ky.mono {g g':Ctx}{w w':World}{st:p5}{br:Option Ex}{n:Nat}{R:Nat→T}{ps:List Nat}{bc body:C}{rec:Loop}(h:ky g w st br n R ps bc body rec)(le:Le g w g' w'):ky g' w' st br n R ps bc body rec:=by
 obtain⟨h1,h2,h3,h4,h5,h6,h7,h8⟩:=h
 exact⟨h1,h2,h3,h4,fun t ht=>(h5 t ht).mono le,h6,by rw[le.ck];exact h7,by rw[le.ck];exact h8⟩
theorem SR.wx {w0 w w':World}{g g':Ctx}{H H':aa}(h:SR w0 g H w)(lB:Nat→Prop){S:Nat→Nat→Prop}{M:Nat→Prop}(tr:Cd w w' S M)
  (BL:∀r j j0 b,r<w.heap.size→¬lB b→g.κ r j=.mut b∨g.κ r j=.spare b→w'.frozen? ⟨r,j0,none⟩=w.frozen? ⟨r,j0,none⟩) (le:Le g w g' w')
  (hS:∀r j,S r j→g.κ r j=.free∨(∃b,g.κ r j=.mut b∧lB b)∨∃b,g.κ r j=.spare b∧lB b) (hM:∀r,M r→∃b,g.κ r 0=.mut b∧lB b)
  (mX:∀r o,w'.heap.size≤r→g'.κ r o=.free) (xy:∀b x,g'.φ b=some x→b<H'.length) (qf:∀t e x,g'.π t e=some x→t<H'.length)
  (kφ:∀b,b<H.length→¬lB b→g'.φ b=g.φ b) (kκ:∀r j b,¬lB b→(g.κ r j=.mut b→g'.κ r j=.mut b)∧(g.κ r j=.spare b→g'.κ r j=.spare b))
  (kπ:∀t e,t<H.length→¬lB t→g'.π t e=g.π t e)
  (hb:∀b x,H'[b]?=some x→(¬lB b∧H[b]?=some x)∨lA g' w' b x):SR w0 g' H' w':=by
 have nS:∀r j,r<w0.heap.size→¬S r j:=by
  intro r j hr hs
  have:=h.o7 r j hr
  rcases hS r j hs with e|⟨b,e,_⟩|⟨b,e,_⟩<;>simp[this]at e
 have nM:∀r,r<w0.heap.size→¬M r:=by
  intro r hr hm
  have:=h.o7 r 0 hr
  obtain⟨b,e,_⟩:=hM r hm
  simp[this]at e
 refine⟨Nat.le_trans h.size tr.size,fun r hr=>?_,fun r o hr=>le.κ _ _ (h.o7 r o hr),mX,xy,qf,fun b x hx=>?_,tr.env.1.trans h.env.1,tr.env.2.trans h.env.2⟩
 ·rw[tr.eu r (Nat.lt_of_lt_of_le hr h.size) (nM r hr) (fun j=>nS r j hr)]
  exact h.eu r hr
 ·rcases hb b x hx with⟨nt,DI⟩|kz
  ·have aA:b<H.length:=(List.getElem?_eq_some_iff.1 DI).1
   have hk:=h.dv b x DI
   have Ce:∀r j,g.κ r j=.mut b∨g.κ r j=.spare b→¬S r j:=by
    intro r j hm hs
    rcases hS r j hs with e|⟨b',e,ht⟩|⟨b',e,ht⟩<;>rcases hm with hm|hm<;>simp[hm]at e
    ·exact nt (e▸ht)
    ·exact nt (e▸ht)
   cases x with
   | cells cs =>
    intro r o q hφ
    have dP:g.φ b=some (r,o,q):=by rw[←kφ b aA nt];exact hφ
    have hc:=hk r o q dP
    refine hc.mono le (fun j a c=>(kκ r j b nt).1 (hc.2.1 j a c).1) fun j a c=>?_
    have hh:=hc.2.1 j a c
    have hr:r<w.heap.size:=by
     cases hv:w.cell? ⟨r,j,none⟩with
     | none=>simp[hv]at hh
     | some v=>exact dN hv
    exact⟨fun j0=>BL r j j0 b hr nt (.inl hh.1),tr.cell r j hr (Ce r j (.inl hh.1))⟩
   | map es =>
    intro r o q hφ
    have dP:g.φ b=some (r,o,q):=by rw[←kφ b aA nt];exact hφ
    obtain⟨h1,af,c,h2,h3⟩:=hk r o q dP
    refine⟨(kκ r 0 b nt).1 h1,af,c,tr.maps r _ (fun hm=>?_) rfl h2,h3.1.mono le,h3.2⟩
    obtain⟨b',e,ht⟩:=hM r hm
    rw[h1]at e;cases e;exact nt ht
   | cr es ix bi cur =>
    obtain⟨r,o,q,hφ,h1,af,c,h2,h3,h4,ri,q',seen,h5,h6,h7,h8⟩:=hk
    refine⟨r,o,q,le.φ _ _ hφ,(kκ r 0 b nt).1 h1,af,c,tr.maps r _ (fun hm=>?_) rfl h2,h3.mono le,h4,ri,q',seen,le.φ _ _ h5,(kκ ri 0 b nt).1 h6,tr.maps ri _ (fun hm=>?_) rfl h7,h8⟩
    ·obtain⟨b',e,ht⟩:=hM r hm
     rw[h1]at e;cases e;exact nt ht
    ·obtain⟨b',e,ht⟩:=hM ri hm
     rw[h6]at e;cases e;exact nt ht
   | pV _=>trivial
   | lit cs =>
    obtain⟨r,q,hφ,h1,h2,c,ty,h3,h4,h5,h6⟩:=hk
    have hr:r<w.heap.size:=(Array.getElem?_eq_some_iff.1 h3).1
    have tQ:∀j,¬S r j:=by
     intro j hs
     by_cases hj:j=q
     ·subst hj;exact Ce r j (.inl h1) hs
     ·have:=h2 j hj
      rcases hS r j hs with e|⟨b',e,_⟩|⟨b',e,_⟩<;>simp[this]at e
    have Eu:¬M r:=by
     intro hm
     obtain⟨b',e,ht⟩:=hM r hm
     by_cases hj:0=q
     ·subst hj;rw[h1]at e;cases e;exact nt ht
     ·rw[h2 0 hj]at e;cases e
    exact⟨r,q,le.φ _ _ hφ,(kκ r q b nt).1 h1,fun j hj=>le.κ _ _ (h2 j hj),c,ty,by rw[tr.eu r hr Eu tQ];exact h3,h4,h5,fun i t hi=>let ⟨a,v,b1,b2⟩:=h6 i t hi;⟨a,v,b1,b2.mono le⟩⟩
   | fz cs =>
    intro r o q hφ
    exact(hk r o q (by rw[←kφ b aA nt];exact hφ)).mono le
   | tok e =>
    obtain⟨r,p,q,h1,h2,h3,h4⟩:=hk
    refine⟨r,p,q,le.π _ _ _ h1,h2,fun j a c=>?_,fun e' he=>by rw[kπ b e' aA nt];exact h4 e' he⟩
    have hh:=h3 j a c
    have hr:r<w.heap.size:=by
     cases hv:w.cell? ⟨r,j,none⟩with
     | none=>simp[hv]at hh
     | some v=>exact dN hv
    exact⟨(kκ r j b nt).2 hh.1,fun j0=>by rw[BL r j j0 b hr nt (.inr hh.1)];exact hh.2.1 j0,by rw[tr.cell r j hr (Ce r j (.inr hh.1))];exact hh.2.2⟩
   | loop st br n R ps bc body =>
    intro r o q hφ
    have dP:g.φ b=some (r,o,q):=by rw[←kφ b aA nt];exact hφ
    obtain⟨h1,rec,h2,h3⟩:=hk r o q dP
    refine⟨(kκ r 0 b nt).1 h1,rec,tr.maps r _ (fun hm=>?_) rfl h2,h3.mono le⟩
    obtain⟨b',e,ht⟩:=hM r hm
    rw[h1]at e;cases e;exact nt ht
   | lr =>
    intro r o q hφ
    have dP:g.φ b=some (r,o,q):=by rw[←kφ b aA nt];exact hφ
    obtain⟨h1,h2⟩:=hk r o q dP
    refine⟨(kκ r 0 b nt).1 h1,tr.maps r _ (fun hm=>?_) rfl h2⟩
    obtain⟨b',e,ht⟩:=hM r hm
    rw[h1]at e;cases e;exact nt ht
   | dead=>trivial
  ·exact kz
theorem SR.step {w0 w w':World}{g g':Ctx}{H H':aa}(h:SR w0 g H w)(lB:Nat→Prop){S:Nat→Nat→Prop}{M:Nat→Prop}(tr:Tr w w' S M)(le:Le g w g' w')
  (hS:∀r j,S r j→g.κ r j=.free∨(∃b,g.κ r j=.mut b∧lB b)∨∃b,g.κ r j=.spare b∧lB b) (hM:∀r,M r→∃b,g.κ r 0=.mut b∧lB b)
  (mX:∀r o,w'.heap.size≤r→g'.κ r o=.free) (xy:∀b x,g'.φ b=some x→b<H'.length) (qf:∀t e x,g'.π t e=some x→t<H'.length)
  (kφ:∀b,b<H.length→¬lB b→g'.φ b=g.φ b) (kκ:∀r j b,¬lB b→(g.κ r j=.mut b→g'.κ r j=.mut b)∧(g.κ r j=.spare b→g'.κ r j=.spare b))
  (kπ:∀t e,t<H.length→¬lB t→g'.π t e=g.π t e)
  (hb:∀b x,H'[b]?=some x→(¬lB b∧H[b]?=some x)∨lA g' w' b x):SR w0 g' H' w' :=
 h.wx lB ⟨tr.size,tr.cell,tr.ey,tr.maps,tr.eu,tr.env⟩ (fun r _ j0 _ hr _ _=>tr.nU r j0 hr) le hS hM mX xy qf kφ kκ kπ hb
def Fr (g:Ctx)(H:aa)(g':Ctx)(H':aa):Prop :=
 H.length≤H'.length∧∀b x,H[b]?=some x→(∀e,x≠.tok e)→g.φ b=none→H'[b]?=some x∧g'.φ b=none
theorem Fr.refl (g:Ctx)(H:aa):Fr g H g H:=⟨Nat.le_refl _,fun _ _ h _ k=>⟨h,k⟩⟩
theorem Fr.trans {g g' zA:Ctx}{H H' zD:aa}(h:Fr g H g' H')(h':Fr g' H' zA zD):Fr g H zA zD :=
 ⟨Nat.le_trans h.1 h'.1,fun b x a c d=>let ⟨e,f⟩:=h.2 b x a c d;h'.2 b x e c f⟩
def aG (P:Program)(w0:World)(g:Ctx)(H:aa)(w:World)(s:Sem Value)(t:T)(H':aa):Prop :=
 ∃v w' g',s.run P w=.ok v w'∧Le g w g' w'∧SR w0 g' H' w'∧VR g' w' t v∧Fr g H g' H'
theorem aG.same {P:Program}{w0:World}{g:Ctx}{H:aa}{w:World}{s:Sem Value}{t:T}{v:Value}(h:SR w0 g H w)(hr:s.run P w=.ok v w)(hv:VR g w t v):aG P w0 g H w s t H :=
 ⟨v,w,g,hr,.refl _ _,h,hv,.refl _ _⟩
def ax (g:Ctx)(w:World)(ts:List T)(vs:List Value):Prop:=ts.length=vs.length∧∀(i:Nat) (t:T) (v:Value),ts[i]?=some t→vs[i]?=some v→VR g w t v
theorem ax.mono {g g':Ctx}{w w':World}(le:Le g w g' w'){ts:List T}{vs:List Value}(h:ax g w ts vs):ax g' w' ts vs:=⟨h.1,fun i t v a b=>(h.2 i t v a b).mono le⟩
theorem ax.nil {g:Ctx}{w:World}:ax g w [] []:=⟨rfl,fun i t v h=>by simp at h⟩
theorem ax.cons {g:Ctx}{w:World}{t:T}{v:Value}{ts:List T}{vs:List Value}(h:VR g w t v)(hs:ax g w ts vs):ax g w (t :: ts) (v :: vs) :=
 ⟨by simp[hs.1],fun i a b ha hb=>by
  cases i with
  | zero=>simp at ha hb;subst ha;subst hb;exact h
  | succ i=>exact hs.2 i a b (by simpa using ha) (by simpa using hb)⟩
theorem ax.head {g:Ctx}{w:World}{t:T}{v:Value}{ts:List T}{vs:List Value}(h:ax g w (t :: ts) (v :: vs)):VR g w t v:=h.2 0 t v rfl rfl
theorem ax.tail {g:Ctx}{w:World}{t:T}{v:Value}{ts:List T}{vs:List Value}(h:ax g w (t :: ts) (v :: vs)):ax g w ts vs :=
 ⟨by have:=h.1;simpa using this,fun i a b ha hb=>h.2 (i+1) a b (by simpa using ha) (by simpa using hb)⟩
theorem ax.append {g:Ctx}{w:World}{ts xz:List T}{vs zb:List Value}(h:ax g w ts vs)(h':ax g w xz zb):ax g w (ts++xz) (vs++zb):=by
 refine⟨by simp[h.1,h'.1],fun i t v ha hb=>?_⟩
 rw[List.getElem?_append]at ha hb
 rw[←h.1]at hb
 split at ha
 ·rename_i hi;rw[if_pos hi]at hb;exact h.2 i t v ha hb
 ·rename_i hi;rw[if_neg hi]at hb;exact h'.2 _ t v ha hb
theorem ax.take {g:Ctx}{w:World}{ts:List T}{vs:List Value}(n:Nat)(h:ax g w ts vs):ax g w (ts.take n) (vs.take n) :=
 ⟨by simp[h.1],fun i t v ha hb=>by
  rw[List.getElem?_take]at ha hb
  split at ha
  ·rename_i hi;rw[if_pos hi]at hb;exact h.2 i t v ha hb
  ·simp at ha⟩
theorem ax.drop {g:Ctx}{w:World}{ts:List T}{vs:List Value}(n:Nat)(h:ax g w ts vs):ax g w (ts.drop n) (vs.drop n) :=
 ⟨by simp[h.1],fun i t v ha hb=>by
  rw[List.getElem?_drop]at ha hb
  exact h.2 _ t v ha hb⟩
def aS (cs:List T):Prop:=∀t∈cs,t.one=true
theorem ax.dp {g:Ctx}{w:World}{ts:List T}{vs:List Value}(h:ax g w ts vs)(ho:aS ts):∀v∈vs,v.oneCell'=true:=by
 intro v hv
 obtain⟨i,hi,rfl⟩:=List.getElem_of_mem hv
 have gh:i<ts.length:=by rw[h.1];exact hi
 exact(h.2 i ts[i] vs[i] (List.getElem?_eq_getElem gh) (List.getElem?_eq_getElem hi)).dp (ho _ (List.getElem_mem gh))
theorem a6 (r o j:Nat):(⟨r,o,none⟩:Addr).add j=⟨r,o+j,none⟩:=by
 unfold Addr.add;split<;>simp_all
theorem ij {w:World}{r o:Nat}:∀(n:Nat) (f:Nat→Value),(∀j,j<n→w.cell? ⟨r,o+j,none⟩=some (f j))→∀(j:Nat) (v:Value),((List.range n).map f)[j]?=some v→w.cell? ⟨r,o+j,none⟩=some v:=by
 intro n f h j v hv
 have hj:j<n:=by
  have:=(List.getElem?_eq_some_iff.1 hv).1
  simpa using this
 rw[h j hj]
 simp[hj]at hv
 rw[hv]
theorem fp {w0 w:World}{g:Ctx}{H:aa}{n:Nat}{p:T}{vp:Value}{cs:List T}(h:SR w0 g H w)(hv:VR g w p vp)(he:gM H n p=some cs) :
  ∃r o vs,vp=.pointer (some ⟨r,o,none⟩)∧vs.length=n∧(∀(j:Nat) (v:Value),vs[j]?=some v→w.cell? ⟨r,o+j,none⟩=some v)∧ax g w cs vs∧aS cs:=by
 cases hv with
 | @ptr b off r o q hφ =>
  have main:∀mM:List T,(∀(i:Nat) (t:T),mM[i]?=some t→t.one=true∧∃v,w.cell? ⟨r,o+i,none⟩=some v∧VR g w t v)→(if off+n≤mM.length then some ((mM.drop off).take n)else none)=some cs →
    ∃r' o' vs,(Value.pointer (some ⟨r,o+off,none⟩))=.pointer (some ⟨r',o',none⟩)∧vs.length=n∧(∀(j:Nat) (v:Value),vs[j]?=some v→w.cell? ⟨r',o'+j,none⟩=some v)∧ax g w cs vs∧aS cs:=by
   intro mM h3 he
   split at he
   ·rename_i hle
    simp at he
    subst he
    have key:∀j,j<n→∃t v,mM[off+j]?=some t∧t.one=true∧w.cell? ⟨r,o+off+j,none⟩=some v∧VR g w t v:=by
     intro j hj
     have aA:off+j<mM.length:=by omega
     obtain⟨a,v,b',c⟩:=h3 (off+j) mM[off+j] (List.getElem?_eq_getElem aA)
     exact⟨_,v,List.getElem?_eq_getElem aA,a,by rw[Nat.add_assoc];exact b',c⟩
    refine⟨r,o+off,(List.range n).map (fun j=>(w.cell? ⟨r,o+off+j,none⟩).getD undef),rfl,by simp,ij n _ (fun j hj=>?_),⟨by simp;omega,fun i t v ha cV=>?_⟩,fun t ht=>?_⟩
    ·obtain⟨t,v,_,_,e,_⟩:=key j hj
     simp[e]
    ·have hi:i<n:=by
      have:=(List.getElem?_eq_some_iff.1 cV).1
      simpa using this
     obtain⟨t',v',e1,e2,e3,e4⟩:=key i hi
     simp[hi]at cV
     rw[e3]at cV;simp at cV
     rw[List.getElem?_take,if_pos hi,List.getElem?_drop,e1]at ha
     simp at ha
     subst ha;subst cV;exact e4
    ·obtain⟨i,hi,rfl⟩:=List.getElem_of_mem ht
     simp at hi
     obtain⟨t',v',e1,e2,_,_⟩:=key i (by omega)
     have Ev:=(List.getElem?_eq_some_iff.1 e1).2
     simp[Ev,e2]
   ·simp at he
  simp only[gM]at he
  cases hb:H[b]? with
  | none=>simp[hb]at he
  | some x =>
   cases x with
   | cells mM =>
    simp only[hb]at he
    exact main mM (h.dv b _ hb r o q hφ).2.2 he
   | fz mM =>
    simp only[hb]at he
    exact main mM (fun i t hi=>let ⟨a,v,b',c⟩:=(h.dv b _ hb r o q hφ).2 i t hi;⟨a,v,b'.2,c⟩) he
   | map _=>simp[hb]at he
   | tok _=>simp[hb]at he
   | _=>simp[hb]at he
 | @cq mM r o a0 h1 h2 =>
  simp only[gM]at he
  split at he
  ·rename_i hle
   simp at he
   subst he
   have get:∀i,i<n→∃t,mM[i]?=some t:=fun i hi=>⟨mM[i]'(by omega),List.getElem?_eq_getElem _⟩
   refine⟨r,o,(List.range n).map a0,rfl,by simp,ij n _ (fun j hj=>?_),⟨by simp;omega,fun i t v ha hb=>?_⟩,fun t ht=>?_⟩
   ·obtain⟨t,e⟩:=get j hj
    exact(h1 j t e).2.2
   ·have hi:i<n:=by
     have:=(List.getElem?_eq_some_iff.1 hb).1
     simpa using this
    simp[hi]at hb
    rw[List.getElem?_take,if_pos hi]at ha
    rw[←hb];exact h2 i t ha
   ·obtain⟨i,hi,rfl⟩:=List.getElem_of_mem ht
    simp at hi
    have:mM[i]?=some mM[i]:=List.getElem?_eq_getElem _
    simp
    exact(h1 i _ this).1
  ·simp at he
 | _=>simp[gM]at he
theorem ax.agg {g:Ctx}{w:World}{cs:List T}{vs:List Value}(h:ax g w cs vs)(ho:aS cs):VR g w (.agg cs) (.agg vs.toArray) :=
 .agg (by simp[h.1]) ho (fun i t v ha hb=>h.2 i t v ha (by simpa using hb))
theorem ax.bl {g:Ctx}{w:World}{cs:List T}{vs:List Value}(h:ax g w cs vs):VR g w (.bl cs) (.tuple vs.toArray) :=
 .bl (by simp[h.1]) (fun i t v ha hb=>h.2 i t v ha (by simpa using hb))
theorem VR.cj {g:Ctx}{w:World}{cs:List T}{v:Value}(h:VR g w (.agg cs) v):∃vs:List Value,v=.agg vs.toArray∧ax g w cs vs∧aS cs:=by
 cases h with
 | @agg _ vs hl h1 h2=>exact⟨vs.toList,by simp,⟨by simp[hl],fun i t v ha hb=>h2 i t v ha (by simpa using hb)⟩,h1⟩
theorem VR.uj {g:Ctx}{w:World}{cs:List T}{v:Value}(h:VR g w (.bl cs) v):∃vs:List Value,v=.tuple vs.toArray∧ax g w cs vs:=by
 cases h with
 | @bl _ vs hl h2=>exact⟨vs.toList,by simp,⟨by simp[hl],fun i t v ha hb=>h2 i t v ha (by simpa using hb)⟩⟩
theorem dC {g:Ctx}{w:World}{t:T}{v:Value}{cs:List T}(h:VR g w t v)(hc:t.cells?=some cs):ax g w cs v.cells.toList∧aS cs:=by
 by_cases ha:∃c,t=.agg c
 ·obtain⟨c,rfl⟩:=ha
  simp[T.cells?]at hc;subst hc
  obtain⟨vs,rfl,h1,h2⟩:=h.cj
  exact⟨by simpa[Value.cells]using h1,h2⟩
 ·by_cases ht:∃c,t=.bl c
  ·obtain⟨c,rfl⟩:=ht;simp[T.cells?]at hc
  ·have e:cs=[t]:=by cases t<;>simp_all [T.cells?]
   have o:t.one=true:=by cases t<;>simp_all [T.one]
   have ev:v.cells=#[v]:=by
    have:=h.dp o
    cases v<;>simp_all [Value.cells,Value.oneCell']
   subst e
   rw[ev]
   exact⟨ax.cons h ax.nil,by simpa[aS]using o⟩
theorem ik {g:Ctx}{w:World}{cs:List T}{vs:List Value}{ag:Bool}{t:T}(h:ax g w cs vs)(ho:aS cs)(hv:valOf ag cs=some t) :
  (ag=true→VR g w t (.agg vs.toArray))∧(ag=false→∃v,vs=[v]∧VR g w t v):=by
 cases ag with
 | true=>simp[valOf]at hv;subst hv;exact⟨fun _=>h.agg ho,by simp⟩
 | false =>
  refine⟨by simp,fun _=>?_⟩
  cases cs with
  | nil=>simp[valOf]at hv
  | cons c cs =>
   cases cs with
   | nil =>
    simp[valOf]at hv;subst hv
    cases vs with
    | nil=>have:=h.1;simp at this
    | cons v vs =>
     cases vs with
     | nil=>exact⟨v,rfl,h.head⟩
     | cons _ _=>have:=h.1;simp at this
   | cons _ _=>simp[valOf]at hv
theorem al {P:Program}{w:World}{t:TypeId}{i:TypeInfo}(h:P.info? t=some i):(typeInfo t).run P w=.ok i w:=by
 simp[typeInfo,h]
def bz:TypeDesc→Bool
 | .struct _ | .array _ _=>true
 | _=>false
theorem bM {P:Program}{t:TypeId}{d:TypeDesc}(h:P.underlying t=some d)(w:World):(isAgg t).run P w=.ok (bz d) w:=by
 simp only[isAgg,Sem.run_bind,run_underlying h,Result.andThen_ok]
 cases d<;>rfl
theorem xA {P:Program}{w0 w:World}{g:Ctx}{H:aa}{n:Nat}{ag:Bool}{p t:T}{vp:Value}{cs:List T}{ty:TypeId}{d:TypeDesc}{i:TypeInfo}
  (hd:P.underlying ty=some d) (hi:P.info? ty=some i) (mY:bz d=ag) (hn:ag=true→i.size=n)
  (h:SR w0 g H w) (hv:VR g w p vp) (he:gM H n p=some cs) (ht:valOf ag cs=some t):aG P w0 g H w (Instr.loadAt ty vp) t H:=by
 obtain⟨r,o,vs,rfl,h1,h2,h3,h4⟩:=fp h hv he
 obtain⟨ha,hb⟩:=ik h3 h4 ht
 cases ag with
 | true =>
  refine aG.same h (v:=.agg vs.toArray) ?_ (ha rfl)
  have:=run_loadCells_list (P:=P) w ⟨r,o,none⟩ vs (fun j v hj=>by rw[a6];exact h2 j v hj)
  simp[Instr.loadAt,Instr.sureAddr,loadVar,bM hd,mY,sizeOf,al hi,hn rfl,←h1,this]
 | false =>
  obtain⟨v,rfl,bQ⟩:=hb rfl
  refine aG.same h (v:=v) ?_ bQ
  have:=h2 0 v rfl
  simp at this
  simp[Instr.loadAt,Instr.sureAddr,loadVar,bM hd,mY,run_load,this]
theorem uk {P:Program}{w0 w:World}{g:Ctx}{H:aa}{n:Nat}{ag:Bool}{p t:T}{vp:Value}{cs:List T}{ty:TypeId}{d:TypeDesc}{i:TypeInfo}
  (hd:P.underlying ty=some d) (hi:P.info? ty=some i) (mY:bz d=ag) (hn:ag=true→i.size=n)
  (h:SR w0 g H w) (hv:VR g w p vp) (he:gM H n p=some cs) (ht:valOf ag cs=some t):∃v w' g',(Instr.loadAt ty vp).run P w=.ok v w'∧w'=w∧VR g' w t v∧g'=g:=by
 obtain⟨r,o,vs,rfl,h1,h2,h3,h4⟩:=fp h hv he
 obtain⟨ha,hb⟩:=ik h3 h4 ht
 cases ag with
 | true =>
  refine⟨.agg vs.toArray,w,g,?_,rfl,ha rfl,rfl⟩
  have:=run_loadCells_list (P:=P) w ⟨r,o,none⟩ vs (fun j v hj=>by rw[a6];exact h2 j v hj)
  simp[Instr.loadAt,Instr.sureAddr,loadVar,bM hd,mY,sizeOf,al hi,hn rfl,←h1,this]
 | false =>
  obtain⟨v,rfl,bQ⟩:=hb rfl
  refine⟨v,w,g,?_,rfl,bQ,rfl⟩
  have:=h2 0 v rfl
  simp at this
  simp[Instr.loadAt,Instr.sureAddr,loadVar,bM hd,mY,run_load,this]
section
variable {P:Program} {w:World} {op:BinOp} {ty:TypeId} {x y:Operand}
theorem jx {k k':IntKind}{a b:Int}:(eqGuard op ty x y (.int k a) (.int k' b)).run P w=.ok () w:=by cases op<;>rfl
theorem jy {a b:ByteArray}:(eqGuard op ty x y (.string a) (.string b)).run P w=.ok () w:=by cases op<;>rfl
theorem dQ {a b:Bool}:(eqGuard op ty x y (.bool a) (.bool b)).run P w=.ok () w:=by cases op<;>rfl
theorem o8 {a b:Option Addr}:(eqGuard op ty x y (.pointer a) (.pointer b)).run P w=.ok () w:=by cases op<;>rfl
theorem lC {a b:Option Addr}{c d e f:Nat}:(eqGuard op ty x y (.slice a c d) (.slice b e f)).run P w=.ok () w:=by cases op<;>rfl
theorem o9 {a b:Option Nat}:(eqGuard op ty x y (.map a) (.map b)).run P w=.ok () w:=by cases op<;>rfl
theorem qg {f:Go.Fn}{a b:Array Value}:(eqGuard op ty x y (.func f a b) .nilFunc).run P w=.ok () w:=by cases op<;>rfl
theorem qh {f:Go.Fn}{a b:Array Value}:(eqGuard op ty x y .nilFunc (.func f a b)).run P w=.ok () w:=by cases op<;>rfl
theorem qi:(eqGuard op ty x y .nilFunc .nilFunc).run P w=.ok () w:=by cases op<;>rfl
end
section
variable {P:Program} {w:World} {ty:TypeId}
theorem jz (n:Nat)(h:P.underlying ty=some .bool)(a b:Bool):(Op.equalIn (n+1) ty (.bool a) (.bool b)).run P w=.ok (a==b) w:=by
 rw[Op.equalIn];simp only[Sem.run_bind,run_underlying h,Result.andThen_ok];rfl
theorem qj (n:Nat){k:IntKind}(h:P.underlying ty=some (.int k))(a b:Int)(k':IntKind):(Op.equalIn (n+1) ty (.int k' a) (.int k' b)).run P w=.ok (a==b) w:=by
 rw[Op.equalIn];simp only[Sem.run_bind,run_underlying h,Result.andThen_ok];simp
theorem qk (n:Nat)(h:P.underlying ty=some .string)(a b:ByteArray):(Op.equalIn (n+1) ty (.string a) (.string b)).run P w=.ok (a==b) w:=by
 rw[Op.equalIn];simp only[Sem.run_bind,run_underlying h,Result.andThen_ok];rfl
theorem cy {x y:Value}{b:Bool}(h:∀n,(Op.equalIn (n+1) ty x y).run P w=.ok b w):(Op.equal ty x y).run P w=.ok b w:=h 9999
theorem il (h:P.underlying ty=some .bool)(a b:Bool):(Op.equal ty (.bool a) (.bool b)).run P w=.ok (a==b) w:=cy fun n=>jz n h a b
end
theorem um {P:Program}{w0 w:World}{g:Ctx}{H:aa}{op:BinOp}{x y t:T}{vx vy:Value}{ty:TypeId}{ox oy:Operand}
  (h:SR w0 g H w) (hx:VR g w x vx) (hy:VR g w y vy) (he:aM op x y=some t):aG P w0 g H w (do eqGuard op ty ox oy vx vy;binOp op ty vx vy) t H:=by
 cases hx<;>cases hy<;>(try (simp[aM]at he;done))
 case int.int k a k' b =>
  have key:∃v,(binOp op ty (.int k a) (.int k' b)).run P w=.ok v w∧VR g w t v:=by
   cases op<;>simp only[aM]at he<;>(repeat' (split at he))<;>(try (simp at he;done)) <;>
    (simp at he;subst he;first
     | (refine⟨_,?_,.int _ _⟩;simp_all [binOp,Op.shift,Op.intArith,Op.intDiv,Op.intBits,Op.intCmp];done)
     | (refine⟨_,?_,.int _ _⟩;rename_i hs;simp only[binOp,Op.shift,if_neg hs,Sem.run_pure];done)
     | (refine⟨_,?_,.bool _⟩;simp_all [binOp,Op.shift,Op.intArith,Op.intDiv,Op.intBits,Op.intCmp];done))
  obtain⟨v,hr,hv⟩:=key
  refine aG.same h (v:=v) ?_ hv
  simp[jx,jy,dQ,hr]
 case str.str a b =>
  have key:∃v,(binOp op ty (.string a) (.string b)).run P w=.ok v w∧VR g w t v:=by
   cases op<;>simp only[aM]at he<;>(repeat' (split at he))<;>(try (simp at he;done)) <;>
    (simp at he;subst he;first
     | (refine⟨_,?_,.str _⟩;rename_i hs;simp[binOp,Op.stringOp,IntKind.max,IntKind.signed,IntKind.bits];omega)
     | (refine⟨_,?_,.bool _⟩;simp[binOp,Op.stringOp,dj,strLt];done))
  obtain⟨v,hr,hv⟩:=key
  refine aG.same h (v:=v) ?_ hv
  simp[jx,jy,dQ,hr]
theorem uo {P:Program}{w0 w:World}{g:Ctx}{H:aa}{neg:Bool}{a b:Bool}{vx vy:Value}{ty:TypeId}{ox oy:Operand}(hu:P.underlying ty=some .bool)
  (h:SR w0 g H w) (hx:VR g w (.bool a) vx) (hy:VR g w (.bool b) vy) :
  aG P w0 g H w (do eqGuard (if neg then .neq else .eql) ty ox oy vx vy;binOp (if neg then .neq else .eql) ty vx vy) (.bool (if neg then !(a==b)else a==b)) H:=by
 cases hx;cases hy
 cases neg
 ·refine aG.same h (v:=.bool (a==b)) ?_ (.bool _)
  simp only[Bool.false_eq_true,if_false,Sem.run_bind,dQ,Result.andThen_ok,binOp,il hu,Sem.run_pure]
 ·refine aG.same h (v:=.bool (!(a==b))) ?_ (.bool _)
  simp only[if_true,Sem.run_bind,dQ,Result.andThen_ok,binOp,il hu,Sem.run_pure]
def ql:uc→TypeDesc→Bool
 | .ptr,.pointer _ | .slice,.slice _ | .map,.map _ _ | .func,.func _ _ _=>true
 | _,_=>false
theorem lD {g:Ctx}{w:World}{c:uc}{x:T}{vx:Value}{b:Bool}(hx:VR g w x vx)(h:lu c x=some b) :
  match c with
  | .ptr=>∃a:Option Addr,vx=.pointer a∧a.isNone=b
  | .slice=>∃(a:Option Addr) (l p:Nat),vx=.slice a l p∧a.isNone=b
  | .map=>∃r:Option Nat,vx=.map r∧r.isNone=b
  | .func=>(b=true∧vx=.nilFunc)∨(b=false∧∃f vs,vx=.func f #[] vs):=by
 cases c<;>cases hx<;>first
  | (change (none:Option Bool)=some b at h;simp at h;done)
  | (change some true=some b at h;simp at h;subst h;simp;done)
  | (change some false=some b at h;simp at h;subst h;simp;done)
  | skip
 case slice.sl k es r o cap n a0 hk hc hn h1 h2 =>
  have hb:b=false:=by
   cases k
   ·exact hk.elim
   ·cases es with
    | nil=>change (none:Option Bool)=some b at h;simp at h
    | cons _ _=>change some false=some b at h;simpa using h.symm
   ·change some false=some b at h;simpa using h.symm
   ·change some false=some b at h;simpa using h.symm
  subst hb
  exact⟨_,_,_,rfl,rfl⟩
theorem uq {P:Program}{w0 w:World}{g:Ctx}{H:aa}{neg:Bool}{c:uc}{x y:T}{b:Bool}{vx vy:Value}{ty:TypeId}{ox oy:Operand}{d:TypeDesc}
  (hu:P.underlying ty=some d) (hc:ql c d=true)
  (h:SR w0 g H w) (hx:VR g w x vx) (hy:VR g w y vy) (he:p6 c x y=some b) :
  aG P w0 g H w (do eqGuard (if neg then .neq else .eql) ty ox oy vx vy;binOp (if neg then .neq else .eql) ty vx vy) (.bool (if neg then !b else b)) H:=by
 have key:(∀op,(eqGuard op ty ox oy vx vy).run P w=.ok () w)∧(Op.equal ty vx vy).run P w=.ok b w∧∀neg:Bool,(binOp (if neg then .neq else .eql) ty vx vy).run P w=((Op.equal ty vx vy).run P w).andThen fun b w'=>.ok (.bool (if neg then !b else b)) w':=by
  unfold p6 at he
  cases xB:lu c x with
  | none=>simp[xB]at he
  | some bx =>
   cases DJ:lu c y with
   | none=>cases bx<;>simp[xB,DJ]at he
   | some bY =>
    have e:b=(bx&&bY)∧(bx=true∨bY=true):=by
     cases bx<;>cases bY<;>simp_all
    obtain⟨rfl,Ew⟩:=e
    have h1:=lD hx xB
    have h2:=lD hy DJ
    cases c with
    | ptr =>
     obtain⟨a,rfl,rfl⟩:=h1
     obtain⟨a',rfl,rfl⟩:=h2
     cases d<;>simp[ql]at hc
     refine⟨fun op=>o8,cy fun n=>?_,fun neg=>by cases neg<;>simp[binOp]⟩
     rw[Op.equalIn];simp only[Sem.run_bind,run_underlying hu,Result.andThen_ok]
     cases a<;>cases a'<;>simp_all
    | slice =>
     obtain⟨a,l,p,rfl,rfl⟩:=h1
     obtain⟨a',l',p',rfl,rfl⟩:=h2
     cases d<;>simp[ql]at hc
     refine⟨fun op=>lC,cy fun n=>?_,fun neg=>by cases neg<;>simp[binOp]⟩
     rw[Op.equalIn];simp only[Sem.run_bind,run_underlying hu,Result.andThen_ok]
     cases a<;>cases a'<;>simp_all
    | map =>
     obtain⟨a,rfl,rfl⟩:=h1
     obtain⟨a',rfl,rfl⟩:=h2
     cases d<;>simp[ql]at hc
     refine⟨fun op=>o9,cy fun n=>?_,fun neg=>by cases neg<;>simp[binOp]⟩
     rw[Op.equalIn];simp only[Sem.run_bind,run_underlying hu,Result.andThen_ok]
     cases a<;>cases a'<;>simp_all
    | func =>
     cases d<;>simp[ql]at hc
     rcases h1 with⟨rfl,rfl⟩|⟨rfl,f,vs,rfl⟩<;>rcases h2 with⟨rfl,rfl⟩|⟨rfl,f',zb,rfl⟩
     ·refine⟨fun op=>qi,cy fun n=>?_,fun neg=>by cases neg<;>simp[binOp]⟩
      rw[Op.equalIn];simp[run_underlying hu]
     ·refine⟨fun op=>qh,cy fun n=>?_,fun neg=>by cases neg<;>simp[binOp]⟩
      rw[Op.equalIn];simp[run_underlying hu]
     ·refine⟨fun op=>qg,cy fun n=>?_,fun neg=>by cases neg<;>simp[binOp]⟩
      rw[Op.equalIn];simp[run_underlying hu]
     ·simp at Ew
 obtain⟨k1,k2,k3⟩:=key
 refine aG.same h (v:=.bool (if neg then !b else b)) ?_ (.bool _)
 simp only[Sem.run_bind,k1,Result.andThen_ok,k3,k2]
section
variable {P:Program} {w0 w:World} {g:Ctx} {H:aa}
def tR:kZ→TypeDesc→Bool
 | .int,.int _ | .str,.string | .bool,.bool=>true
 | _,_=>false
def flat (P:Program):List Field→Nat→List kZ→Bool
 | [],_,[]=>true
 | f :: fs,off,k :: ks=>f.offset==off&&f.name != "_"&&(match P.underlying f.type with | some d=>tR k d | none=>false)&&flat P fs (off+1) ks
 | _,_,_=>false
theorem nV {n:Nat}{ty:TypeId}{d:TypeDesc}{k:kZ}(hu:P.underlying ty=some d)(hk:tR k d=true){a b:T}{va vb:Value}{r:Bool}(ha:VR g w a va)(hb:VR g w b vb)(h1:a.mR k=true)(he:du a b=some r) :
  (Op.equalIn (n+1) ty va vb).run P w=.ok r w:=by
 cases k<;>cases d<;>simp[tR]at hk<;>cases ha<;>simp[T.mR]at h1<;>cases hb<;>simp[du]at he
 ·obtain⟨rfl,rfl⟩:=he
  rw[qj n hu]
 ·subst he
  rw[qk n hu,beq_toListBytes];rfl
 ·subst he
  rw[jz n hu]
theorem gk {ty:TypeId}{d:TypeDesc}{k:kZ}(hu:P.underlying ty=some d)(hk:tR k d=true){xs:Array Value}{off:Nat}{v:Value}(h:xs[off]?=some v):(part ty xs off).run P w=.ok v w:=by
 have:bz d=false:=by cases k<;>cases d<;>simp_all [tR,bz]
 simp[part,bM hu,this,h]
theorem gN {n:Nat}:∀(fs:List Field) (off:Nat) (ks:List kZ) (cs ds:List T) (xs ys:Array Value) (r:Bool),flat P fs off ks=true→hasAll ks cs=true →
  (∀(i:Nat) (t:T),cs[i]?=some t→∃v,xs[off+i]?=some v∧VR g w t v)→(∀(i:Nat) (t:T),ds[i]?=some t→∃v,ys[off+i]?=some v∧VR g w t v)→aH cs ds=some r →
  (Op.eqFields (n+1) xs ys fs).run P w=.ok r w
 | [],off,ks,cs,ds,xs,ys,r,hf,hk,hc,hd,he=>by
  cases ks with
  | nil =>
   cases cs with
   | nil=>cases ds<;>simp[aH]at he;subst he;rfl
   | cons _ _=>simp[hasAll]at hk
  | cons _ _=>simp[flat]at hf
 | f :: fs,off,ks,cs,ds,xs,ys,r,hf,hk,hc,hd,he=>by
  cases ks with
  | nil=>simp[flat]at hf
  | cons k ks =>
   cases cs with
   | nil=>simp[hasAll]at hk
   | cons c cs =>
    cases ds with
    | nil=>simp[aH]at he
    | cons d ds =>
     simp only[flat,Bool.and_eq_true,beq_iff_eq,bne_iff_ne]at hf
     obtain⟨⟨⟨pa,qm⟩,tT⟩,bP⟩:=hf
     simp only[hasAll,Bool.and_eq_true]at hk
     cases hu:P.underlying f.type with
     | none=>simp[hu]at tT
     | some de =>
      simp[hu]at tT
      obtain⟨va,zE,DK⟩:=hc 0 c rfl
      obtain⟨vb,jA,xC⟩:=hd 0 d rfl
      simp only[Nat.add_zero]at zE jA
      simp only[aH]at he
      cases e1:du c d with
      | none=>simp[e1]at he
      | some r1 =>
       cases e2:aH cs ds with
       | none=>simp[e1,e2]at he
       | some r2 =>
        simp[e1,e2]at he;subst he
        have ih:=gN (n:=n) fs (off+1) ks cs ds xs ys r2 bP hk.2 (fun i t hi=>by have:=hc (i+1) t (by simpa using hi);rwa[show off+1+i=off+(i+1) by omega])
         (fun i t hi=>by have:=hd (i+1) t (by simpa using hi);rwa[show off+1+i=off+(i+1) by omega]) e2
        simp only[Op.eqFields,qm,ne_eq,not_false_eq_true,if_true,Sem.run_bind,pa,gk hu tT zE,gk hu tT jA,Result.andThen_ok,nV hu tT DK xC hk.1 e1]
        cases r1
        ·simp
        ·simp[ih]
theorem ax.cm {ts:List T}{vs:List Value}(h:ax g w ts vs)(i:Nat)(t:T)(hi:ts[i]?=some t):∃v,vs.toArray[i]?=some v∧VR g w t v:=by
 have aA:i<vs.length:=by rw[←h.1];exact(List.getElem?_eq_some_iff.1 hi).1
 exact⟨vs[i],by simp[aA],h.2 i t _ hi (List.getElem?_eq_getElem aA)⟩
theorem jB {ty:TypeId}{fs:Array Field}{ks:List kZ}(hu:P.underlying ty=some (.struct fs))(hf:flat P fs.toList 0 ks=true)(hp:P.stoodInHeld ty=false){cs ds:List T}{xs ys:List Value}{r:Bool}
  (hk:hasAll ks cs=true) (hx:ax g w cs xs) (hy:ax g w ds ys) (he:aH cs ds=some r) (n:Nat):(Op.equalIn (n+1+1) ty (.agg xs.toArray) (.agg ys.toArray)).run P w=.ok r w:=by
 have zd:P.fieldsOf ty=fs:=by simp[Program.fieldsOf,hu]
 rw[run_equalIn_struct w (n+1) ty _ _ (by rw[zd];exact hu) hp,zd]
 exact gN _ 0 ks cs ds _ _ r hf hk (fun i t hi=>by simpa using hx.cm i t hi) (fun i t hi=>by simpa using hy.cm i t hi) he
theorem ur {neg:Bool}{ks:List kZ}{cs ds:List T}{r:Bool}{vx vy:Value}{ty:TypeId}{ox oy:Operand}{fs:Array Field}
  (hu:P.underlying ty=some (.struct fs)) (hf:flat P fs.toList 0 ks=true) (hp:P.stoodInHeld ty=false) (hg:P.eqGuardType P.depth ty=false)
  (h:SR w0 g H w) (hx:VR g w (.agg cs) vx) (hy:VR g w (.agg ds) vy) (hk:hasAll ks cs=true) (he:aH cs ds=some r) :
  aG P w0 g H w (do eqGuard (if neg then .neq else .eql) ty ox oy vx vy;binOp (if neg then .neq else .eql) ty vx vy) (.bool (if neg then !r else r)) H:=by
 obtain⟨xs,rfl,tU,_⟩:=hx.cj
 obtain⟨ys,rfl,Cf,_⟩:=hy.cj
 have e:(Op.equalIn 10000 ty (.agg xs.toArray) (.agg ys.toArray)).run P w=.ok r w:=jB hu hf hp hk tU Cf he 9998
 refine aG.same h (v:=.bool (if neg then !r else r)) ?_ (.bool _)
 cases neg
 ·simp only[Bool.false_eq_true,if_false,Sem.run_bind,run_eqGuard_agg w _ _ _ _ _ _ hg,Result.andThen_ok,run_eql_struct,e]
 ·simp only[if_true,Sem.run_bind,run_eqGuard_agg w _ _ _ _ _ _ hg,Result.andThen_ok,run_neq_struct,e]
theorem xD {op:UnOp}{x t:T}{vx:Value}(h:SR w0 g H w)(hx:VR g w x vx)(he:y0 op x=some t):aG P w0 g H w (Op.unary op vx) t H:=by
 cases hx<;>(try (simp[y0]at he;done))<;>cases op<;>simp[y0]at he<;>subst he
 ·exact aG.same h (by simp[Op.unary,Op.intArith]) (.int _ _)
 ·exact aG.same h (by simp[Op.unary,Op.intBits]) (.int _ _)
 ·exact aG.same h (by simp[Op.unary]) (.bool _)
theorem uu {src dst:TypeId}{ds:TypeDesc}{k k0:IntKind}{n:Int}{vx:Value}(hs:P.underlying src=some ds)(hd:P.underlying dst=some (.int k))(h:SR w0 g H w)(hx:VR g w (.int k0 n) vx) :
  aG P w0 g H w (convert src dst vx) (.int k (k.wrap n)) H:=by
 cases hx
 exact aG.same h (by simp[convert,run_underlying hs,run_underlying hd,Conv.intToInt]) (.int _ _)
theorem qn {c:Bool}{x y:T}{vc vx vy:Value}(h:SR w0 g H w)(hc:VR g w (.bool c) vc)(hx:VR g w x vx)(hy:VR g w y vy) :
  aG P w0 g H w (do pure (if ←asBool vc then vx else vy)) (if c then x else y) H:=by
 cases hc
 refine aG.same h (v:=if c then vx else vy) (by simp[asBool]) ?_
 cases c<;>simpa
def Cg:Lc→TypeDesc→Bool
 | .str,.string | .sl,.slice _ | .map,.map _ _=>true
 | _,_=>false
theorem uv {ty rt:TypeId}{d:TypeDesc}{k:Lc}{x:T}{vx:Value}{n:Nat}(hu:P.underlying ty=some d)(hd:Cg k d=true)
  (h:SR w0 g H w) (hx:VR g w x vx) (he:eo H k x=some n):aG P w0 g H w (Builtin.len_ #[ty] rt #[vx]) (.int .i64 n) H:=by
 refine aG.same h (v:=.int .i64 n) ?_ (.int _ _)
 cases k<;>cases d<;>(first|(simp[Cg]at hd;done)|skip)<;>cases hx<;>simp[eo]at he
 ·subst he;simp[Builtin.len_,run_underlying hu,goInt]
 ·subst he;simp[Builtin.len_,run_underlying hu,goInt]
 ·subst he;simp[Builtin.len_,run_underlying hu,goInt]
 ·subst he;simp[Builtin.len_,run_underlying hu,goInt]
 ·subst he;simp[Builtin.len_,run_underlying hu,goInt]
 ·subst he;simp[Builtin.len_,run_underlying hu,goInt]
 ·subst he;simp[Builtin.len_,run_underlying hu,goInt]
 ·rename_i b r o q hφ
  cases hb:H[b]? with
  | none=>simp[hb]at he
  | some y =>
   cases y<;>simp[hb]at he
   ·rename_i es
    obtain⟨_,af,c,h2,h3,_⟩:=h.dv b _ hb r o q hφ
    subst he
    simp[Builtin.len_,run_underlying hu,goInt,getObj,Sem.run,h2,h3.1]
   ·rename_i es _ _ _
    obtain⟨r',o',q',dP,_,af,c,h2,h3,_⟩:=h.dv b _ hb
    rw[hφ]at dP;cases dP
    subst he
    simp[Builtin.len_,run_underlying hu,goInt,getObj,Sem.run,h2,h3.1]
theorem fN {n:Nat}{x:T}{vx:Value}{es:List (List T)}(h:SR w0 g H w)(hx:VR g w x vx)(he:aI H n x=some es)(hs:∀s,x≠.str s) :
  ∃(a:Option Addr) (cap:Nat) (vs:List Value),vx=.slice a es.length cap∧es.length≤cap∧(a=none→es=[]∧cap=0)∧(∀a',a=some a'→(es≠[]→a'.spot=none)∧∀(j:Nat) (v:Value),vs[j]?=some v→w.cell? (a'.add j)=some v) ∧
   ax g w es.flatten vs∧vs.length=es.length*n∧aS es.flatten∧∀c∈es,c.length=n:=by
 cases hx with
 | slnil=>simp[aI]at he;subst he;exact⟨none,0,[],rfl,Nat.le_refl _,fun _=>⟨rfl,rfl⟩,(by simp),ax.nil,by simp,by simp[aS],by simp⟩
 | dn a=>simp[aI]at he;subst he;exact⟨a,0,[],rfl,Nat.le_refl _,fun _=>⟨rfl,rfl⟩,(by simp),ax.nil,by simp,by simp[aS],by simp⟩
 | @sl k pW r o cap n' a0 hk hc hn h1 h2 =>
  simp only[aI]at he
  split at he
  ·rename_i dR
   simp at he;subst he
   have im:∀c∈pW,c.length=n:=by simpa using dR
   have key:∀(i j:Nat),i<pW.length→j<n→∃c t,pW[i]?=some c∧c[j]?=some t∧t.one=true∧w.cell? ⟨r,o+i*n+j,none⟩=some (a0 i j)∧VR g w t (a0 i j):=by
    intro i j hi hj
    have e1:pW[i]?=some pW[i]:=List.getElem?_eq_getElem hi
    have l1:(pW[i]).length=n:=im _ (List.getElem_mem hi)
    have l2:(pW[i]).length=n':=hn _ (List.getElem_mem hi)
    have e2:(pW[i])[j]?=some ((pW[i])[j]'(by omega)):=List.getElem?_eq_getElem _
    have a:=h1 i j _ _ e1 e2
    have uw:n'=n:=by omega
    exact⟨_,_,e1,e2,a.1,by rw[←uw];exact a.2.2,h2 i j _ _ e1 e2⟩
   have build:∀(l:List (List T)) (k:Nat),(∀i c,l[i]?=some c→pW[k+i]?=some c)→∃vs:List Value,vs.length=l.length*n∧ax g w l.flatten vs∧aS l.flatten ∧
     ∀(j:Nat) (v:Value),vs[j]?=some v→w.cell? ⟨r,o+k*n+j,none⟩=some v:=by
    intro l
    induction l with
    | nil=>intro k _;exact⟨[],by simp,ax.nil,by simp[aS],by simp⟩
    | cons c l ih =>
     intro k hk
     have mZ:=hk 0 c rfl
     simp only[Nat.add_zero]at mZ
     have xE:k<pW.length:=(List.getElem?_eq_some_iff.1 mZ).1
     have hO:c.length=n:=im c (List.mem_of_getElem? mZ)
     obtain⟨vs,a1,a2,a3,a4⟩:=ih (k+1) (fun i c' hi=>by have:=hk (i+1) c' (by simpa using hi);rwa[show k+1+i=k+(i+1) by omega])
     refine⟨(List.range n).map (a0 k)++vs,by simp[a1,Nat.succ_mul];omega,?_,?_,fun j v hj=>?_⟩
     ·rw[List.flatten_cons]
      refine ax.append ⟨by simp[hO],fun i t v hi hv=>?_⟩ a2
      have aA:i<n:=by have:=(List.getElem?_eq_some_iff.1 hv).1;simpa using this
      obtain⟨c',t',e1,e2,_,_,e5⟩:=key k i xE aA
      rw[mZ]at e1;cases e1
      rw[hi]at e2;cases e2
      simp[aA]at hv
      rw[←hv];exact e5
     ·rw[List.flatten_cons]
      intro t ht
      rcases List.mem_append.1 ht with ht|ht
      ·obtain⟨i,hi,rfl⟩:=List.getElem_of_mem ht
       obtain⟨c',t',e1,e2,e3,_,_⟩:=key k i xE (by omega)
       rw[mZ]at e1;cases e1
       rw[List.getElem?_eq_getElem hi]at e2;cases e2
       exact e3
      ·exact a3 t ht
     ·rw[List.getElem?_append]at hj
      split at hj
      ·rename_i aA
       simp at aA
       simp[aA]at hj
       obtain⟨c',t',_,_,_,e4,_⟩:=key k j xE aA
       rw[←hj];exact e4
      ·rename_i pX
       simp at pX hj
       have:=a4 _ v hj
       rwa[show o+(k+1)*n+(j-n)=o+k*n+j by rw[Nat.succ_mul];omega]at this
   obtain⟨vs,a1,a2,a3,a4⟩:=build pW 0 (fun i c h=>by simpa using h)
   refine⟨some ⟨r,o,none⟩,cap,vs,rfl,hc,by simp,fun a' ha=>?_,a2,a1,a3,im⟩
   cases ha
   exact⟨fun _=>rfl,fun j v hj=>by rw[a6];simpa using a4 j v hj⟩
  ·simp at he
 | @aO b off len n' r o q cap hφ hc hq =>
  simp only[aI]at he
  cases hb:H[b]? with
  | none=>simp[hb]at he
  | some y =>
   cases y with
   | cells cs =>
    simp only[hb]at he
    split at he
    ·rename_i ay
     obtain⟨rfl,hle⟩:=ay
     simp at he
     obtain⟨h1,h2,h3⟩:=h.dv b _ hb r o q hφ
     have hlen:es.length=len:=by rw[←he];simp
     have hn:∀c∈es,c.length=n':=by
      rw[←he]
      intro c iq
      obtain⟨i,hi,rfl⟩:=List.mem_map.1 iq
      simp at hi
      have:i*n'+n'≤len*n':=by rw[←Nat.succ_mul];exact Nat.mul_le_mul_right _ hi
      simp;omega
     have gO:∀m,m≤len→((List.range m).map fun i=>(cs.drop (off+i*n')).take n').flatten=(cs.drop off).take (m*n'):=by
      intro m
      induction m with
      | zero=>intro _;simp
      | succ m ih =>
       intro hm
       rw[List.range_succ,List.map_append,List.flatten_append,ih (by omega)]
       simp only[List.map_cons,List.map_nil,List.flatten_cons,List.flatten_nil,List.append_nil]
       rw[Nat.succ_mul,List.take_add,List.drop_drop]
     have lE:es.flatten=(cs.drop off).take (len*n'):=by rw[←he];exact gO len (Nat.le_refl _)
     have hp:gM H (len*n') (.ptr b off)=some ((cs.drop off).take (len*n')):=by simp[gM,hb,hle]
     obtain⟨r',o',vs,e1,e2,e3,e4,e5⟩:=fp h (.ptr hφ) hp
     cases e1
     refine⟨some ⟨r,o+off,none⟩,cap,vs,by rw[hlen],by omega,by simp,fun a' ha=>?_,by rw[lE];exact e4,by rw[e2,hlen],by rw[lE];exact e5,hn⟩
     cases ha
     exact⟨fun _=>rfl,fun j v hj=>by rw[a6];exact e3 j v hj⟩
    ·simp at he
   | fz cs =>
    simp only[hb]at he
    split at he
    ·rename_i ay
     obtain⟨rfl,hle⟩:=ay
     simp at he
     have hlen:es.length=len:=by rw[←he];simp
     have hn:∀c∈es,c.length=n':=by
      rw[←he]
      intro c iq
      obtain⟨i,hi,rfl⟩:=List.mem_map.1 iq
      simp at hi
      have:i*n'+n'≤len*n':=by rw[←Nat.succ_mul];exact Nat.mul_le_mul_right _ hi
      simp;omega
     have gO:∀m,m≤len→((List.range m).map fun i=>(cs.drop (off+i*n')).take n').flatten=(cs.drop off).take (m*n'):=by
      intro m
      induction m with
      | zero=>intro _;simp
      | succ m ih =>
       intro hm
       rw[List.range_succ,List.map_append,List.flatten_append,ih (by omega)]
       simp only[List.map_cons,List.map_nil,List.flatten_cons,List.flatten_nil,List.append_nil]
       rw[Nat.succ_mul,List.take_add,List.drop_drop]
     have lE:es.flatten=(cs.drop off).take (len*n'):=by rw[←he];exact gO len (Nat.le_refl _)
     have hp:gM H (len*n') (.ptr b off)=some ((cs.drop off).take (len*n')):=by simp[gM,hb,hle]
     obtain⟨r',o',vs,e1,e2,e3,e4,e5⟩:=fp h (.ptr hφ) hp
     cases e1
     refine⟨some ⟨r,o+off,none⟩,cap,vs,by rw[hlen],by omega,by simp,fun a' ha=>?_,by rw[lE];exact e4,by rw[e2,hlen],by rw[lE];exact e5,hn⟩
     cases ha
     exact⟨fun _=>rfl,fun j v hj=>by rw[a6];exact e3 j v hj⟩
    ·simp at he
   | map _=>simp[hb]at he
   | tok _=>simp[hb]at he
   | _=>simp[hb]at he
 | str s=>exact absurd rfl (hs s)
 | _=>simp[aI]at he
theorem ir:∀(es:List (List T)) (l:List UInt8),bytesOf es=some l→∃ns:List Int,es=ns.map (fun n=>[T.int .u8 n])∧l=ns.map (fun n=>UInt8.ofNat n.toNat)
 | [],l,h=>⟨[],rfl,by simpa[bytesOf]using h.symm⟩
 | [.int .u8 n] :: es,l,h=>by
  simp only[bytesOf,Option.map_eq_some_iff]at h
  obtain⟨l',h1,rfl⟩:=h
  obtain⟨ns,rfl,rfl⟩:=ir es l' h1
  exact⟨n :: ns,rfl,rfl⟩
 | [] :: es,l,h=>by simp[bytesOf]at h
 | (_ :: _ :: _) :: es,l,h=>by simp[bytesOf]at h
 | [.int .i8 n] :: es,l,h=>by simp[bytesOf]at h
 | [.int .i16 n] :: es,l,h=>by simp[bytesOf]at h
 | [.int .i32 n] :: es,l,h=>by simp[bytesOf]at h
 | [.int .i64 n] :: es,l,h=>by simp[bytesOf]at h
 | [.int .u16 n] :: es,l,h=>by simp[bytesOf]at h
 | [.int .u32 n] :: es,l,h=>by simp[bytesOf]at h
 | [.int .u64 n] :: es,l,h=>by simp[bytesOf]at h
 | [.bool _] :: es,l,h=>by simp[bytesOf]at h
 | [.str _] :: es,l,h=>by simp[bytesOf]at h
 | [.bE] :: es,l,h=>by simp[bytesOf]at h
 | [.ptr _ _] :: es,l,h=>by simp[bytesOf]at h
 | [.cq _] :: es,l,h=>by simp[bytesOf]at h
 | [.bL] :: es,l,h=>by simp[bytesOf]at h
 | [.map _] :: es,l,h=>by simp[bytesOf]at h
 | [.sl _ _] :: es,l,h=>by simp[bytesOf]at h
 | [.aO _ _ _ _] :: es,l,h=>by simp[bytesOf]at h
 | [.dz] :: es,l,h=>by simp[bytesOf]at h
 | [.fn _ _] :: es,l,h=>by simp[bytesOf]at h
 | [.cE] :: es,l,h=>by simp[bytesOf]at h
 | [.agg _] :: es,l,h=>by simp[bytesOf]at h
 | [.bl _] :: es,l,h=>by simp[bytesOf]at h
theorem foldl_push (ns:List Int):∀(b:ByteArray),ns.foldl (fun r n=>r.push (UInt8.ofNat n.toNat)) b=⟨b.data++(ns.map (fun n=>UInt8.ofNat n.toNat)).toArray⟩:=by
 induction ns with
 | nil=>intro b;simp
 | cons n ns ih=>intro b;rw[List.foldl_cons,ih];cases b;simp[ByteArray.push]
theorem zF (ns:List Int):(ns.map fun n=>[T.int .u8 n]).flatten=ns.map (T.int .u8):=by
 induction ns with
 | nil=>rfl
 | cons n ns ih=>simp only[List.map_cons,List.flatten_cons,ih];rfl
theorem ux {src dst e:TypeId}{x:T}{vx:Value}{es:List (List T)}{l:List UInt8}(hs:P.underlying src=some (.slice e))(hb:P.underlying e=some (.int .u8))(hd:P.underlying dst=some .string)
  (h:SR w0 g H w) (hx:VR g w x vx) (he:aI H 1 x=some es) (hn:∀s,x≠.str s) (hl:bytesOf es=some l):aG P w0 g H w (convert src dst vx) (.str ⟨l.toArray⟩) H:=by
 obtain⟨a,cap,vs,rfl,_,h1,h2,h3,h4,h5,_⟩:=fN h hx he hn
 obtain⟨ns,rfl,rfl⟩:=ir es l hl
 refine aG.same h ?_ (.str _)
 rw[run_convert_bytes_string w src dst e a _ cap hs hb hd]
 cases a with
 | none =>
  have:=h1 rfl
  have tQ:ns=[]:=by simpa using this.1
  subst tQ
  simp[Conv.bytesToString];rfl
 | some a =>
  obtain⟨_,h6⟩:=h2 a rfl
  have gi:vs=ns.map (Value.int .u8):=by
   apply List.ext_getElem?
   intro i
   have hlen:vs.length=ns.length:=by simpa using h4
   by_cases hi:i<ns.length
   ·have hv:vs[i]?=some vs[i]:=List.getElem?_eq_getElem (by omega)
    have ht:((ns.map fun n=>[T.int .u8 n]).flatten)[i]?=some (T.int .u8 ns[i]):=by
     rw[zF];simp[hi]
    have:=h3.2 i _ _ ht hv
    rw[hv]
    simp only[List.getElem?_map,List.getElem?_eq_getElem hi,Option.map_some]
    congr 1
    generalize vs[i]=vv at this
    cases this;rfl
   ·rw[List.getElem?_eq_none (by omega),List.getElem?_eq_none (by simpa using hi)]
  have:=run_loadCells_list (P:=P) w a vs h6
  rw[h4]at this
  have hl:(ns.map fun n=>[T.int .u8 n]).length*1=(ns.map fun n=>[T.int .u8 n]).length:=Nat.mul_one _
  rw[hl]at this
  rw[run_bytesToString w a _ cap ns (by rw[this,gi]),foldl_push]
  show Result.ok (Value.string ⟨#[]++_⟩) w=_
  simp
end
section
variable {P:Program} {w0 w:World} {g:Ctx} {H:aa}
def iu:Value→Option T
 | .int k n=>some (.int k n)
 | .bool b=>some (.bool b)
 | .string s=>some (.str s)
 | .pointer none=>some .bE
 | .slice none 0 0=>some (.sl .nil [])
 | .map none=>some .bL
 | .nilFunc=>some .dz
 | .nilIface=>some .cE
 | _=>none
def bN:List Value→Option (List T)
 | []=>some []
 | v :: vs=>match iu v,bN vs with
  | some t,some ts=>some (t :: ts)
  | _,_=>none
def fq:Value→Option T
 | .agg cs=>(bN cs.toList).map .agg
 | .tuple cs=>if cs.size=0 then some (.bl [])else none
 | v=>iu v
theorem jC {v:Value}{t:T}(h:iu v=some t):VR g w t v∧t.one=true:=by
 unfold iu at h
 split at h<;>simp at h<;>subst h
 ·exact⟨.int _ _,rfl⟩
 ·exact⟨.bool _,rfl⟩
 ·exact⟨.str _,rfl⟩
 ·exact⟨.bE,rfl⟩
 ·exact⟨.slnil,rfl⟩
 ·exact⟨.bL,rfl⟩
 ·exact⟨.dz,rfl⟩
 ·exact⟨.cE,rfl⟩
theorem bp:∀(vs:List Value) (ts:List T),bN vs=some ts→ax g w ts vs∧aS ts
 | [],ts,h=>by simp[bN]at h;subst h;exact⟨ax.nil,by simp[aS]⟩
 | v :: vs,ts,h=>by
  simp only[bN]at h
  cases h1:iu v with
  | none=>simp[h1]at h
  | some t =>
   cases h2:bN vs with
   | none=>simp[h1,h2]at h
   | some xz =>
    simp[h1,h2]at h;subst h
    obtain⟨a,b⟩:=jC (g:=g) (w:=w) h1
    obtain⟨c,d⟩:=bp vs xz h2
    exact⟨ax.cons a c,by intro x hx;rcases List.mem_cons.1 hx with rfl|hx;exact b;exact d x hx⟩
theorem eR {v:Value}{t:T}(h:fq v=some t):VR g w t v:=by
 unfold fq at h
 split at h
 ·rename_i cs
  simp only[Option.map_eq_some_iff]at h
  obtain⟨ts,h1,rfl⟩:=h
  obtain⟨a,b⟩:=bp (g:=g) (w:=w) _ _ h1
  have:=a.agg b
  simpa using this
 ·rename_i cs
  split at h
  ·rename_i hs
   simp at h;subst h
   have:cs=#[]:=Array.eq_empty_of_size_eq_zero hs
   subst this
   exact .bl rfl (by simp)
  ·simp at h
 ·exact(jC h).1
theorem bA {x:T}{vx:Value}{i:Nat}(hx:VR g w x vx)(h:aR x=some i):∃(k:IntKind) (n:Int),vx=.int k n∧0≤n∧n.toNat=i:=by
 cases hx<;>simp[aR]at h
 exact⟨_,_,rfl,h.1,h.2⟩
theorem pb {cs:List T}{r o off:Nat}(h:VR g w (.cq cs) (.pointer (some ⟨r,o,none⟩))):VR g w (.cq (cs.drop off)) (.pointer (some ⟨r,o+off,none⟩)):=by
 cases h with
 | cq a0 h1 h2 =>
  refine .cq (fun j=>a0 (off+j)) (fun j t e=>?_) (fun j t e=>?_)
  ·rw[List.getElem?_drop]at e
   have:=h1 (off+j) t e
   exact⟨this.1,by rw[Nat.add_assoc];exact this.2⟩
  ·rw[List.getElem?_drop]at e
   exact h2 (off+j) t e
theorem uy {ty:TypeId}{fs:Array Field}{i:Nat}{f:Field}{fi:TypeInfo}{x t:T}{vx:Value}(hu:P.underlying ty=some (.struct fs))(hf:fs[i]?=some f)(hi:P.info? f.type=some fi)(hz:fi.size≠0)
  (h:SR w0 g H w) (hx:VR g w x vx) (he:kv f.offset x=some t) :
  aG P w0 g H w (Instr.fieldAt ty vx i) t H:=by
 cases hx<;>simp[kv]at he
 case ptr b off r o q hφ =>
  subst he
  refine aG.same h (v:=.pointer (some ⟨r,o+(off+f.offset),none⟩)) ?_ (.ptr hφ)
  simp[Instr.fieldAt,Instr.sureAddr,run_underlying hu,hf,fieldPlace,sizeOf,al hi,hz,a6,Nat.add_assoc]
 case cq cs r o a0 h1 h2 =>
  obtain⟨_,rfl⟩:=he
  refine aG.same h (v:=.pointer (some ⟨r,o+f.offset,none⟩)) ?_ (pb (.cq a0 h1 h2))
  simp[Instr.fieldAt,Instr.sureAddr,run_underlying hu,hf,fieldPlace,sizeOf,al hi,hz,a6]
theorem lF {ty:TypeId}{d:TypeDesc}{i:TypeInfo}{ag:Bool}{n off:Nat}{cs:List T}{vs:List Value}{t:T}(hd:P.underlying ty=some d)(hi:P.info? ty=some i)(mY:bz d=ag)(hn:i.size=n)
  (hv:ax g w cs vs) (ho:aS cs) (hle:off+n≤cs.length) (he:valOf ag ((cs.drop off).take n)=some t):∃v,(part ty vs.toArray off).run P w=.ok v w∧VR g w t v:=by
 have h1:=(hv.drop off).take n
 have h2:aS ((cs.drop off).take n):=fun x hx=>ho x (List.mem_of_mem_drop (List.mem_of_mem_take hx))
 obtain⟨ha,hb⟩:=ik h1 h2 he
 cases ag with
 | true =>
  refine⟨_,?_,ha rfl⟩
  simp[part,bM hd,mY,sizeOf,al hi,hn]
 | false =>
  obtain⟨v,h3,h4⟩:=hb rfl
  refine⟨v,?_,h4⟩
  have h5:vs[off]?=some v:=by
   have:((vs.drop off).take n)[0]?=some v:=by rw[h3];rfl
   rw[List.getElem?_take]at this
   split at this
   ·rw[List.getElem?_drop]at this;simpa using this
   ·simp at this
  simp[part,bM hd,mY,h5]
theorem uz {ty:TypeId}{fs:Array Field}{i:Nat}{f:Field}{fi:TypeInfo}{d:TypeDesc}{cs:List T}{t:T}{vx:Value}{ag:Bool}(hu:P.underlying ty=some (.struct fs))(hf:fs[i]?=some f)(hd:P.underlying f.type=some d)(hi:P.info? f.type=some fi)
  (mY:bz d=ag) (h:SR w0 g H w) (hx:VR g w (.agg cs) vx) (hle:f.offset+fi.size≤cs.length) (he:valOf ag ((cs.drop f.offset).take fi.size)=some t):aG P w0 g H w (Instr.field ty vx i) t H:=by
 obtain⟨vs,rfl,h1,h2⟩:=hx.cj
 obtain⟨v,hr,hv⟩:=lF (P:=P) hd hi mY rfl h1 h2 hle he
 exact aG.same h (by simp[Instr.field,run_underlying hu,hf,asAgg,hr]) hv
theorem uA {ty elem:TypeId}{ei:TypeInfo}{x ix t:T}{i:Nat}{vx vi:Value}(hu:P.underlying ty=some (.slice elem))(hi:P.info? elem=some ei)
  (h:SR w0 g H w) (hx:VR g w x vx) (qo:VR g w ix vi) (hn:aR ix=some i) (he:oY ei.size i x=some t):aG P w0 g H w (Instr.indexAt ty vx vi) t H:=by
 obtain⟨k,m,rfl,pc,wy⟩:=bA qo hn
 cases hx<;>simp[oY]at he
 case sl k' es r o cap n a0 hk hc wz h1 h2 =>
  cases e8:es[i]? with
  | none=>simp[e8]at he
  | some c =>
   simp[e8]at he
   obtain⟨⟨hO,aF⟩,rfl⟩:=he
   have aA:i<es.length:=(List.getElem?_eq_some_iff.1 e8).1
   have Gf:c.length=n:=wz c (List.mem_of_getElem? e8)
   have uw:n=ei.size:=by omega
   subst uw
   refine aG.same h (v:=.pointer (some ⟨r,o+i*ei.size,none⟩)) ?_ (.cq (a0 i) (fun j t e=>h1 i j c t e8 e) (fun j t e=>h2 i j c t e8 e))
   have m0:m<es.length:=by omega
   simp[Instr.indexAt,asIntOf,run_underlying hu,pc,m0,sizeOf,al hi,a6,wy]
 case aO b off len n r o q cap hφ hc hq =>
  obtain⟨⟨rfl,aA,aF⟩,rfl⟩:=he
  refine aG.same h (v:=.pointer (some ⟨r,o+(off+i*ei.size),none⟩)) ?_ (.ptr hφ)
  have m0:m<len:=by omega
  simp[Instr.indexAt,asIntOf,run_underlying hu,pc,m0,sizeOf,al hi,a6,wy,Nat.add_assoc]
theorem uB {ty elem:TypeId}{len:Nat}{ei:TypeInfo}{ix:T}{b off i:Nat}{vx vi:Value}(hu:P.underlying ty=some (.array len elem))(hi:P.info? elem=some ei)
  (h:SR w0 g H w) (hx:VR g w (.ptr b off) vx) (qo:VR g w ix vi) (hn:aR ix=some i) (aA:i<len):aG P w0 g H w (Instr.indexAt ty vx vi) (.ptr b (off+i*ei.size)) H:=by
 obtain⟨k,m,rfl,pc,wy⟩:=bA qo hn
 cases hx with
 | @ptr _ _ r o q hφ =>
  refine aG.same h (v:=.pointer (some ⟨r,o+(off+i*ei.size),none⟩)) ?_ (.ptr hφ)
  have m0:m<len:=by omega
  simp[Instr.indexAt,Instr.sureAddr,asIntOf,run_underlying hu,pc,m0,sizeOf,al hi,a6,wy,Nat.add_assoc]
theorem uC {ty:TypeId}{ix:T}{s:ByteArray}{i:Nat}{c:UInt8}{vx vi:Value}(hu:P.underlying ty=some .string)
  (h:SR w0 g H w) (hx:VR g w (.str s) vx) (qo:VR g w ix vi) (hn:aR ix=some i) (hc:s.data[i]?=some c):aG P w0 g H w (Instr.index ty vx vi) (.int .u8 c.toNat) H:=by
 obtain⟨k,m,rfl,pc,wy⟩:=bA qo hn
 cases hx
 refine aG.same h ?_ (.int _ _)
 have iq:s[i]?=some c:=by
  have aA:i<s.data.size:=(Array.getElem?_eq_some_iff.1 hc).1
  have h2:=(Array.getElem?_eq_some_iff.1 hc).2
  have Ch:i<s.size:=aA
  rw[getElem?_pos s i Ch]
  exact congrArg some h2
 simp[Instr.index,asIntOf,run_underlying hu,pc,wy,iq]
theorem uD {ty elem:TypeId}{len i:Nat}{ei:TypeInfo}{d:TypeDesc}{ag:Bool}{ix t:T}{cs:List T}{vx vi:Value}(hu:P.underlying ty=some (.array len elem))(hd:P.underlying elem=some d)(hi:P.info? elem=some ei)(mY:bz d=ag)
  (h:SR w0 g H w) (hx:VR g w (.agg cs) vx) (qo:VR g w ix vi) (hn:aR ix=some i) (aA:i<len) (hle:i*ei.size+ei.size≤cs.length) (he:valOf ag ((cs.drop (i*ei.size)).take ei.size)=some t):aG P w0 g H w (Instr.index ty vx vi) t H:=by
 obtain⟨k,m,rfl,pc,wy⟩:=bA qo hn
 obtain⟨vs,rfl,h1,h2⟩:=hx.cj
 obtain⟨v,hr,hv⟩:=lF (P:=P) hd hi mY rfl h1 h2 hle he
 have m0:m<len:=by omega
 exact aG.same h (by simp[Instr.index,asIntOf,run_underlying hu,pc,m0,sizeOf,al hi,wy,hr]) hv
def OV (g:Ctx)(w:World)(R:ah):Option X→Option Value→Prop
 | none,none=>True
 | some x,some v=>VR g w (x.ev R) v
 | _,_=>False
def xF (l:Nat):Option Value→Prop
 | none=>l=0
 | some v=>∃k n,v=.int k n∧0≤n∧n.toNat=l
theorem run_sliceBound {k:IntKind}{n:Int}{y:Nat}{c:BoundsCode}(h0:0≤n)(hy:n.toNat≤y):(Instr.sliceBound (.int k n) y c).run P w=.ok n.toNat w:=by
 have:n≤y:=by omega
 simp[Instr.sliceBound,asIntOf,h0,this]
theorem b9 {R:ah}{qp:Bool}{len cap d l hh:Nat}{lo hi:Option X}{dJ en:Option Value}(jf:OV g w R lo dJ)
  (lG:OV g w R hi en) (hl:cU R 0 lo=some l) (kC:cU R d hi=some hh) (hd:hi=none→d=len) (h1:l≤hh) (h2:hh≤cap) :
  (Instr.sliceBounds qp len cap dJ en none).run P w=.ok (l,hh,cap) w:=by
 have eh:∀c,(match en with|some v=>Instr.sliceBound v cap c|none=>pure len:Sem Nat).run P w=.ok hh w:=by
  intro c
  cases hi with
  | none =>
   cases en with
   | none=>simp[cU]at kC;simp[←kC,hd rfl]
   | some _=>exact lG.elim
  | some x =>
   cases en with
   | none=>exact lG.elim
   | some v =>
    obtain⟨k,n,rfl,a,b⟩:=bA lG kC
    subst b
    exact run_sliceBound a h2
 have el:∀c,(match dJ with|some v=>Instr.sliceBound v hh c|none=>pure 0:Sem Nat).run P w=.ok l w:=by
  intro c
  cases lo with
  | none =>
   cases dJ with
   | none=>simp[cU]at hl;simp[←hl]
   | some _=>exact jf.elim
  | some x =>
   cases dJ with
   | none=>exact jf.elim
   | some v =>
    obtain⟨k,n,rfl,a,b⟩:=bA jf hl
    subst b
    exact run_sliceBound a h1
 have Gg:=eh (if qp then .sliceAcap else .sliceAlen)
 have Gh:=el .sliceB
 cases en<;>cases dJ<;>simp_all [Instr.sliceBounds]
theorem uE {R:ah}{ty:TypeId}{s:ByteArray}{l hh:Nat}{lo hi:Option X}{dJ en:Option Value}{vx:Value}(hu:P.underlying ty=some .string)
  (h:SR w0 g H w) (hx:VR g w (.str s) vx) (jf:OV g w R lo dJ)
  (lG:OV g w R hi en) (hl:cU R 0 lo=some l) (kC:cU R s.size hi=some hh) (h1:l≤hh) (h2:hh≤s.size) :
  aG P w0 g H w (Instr.sliceAt ty vx dJ en none) (.str (s.extract l hh)) H:=by
 cases hx
 refine aG.same h ?_ (.str _)
 have:=b9 (P:=P) (qp:=false) jf lG hl kC (fun _=>rfl) h1 h2
 simp[Instr.sliceAt,run_underlying hu,Instr.slice,this]
theorem nW {k k':SK}{es:List (List T)}{r o cap kD n l m:Nat}{a:Option Addr}(a0:Nat→Nat→Value)(hn:∀c∈es,c.length=n)
  (h1:∀(i j:Nat) (c:List T) (t:T),es[i]?=some c→c[j]?=some t→t.one=true∧mL g w r (o+i*n+j) (a0 i j))
  (h2:∀(i j:Nat) (c:List T) (t:T),es[i]?=some c→c[j]?=some t→VR g w t (a0 i j))
  (Gi:l≤m) (hm:m≤es.length) (fO:m-l≤kD) (hk:o5 g k' r (o+l*n) (m-l) kD n) :
  VR g w (.sl k' ((es.take m).drop l)) (.slice (some ⟨r,o+l*n,none⟩) (m-l) kD):=by
 have hlen:((es.take m).drop l).length=m-l:=by simp;omega
 have get:∀i c,((es.take m).drop l)[i]?=some c→es[l+i]?=some c:=by
  intro i c hi
  rw[List.getElem?_drop,List.getElem?_take]at hi
  split at hi
  ·exact hi
  ·simp at hi
 have:=VR.sl (g:=g) (w:=w) (k:=k') (es:=(es.take m).drop l) (r:=r) (o:=o+l*n) (cap:=kD) (n:=n) (fun i j=>a0 (l+i) j) (by rw[hlen];exact hk) (by omega)
  (fun c hc=>hn c (List.mem_of_mem_take (List.mem_of_mem_drop hc)))
  (fun i j c t a b=>⟨(h1 (l+i) j c t (get i c a) b).1,by
   have:=(h1 (l+i) j c t (get i c a) b).2
   rwa[show o+l*n+i*n+j=o+(l+i)*n+j by rw[Nat.add_mul];omega]⟩)
  (fun i j c t a b=>h2 (l+i) j c t (get i c a) b)
 rwa[hlen]at this
theorem uF {R : ah}{ty elem : TypeId}{ei : TypeInfo}{k : SK}{es : List (List T)}{l hh : Nat}{lo hi : Option X}{dJ en : Option Value}{vx : Value}(hu : P.underlying ty = some (.slice elem))(gh : P.info? elem = some ei)
    (h : SR w0 g H w) (hx : VR g w (.sl k es) vx) (jf : OV g w R lo dJ)
    (lG : OV g w R hi en) (hl : cU R 0 lo = some l) (kC : cU R es.length hi = some hh) (h1 : l ≤ hh) (h2 : hh ≤ es.length) (dR : es.all (·.length == ei.size) = true) :
    aG P w0 g H w (Instr.sliceAt ty vx dJ en none) (.sl (k.cut es.length l hh) ((es.take hh).drop l)) H := by
  have im : ∀c ∈ es, c.length = ei.size := by simpa using dR
  cases hx with
  | slnil =>
    simp at h2; subst h2
    have ze : l = 0 := by omega
    subst ze
    have := b9 (P := P) (w := w) (g := g) (qp := true) (cap := 0) jf lG hl kC (fun _ => rfl) h1 (Nat.le_refl _)
    simp only[List.length_nil]at this
    exact aG.same h (v := .slice none 0 0) (by simp[Instr.sliceAt, run_underlying hu, Instr.slice, this, sizeOf, al gh]) (by simpa[SK.cut]using VR.slnil)
  | dn a =>
    simp at h2; subst h2
    have ze : l = 0 := by omega
    subst ze
    have := b9 (P := P) (w := w) (g := g) (qp := true) (cap := 0) jf lG hl kC (fun _ => rfl) h1 (Nat.le_refl _)
    simp only[List.length_nil]at this
    exact aG.same h (v := .slice a 0 0) (by cases a<;>simp[Instr.sliceAt, run_underlying hu, Instr.slice, this, sizeOf, al gh]) (by simpa[SK.cut]using VR.dn a)
  | @sl _ _ r o cap n a0 hk hc hn h3 h4 =>
    have := b9 (P := P) (w := w) (g := g) (qp := true) (cap := cap) jf lG hl kC (fun _ => rfl) h1 (by omega)
    have hr : (Instr.sliceAt ty (.slice (some ⟨r, o, none⟩) es.length cap) dJ en none).run P w = .ok (.slice (some (if cap = l then⟨r, o, none⟩else⟨r, o + l * ei.size, none⟩)) (hh - l) (cap - l)) w := by
      simp[Instr.sliceAt, run_underlying hu, Instr.slice, this, sizeOf, al gh, a6]
      split<;>rfl
    by_cases he : l<hh
    · -- zf is left
      have hO : cap ≠ l := by omega
      simp only[hO, if_false]at hr
      have uw : n = ei.size := by
        cases es with
        | nil => simp at h2; omega
        | cons c es => have a := hn c (by simp); have b := im c (by simp); omega
      subst uw
      refine aG.same h hr (nW (k := k) (cap := cap) (a := none) a0 hn h3 h4 h1 h2 (by omega) ?_)
      cases k with
      | nil => exact hk.elim
      | arg => trivial
      | full =>
        simp only[SK.cut]; split
        · rename_i e; simp only[o5]at hk ⊢; omega
        · trivial
      | own t e =>
        simp only[SK.cut]; split
        · rename_i e'
          simp only[o5]at hk ⊢
          refine⟨?_, by omega⟩
          rw[hk.1]
          have e1 : o + l * ei.size + (hh - l) * ei.size = o + es.length * ei.size := by
            rw[Nat.add_assoc, ←Nat.add_mul]; congr 2; omega
          have e2 : o + l * ei.size + (cap - l) * ei.size = o + cap * ei.size := by
            rw[Nat.add_assoc, ←Nat.add_mul]; congr 2; omega
          rw[e1, e2]
        · trivial
    · have hle : l = hh := by omega
      subst hle
      have hd : (es.take l).drop l = [] := by simp
      rw[hd]
      have vr : ∀a : Addr, a.spot = none → VR g w (.sl .arg []) (.slice (some a) 0 (cap - l)) := by
        intro a ha
        obtain⟨ab, ao, as⟩ := a
        simp at ha; subst ha
        exact .sl (n := 0) (fun _ _ => .nilIface) trivial (by simp) (by simp) (by simp) (by simp)
      have jD : k.cut es.length l l = .arg ∨ (k.cut es.length l l = .full ∧ cap = l) := by
        cases k with
        | nil => exact hk.elim
        | arg => exact .inl rfl
        | full => simp only[SK.cut]; split
                  · rename_i e; right; simp only[o5]at hk; exact⟨rfl, by omega⟩
                  · exact .inl rfl
        | own t e => simp only[SK.cut]; split
                     · omega
                     · exact .inl rfl
      rcases jD with e|⟨e, hO⟩
      · rw[e]
        refine aG.same h hr ?_
        rw[Nat.sub_self]
        exact vr _ (by split<;>rfl)
      · rw[e]
        refine aG.same h hr ?_
        rw[Nat.sub_self, hO, Nat.sub_self]
        have mN : ∀a : Addr, a.spot = none → VR g w (.sl .full []) (.slice (some a) 0 0) := by
          intro a ha
          obtain⟨ab, ao, as⟩ := a
          simp at ha; subst ha
          exact .sl (n := 0) (fun _ _ => .nilIface) rfl (by simp) (by simp) (by simp) (by simp)
        exact mN _ (by split<;>rfl)
theorem gm {qp:Bool}{len cap l hh m:Nat}{dJ:Option Value}{k:IntKind}{nm:Int}{vh:Value}
  (pc:0≤nm) (Ci:nm.toNat=m) (DL:m≤cap) (kC:∃k n,vh=.int k n∧0≤n∧n.toNat=hh) (h2:hh≤m)
  (hl:xF l dJ) (h1:l≤hh) :
  (Instr.sliceBounds qp len cap dJ (some vh) (some (.int k nm))).run P w=.ok (l,hh,m) w:=by
 subst Ci
 obtain⟨kh,nh,rfl,a,b⟩:=kC
 subst b
 cases dJ with
 | none=>simp only[xF]at hl;subst hl;simp[Instr.sliceBounds,run_sliceBound pc DL,run_sliceBound a h2]
 | some v =>
  obtain⟨kl,nl,rfl,c,d⟩:=hl
  subst d
  simp[Instr.sliceBounds,run_sliceBound pc DL,run_sliceBound a h2,run_sliceBound c h1]
theorem qq {R:ah}{ty elem:TypeId}{ei:TypeInfo}{k:SK}{es:List (List T)}{l hh m:Nat}{lo:Option X}{hi mx:X}{dJ:Option Value}{en vm:Value}{vx:Value}(hu:P.underlying ty=some (.slice elem))(gh:P.info? elem=some ei)
  (h:SR w0 g H w) (hx:VR g w (.sl k es) vx) (jf:OV g w R lo dJ)
  (lG:VR g w (hi.ev R) en) (Ey:VR g w (mx.ev R) vm) (hl:cU R 0 lo=some l) (kC:aR (hi.ev R)=some hh) (hm:aR (mx.ev R)=some m) (h1:l≤hh) (h2:hh≤m) (zG:m≤es.length) (dR:es.all (·.length==ei.size)=true) :
  aG P w0 g H w (Instr.sliceAt ty vx dJ (some en) (some vm)) (.sl (if k=.nil then .nil else if es=[]∧k=.arg then .arg else if hh=m then .full else .arg) ((es.take hh).drop l)) H:=by
 have im:∀c∈es,c.length=ei.size:=by simpa using dR
 have uG:xF l dJ:=by
  cases lo<;>cases dJ
  ·simp[cU]at hl;exact hl.symm
  ·exact jf.elim
  ·exact jf.elim
  ·exact bA jf hl
 obtain⟨km,nm,rfl,pc,Ci⟩:=bA Ey hm
 have hb:∀cap,m≤cap→(Instr.sliceBounds true es.length cap dJ (some en) (some (.int km nm))).run P w=.ok (l,hh,m) w :=
  fun cap hc=>gm pc Ci hc (bA lG kC) h2 uG h1
 cases hx with
 | slnil =>
  simp at zG;subst zG
  obtain rfl:hh=0:=by omega
  obtain rfl:l=0:=by omega
  have:=hb 0 (Nat.le_refl _)
  simp only[List.length_nil]at this
  exact aG.same h (v:=.slice none 0 0) (by simp[Instr.sliceAt,run_underlying hu,Instr.slice,this,sizeOf,al gh]) (by simpa using VR.slnil)
 | dn a =>
  simp at zG;subst zG
  obtain rfl:hh=0:=by omega
  obtain rfl:l=0:=by omega
  have:=hb 0 (Nat.le_refl _)
  simp only[List.length_nil]at this
  exact aG.same h (v:=.slice a 0 0) (by cases a<;>simp[Instr.sliceAt,run_underlying hu,Instr.slice,this,sizeOf,al gh]) (by simpa using VR.dn a)
 | @sl _ _ r o cap n a0 hk hc hn h3 h4 =>
  have zH:k≠.nil:=by rintro rfl;exact hk.elim
  simp only[zH,if_false]
  have hr:(Instr.sliceAt ty (.slice (some ⟨r,o,none⟩) es.length cap) dJ (some en) (some (.int km nm))).run P w=.ok (.slice (some (if m=l then⟨r,o,none⟩else⟨r,o+l*ei.size,none⟩)) (hh-l) (m-l)) w:=by
   simp[Instr.sliceAt,run_underlying hu,Instr.slice,hb cap (by omega),sizeOf,al gh,a6]
   split<;>rfl
  by_cases he:l<hh
  ·have hO:m≠l:=by omega
   simp only[hO,if_false]at hr
   have aF:es≠[]:=by rintro rfl;simp at zG;omega
   have uw:n=ei.size:=by
    cases es with
    | nil=>exact absurd rfl aF
    | cons c es=>have a:=hn c (by simp);have b:=im c (by simp);omega
   subst uw
   simp only[aF,false_and,if_false]
   refine aG.same h hr (nW (k:=k) (cap:=cap) (a:=none) a0 hn h3 h4 h1 (by omega) (by omega) ?_)
   split
   ·rename_i e;simp only[o5];omega
   ·trivial
  ·obtain rfl:l=hh:=by omega
   have hd:(es.take l).drop l=[]:=by simp
   rw[hd]
   have mN:∀(a:Addr) (c:Nat) (k':SK),a.spot=none→(k'=.arg∨(k'=.full∧c=0))→VR g w (.sl k' []) (.slice (some a) 0 c):=by
    intro a c k' ha nX
    obtain⟨ab,ao,as⟩:=a
    simp at ha;subst ha
    refine .sl (n:=0) (fun _ _=>.nilIface) ?_ (by simp) (by simp) (by simp) (by simp)
    rcases nX with rfl|⟨rfl,rfl⟩
    ·trivial
    ·rfl
   refine aG.same h hr ?_
   rw[Nat.sub_self]
   refine mN _ _ _ (by split<;>rfl) ?_
   split
   ·exact .inl rfl
   ·split
    ·exact .inr ⟨rfl,by omega⟩
    ·exact .inl rfl
theorem qt {R:ah}{ty elem:TypeId}{ei:TypeInfo}{b off len l hh:Nat}{lo hi:Option X}{dJ en:Option Value}{vx:Value}(hu:P.underlying ty=some (.slice elem))(gh:P.info? elem=some ei)
  (h:SR w0 g H w) (hx:VR g w (.aO b off len ei.size) vx) (jf:OV g w R lo dJ)
  (lG:OV g w R hi en) (hl:cU R 0 lo=some l) (kC:cU R len hi=some hh) (h1:l≤hh) (h2:hh≤len) :
  aG P w0 g H w (Instr.sliceAt ty vx dJ en none) (if l=hh then(if l=0 then .aO b off 0 ei.size else .sl .arg [])else .aO b (off+l*ei.size) (hh-l) ei.size) H:=by
 cases hx with
 | @aO _ _ _ _ r o q cap hφ hc hq =>
  have:=b9 (P:=P) (w:=w) (g:=g) (qp:=true) (cap:=cap) jf lG hl kC (fun _=>rfl) h1 (by omega)
  have hr:(Instr.sliceAt ty (.slice (some ⟨r,o+off,none⟩) len cap) dJ en none).run P w=.ok (.slice (some (if cap=l then⟨r,o+off,none⟩else⟨r,o+off+l*ei.size,none⟩)) (hh-l) (cap-l)) w:=by
   simp[Instr.sliceAt,run_underlying hu,Instr.slice,this,sizeOf,al gh,a6]
   split<;>rfl
  refine aG.same h hr ?_
  have key:∀a:Addr,a=⟨r,o+(off+l*ei.size),none⟩→(cap≠l∨l=0)→VR g w (.aO b (off+l*ei.size) (hh-l) ei.size) (.slice (some a) (hh-l) (cap-l)):=by
   rintro a rfl hO
   refine .aO hφ (by omega) ?_
   rw[←hq]
   have:l*ei.size+(cap-l)*ei.size=cap*ei.size:=by rw[←Nat.add_mul];congr 1;omega
   omega
  split
  ·rename_i e;subst e
   split
   ·rename_i e;subst e
    have:=key (if cap=0 then⟨r,o+off,none⟩else⟨r,o+off+0*ei.size,none⟩) (by split<;>simp) (.inr rfl)
    simpa using this
   ·rw[Nat.sub_self]
    have mN:∀(a:Addr) (c:Nat),a.spot=none→VR g w (.sl .arg []) (.slice (some a) 0 c):=by
     intro a c ha
     obtain⟨ab,ao,as⟩:=a
     simp at ha;subst ha
     exact .sl (n:=0) (fun _ _=>.nilIface) trivial (by simp) (by simp) (by simp) (by simp)
    exact mN _ _ (by split<;>rfl)
  ·have hO:cap≠l:=by omega
   exact key _ (by rw[if_neg hO,Nat.add_assoc]) (.inl hO)
theorem uH {R:ah}{ty elem:TypeId}{ei:TypeInfo}{b off len hh:Nat}{hi:X}{en:Value}{vx:Value}(hu:P.underlying ty=some (.slice elem))(gh:P.info? elem=some ei)
  (h:SR w0 g H w) (hx:VR g w (.aO b off len ei.size) vx)
  (lG:OV g w R (some hi) (some en)) (kC:aR (hi.ev R)=some hh) (hn:ei.size≠0) (h0:0<hh) (hr:off+hh*ei.size≤p9 H b) :
  aG P w0 g H w (Instr.sliceAt ty vx none (some en) none) (.aO b off hh ei.size) H:=by
 cases hx with
 | @aO _ _ _ _ r o q cap hφ hc hq =>
  have lg:o+(off+hh*ei.size)≤q:=by
   unfold p9 at hr
   split at hr
   ·rename_i cs hb
    have:=(h.dv _ _ hb r o q hφ).1;omega
   ·rename_i cs hb
    have:=(h.dv _ _ hb r o q hφ).1;omega
   ·have:0<hh*ei.size:=Nat.mul_pos h0 (Nat.pos_of_ne_zero hn)
    omega
  have fO:hh≤cap:=by
   have h1:hh*ei.size≤cap*ei.size:=by omega
   exact Nat.le_of_mul_le_mul_right h1 (Nat.pos_of_ne_zero hn)
  have:=b9 (P:=P) (w:=w) (g:=g) (R:=R) (qp:=true) (d:=len) (len:=len) (cap:=cap) (lo:=none) (dJ:=none) (l:=0) trivial lG rfl kC (fun _=>rfl) (Nat.zero_le _) fO
  have hr:(Instr.sliceAt ty (.slice (some ⟨r,o+off,none⟩) len cap) none (some en) none).run P w=.ok (.slice (some (if cap=0 then⟨r,o+off,none⟩else⟨r,o+off+0*ei.size,none⟩)) (hh-0) (cap-0)) w:=by
   simp[Instr.sliceAt,run_underlying hu,Instr.slice,this,sizeOf,al gh,a6]
  refine aG.same h hr ?_
  have:VR g w (.aO b off hh ei.size) (.slice (some ⟨r,o+off,none⟩) hh cap):=.aO hφ fO hq
  simpa using this
theorem qu {R:ah}{ty elem:TypeId}{ei:TypeInfo}{b off len c l hh:Nat}{lo hi:Option X}{dJ en:Option Value}{vx:Value}(hu:P.underlying ty=some (.slice elem))(gh:P.info? elem=some ei)
  (h:SR w0 g H w) (hx:VR g w (.bS b off len ei.size c) vx) (jf:OV g w R lo dJ)
  (lG:OV g w R hi en) (hl:cU R 0 lo=some l) (kC:cU R len hi=some hh) (h1:l≤hh) (h2:hh≤c) :
  aG P w0 g H w (Instr.sliceAt ty vx dJ en none) (if l<c∨l=0 then .bS b (off+l*ei.size) (hh-l) ei.size (c-l)else .sl .arg []) H:=by
 cases hx with
 | @bS _ _ _ _ r o q cap hφ hc hq =>
  have:=b9 (P:=P) (w:=w) (g:=g) (qp:=true) (cap:=c) jf lG hl kC (fun _=>rfl) h1 (by omega)
  have hr:(Instr.sliceAt ty (.slice (some ⟨r,o+off,none⟩) len c) dJ en none).run P w=.ok (.slice (some (if c=l then⟨r,o+off,none⟩else⟨r,o+off+l*ei.size,none⟩)) (hh-l) (c-l)) w:=by
   simp[Instr.sliceAt,run_underlying hu,Instr.slice,this,sizeOf,al gh,a6]
   split<;>rfl
  refine aG.same h hr ?_
  by_cases h3:l<c∨l=0
  case neg =>
   rw[if_neg h3]
   have e0:hh-l=0:=by omega
   have mN:∀(a:Addr) (c:Nat),a.spot=none→VR g w (.sl .arg []) (.slice (some a) 0 c):=by
    intro a c ha
    obtain⟨ab,ao,as⟩:=a
    simp at ha;subst ha
    exact .sl (n:=0) (fun _ _=>.nilIface) trivial (by simp) (by simp) (by simp) (by simp)
   rw[e0]
   exact mN _ _ (by split<;>rfl)
  rw[if_pos h3]
  have e:(if c=l then(⟨r,o+off,none⟩:Addr)else⟨r,o+off+l*ei.size,none⟩)=⟨r,o+(off+l*ei.size),none⟩:=by
   split
   ·have:l=0:=by omega
    subst this;simp
   ·simp[Nat.add_assoc]
  rw[e]
  refine .bS hφ (by omega) ?_
  rw[←hq]
  have:l*ei.size+(c-l)*ei.size=c*ei.size:=by rw[←Nat.add_mul];congr 1;omega
  omega
end
section
variable {P:Program} {w0 w:World} {g:Ctx} {H:aa}
def ft (P:Program)(ty:TypeId):KT→Bool
 | .sc t=>match P.underlying ty with|some d=>tR t d|none=>false
 | .st ks=>match P.underlying ty with|some (.struct fs)=>flat P fs.toList 0 ks&&!P.stoodInHeld ty|_=>false
theorem qv {e:Bool}{n:Nat}{ty:TypeId}{d:TypeDesc}{k:kZ}{v:Value}(hu:P.underlying ty=some d)(hk:tR k d=true):(Instr.checkKey e (n+1) ty v).run P w=.ok () w:=by
 rw[Instr.checkKey];simp only[Sem.run_bind,run_underlying hu,Result.andThen_ok]
 cases k<;>cases d<;>simp[tR]at hk<;>cases v<;>rfl
theorem fP {e:Bool}{n:Nat}:∀(fs:List Field) (off:Nat) (ks:List kZ) (cs:List T) (xs:Array Value),flat P fs off ks=true→cs.length=ks.length →
  (∀(i:Nat) (t:T),cs[i]?=some t→∃v,xs[off+i]?=some v∧VR g w t v) →
  (forIn fs PUnit.unit (fun f _=>if f.name≠"_" then (do let x ← part f.type xs f.offset;Instr.checkKey e (n+1) f.type x;pure (ForInStep.yield PUnit.unit))
   else pure (ForInStep.yield PUnit.unit)):Sem PUnit).run P w=.ok PUnit.unit w
 | [],off,ks,cs,xs,hf,hl,hc=>by simp
 | f :: fs,off,ks,cs,xs,hf,hl,hc=>by
  cases ks with
  | nil=>simp[flat]at hf
  | cons k ks =>
   cases cs with
   | nil=>simp at hl
   | cons c cs =>
    simp only[flat,Bool.and_eq_true,beq_iff_eq,bne_iff_ne]at hf
    obtain⟨⟨⟨pa,qm⟩,tT⟩,bP⟩:=hf
    cases hu:P.underlying f.type with
    | none=>simp[hu]at tT
    | some de =>
     simp[hu]at tT
     obtain⟨va,zE,DK⟩:=hc 0 c rfl
     simp only[Nat.add_zero]at zE
     have ih:=fP (e:=e) (n:=n) fs (off+1) ks cs xs bP (by simpa using hl) (fun i t hi=>by have:=hc (i+1) t (by simpa using hi);rwa[show off+1+i=off+(i+1) by omega])
     simp only[List.forIn_cons,Sem.run_bind,qm,ne_eq,not_false_eq_true,if_true,pa,gk hu tT zE,Result.andThen_ok,qv hu tT,Sem.run_pure]
     exact ih
theorem iv:∀(ks:List kZ) (cs:List T),hasAll ks cs=true→cs.length=ks.length
 | [],[],_=>rfl
 | _ :: ks,_ :: cs,h=>by simp[hasAll]at h;simp[iv ks cs h.2]
 | [],_ :: _,h=>by simp[hasAll]at h
 | _ :: _,[],h=>by simp[hasAll]at h
theorem eA {e:Bool}{ty:TypeId}{kt:KT}{k:T}{vk:Value}(dS:ft P ty kt=true)(hk:VR g w k vk)(h:k.dt kt=true):(Instr.checkKey e 10000 ty vk).run P w=.ok () w:=by
 cases kt with
 | sc t =>
  simp only[ft]at dS
  cases hu:P.underlying ty with
  | none=>simp[hu]at dS
  | some d=>simp[hu]at dS;exact qv (n:=9999) hu dS
 | st ks =>
  simp only[ft]at dS
  cases hu:P.underlying ty with
  | none=>simp[hu]at dS
  | some d =>
   cases d<;>simp[hu]at dS
   rename_i fs
   cases k<;>simp[T.dt]at h
   rename_i cs
   obtain⟨xs,rfl,tU,_⟩:=hk.cj
   show(Instr.checkKey e (9998+1+1) ty _).run P w=_
   rw[Instr.checkKey];simp only[Sem.run_bind,run_underlying hu,Result.andThen_ok]
   rw[←Array.forIn_toList]
   rw[fP (g:=g) (e:=e) (n:=9998) fs.toList 0 ks cs xs.toArray dS.1 (iv _ _ h) (fun i t hi=>by simpa using tU.cm i t hi)]
   rfl
theorem qw {n:Nat}{ty:TypeId}{kt:KT}{a b:T}{va vb:Value}{r:Bool}(dS:ft P ty kt=true)(ha:VR g w a va)(hb:VR g w b vb)(hk:a.dt kt=true)(he:dk a b=some r) :
  (Op.equalIn (n+1+1) ty va vb).run P w=.ok r w:=by
 cases kt with
 | sc t =>
  simp only[ft]at dS
  cases hu:P.underlying ty with
  | none=>simp[hu]at dS
  | some d =>
   simp[hu]at dS
   have wA:du a b=some r:=by
    cases a<;>simp[T.dt]at hk<;>(first|exact he|(cases t<;>simp[T.mR]at hk))
   exact nV hu dS ha hb hk wA
 | st ks =>
  simp only[ft]at dS
  cases hu:P.underlying ty with
  | none=>simp[hu]at dS
  | some d =>
   cases d<;>simp[hu]at dS
   rename_i fs
   cases a<;>simp[T.dt]at hk
   rename_i cs
   cases b<;>simp[dk,du]at he
   rename_i ds
   obtain⟨xs,rfl,tU,_⟩:=ha.cj
   obtain⟨ys,rfl,Cf,_⟩:=hb.cj
   exact jB hu dS.1 (by simpa using dS.2) hk tU Cf he n
theorem m5 {t:kZ}{d:TypeDesc}{a b:T}{va vb:Value}{r:Bool}(hd:tR t d=true)(ha:VR g w a va)(hb:VR g w b vb)(hk:a.mR t=true)(he:dk a b=some r):Instr.sameNow d va vb=some r:=by
 cases t<;>cases d<;>simp[tR]at hd<;>cases ha<;>simp[T.mR]at hk<;>cases hb<;>simp[dk,du]at he
 ·obtain⟨rfl,rfl⟩:=he;simp[Instr.sameNow]
 ·subst he;simp[Instr.sameNow,dj,beq_toListBytes]
 ·subst he;simp[Instr.sameNow]
theorem kE {ty:TypeId}{kt:KT}{k:T}{vk:Value}(dS:ft P ty kt=true)(hk:VR g w k vk)(h:k.dt kt=true)(es:List (T×T))(af:List MapEntry)(hl:af.length=es.length)
  (hh:∀(i:Nat) (e:T×T) (m:MapEntry),es[i]?=some e→af[i]?=some m→VR g w e.1 m.key∧VR g w e.2 m.val) {r:Option Nat} (hr:bg k es=some r) :
  (Instr.findKey ty vk af).run P w=.ok (r.bind fun i=>(af[i]?).map fun m=>(i,m.val)) w:=by
 cases kt with
 | sc t =>
  simp only[ft]at dS
  cases hu:P.underlying ty with
  | none=>simp[hu]at dS
  | some d =>
   simp[hu]at dS
   have key:∀(es:List (T×T)) (af:List MapEntry) (j:Nat) (r:Option Nat),af.length=es.length→(∀(i:Nat) (e:T×T) (m:MapEntry),es[i]?=some e→af[i]?=some m→VR g w e.1 m.key∧VR g w e.2 m.val) →
     bg k es=some r→Instr.findNow d vk af j=some (r.bind fun i=>(af[i]?).map fun m=>(j+i,m.val)):=by
    intro es
    induction es with
    | nil =>
     intro af j r hl _ hr
     simp[bg]at hr;subst hr
     cases af with
     | nil=>rfl
     | cons _ _=>simp at hl
    | cons e es ih =>
     intro af j r hl hh hr
     cases af with
     | nil=>simp at hl
     | cons m af =>
      have h0:=hh 0 e m rfl rfl
      simp only[bg]at hr
      cases he:dk k e.1 with
      | none=>simp[he]at hr
      | some b =>
       have hs:=m5 dS hk h0.1 h he
       cases b with
       | true=>simp[he]at hr;subst hr;simp[Instr.findNow,hs]
       | false =>
        simp only[he,Option.map_eq_some_iff]at hr
        obtain⟨r',h1,rfl⟩:=hr
        simp only[Instr.findNow,hs]
        rw[ih af (j+1) r' (by simpa using hl) (fun i e' m' a b=>hh (i+1) e' m' (by simpa using a) (by simpa using b)) h1]
        cases r' with
        | none=>rfl
        | some i=>simp;cases af[i]?<;>simp;omega
   have:=key es af 0 r hl hh hr
   simp only[Instr.findKey,Sem.run_bind,run_underlying hu,Result.andThen_ok,this,Sem.run_pure]
   simp
 | st ks =>
  have Cj:=dS
  simp only[ft]at dS
  cases hu:P.underlying ty with
  | none=>simp[hu]at dS
  | some d =>
   cases d<;>simp[hu]at dS
   rename_i fs
   have key:∀(es:List (T×T)) (af:List MapEntry) (j:Nat) (r:Option Nat),af.length=es.length→(∀(i:Nat) (e:T×T) (m:MapEntry),es[i]?=some e→af[i]?=some m→VR g w e.1 m.key∧VR g w e.2 m.val) →
     bg k es=some r→(Instr.findAsking ty vk af j).run P w=.ok (r.bind fun i=>(af[i]?).map fun m=>(j+i,m.val)) w:=by
    intro es
    induction es with
    | nil =>
     intro af j r hl _ hr
     simp[bg]at hr;subst hr
     cases af with
     | nil=>rfl
     | cons _ _=>simp at hl
    | cons e es ih =>
     intro af j r hl hh hr
     cases af with
     | nil=>simp at hl
     | cons m af =>
      have h0:=hh 0 e m rfl rfl
      simp only[bg]at hr
      cases he:dk k e.1 with
      | none=>simp[he]at hr
      | some b =>
       have hs:(Op.equal ty vk m.key).run P w=.ok b w:=qw (n:=9998) Cj hk h0.1 h he
       cases b with
       | true=>simp[he]at hr;subst hr;simp[Instr.findAsking,hs]
       | false =>
        simp only[he,Option.map_eq_some_iff]at hr
        obtain⟨r',h1,rfl⟩:=hr
        simp only[Instr.findAsking,Sem.run_bind,hs,Result.andThen_ok,Bool.false_eq_true,if_false]
        rw[ih af (j+1) r' (by simpa using hl) (fun i e' m' a b=>hh (i+1) e' m' (by simpa using a) (by simpa using b)) h1]
        cases r' with
        | none=>rfl
        | some i=>simp;cases af[i]?<;>simp;omega
   have nX:=key es af 0 r hl hh hr
   cases af with
   | nil =>
    simp only[Instr.findKey,Sem.run_bind,run_underlying hu,Result.andThen_ok,Instr.findNow,Sem.run_pure]
    exact nX
   | cons m af =>
    have:Instr.findNow (.struct fs) vk (m :: af) 0=none:=by simp[Instr.findNow,Instr.sameNow]
    simp only[Instr.findKey,Sem.run_bind,run_underlying hu,Result.andThen_ok,this]
    simpa using nX
def qx (w:World)(vm:Value)(af:Array MapEntry):Prop:=(vm=.map none∧af=#[])∨∃r c,vm=.map (some r)∧w.heap[r]?=some (.map af c)
theorem pd {m:T}{vm:Value}{es:List (T×T)}(h:SR w0 g H w)(hm:VR g w m vm)(e8:ct H m=some es):∃af,qx w vm af∧bw g w es af:=by
 cases hm<;>simp[ct]at e8
 ·subst e8;exact⟨#[],.inl ⟨rfl,rfl⟩,⟨rfl,by simp⟩⟩
 ·rename_i b r' o q hφ
  cases hb:H[b]? with
  | none=>simp[hb]at e8
  | some y =>
   cases y<;>simp[hb]at e8
   ·subst e8
    obtain⟨_,af,c,h2,h3,_⟩:=h.dv b _ hb r' o q hφ
    exact⟨af,.inr ⟨r',c,rfl,h2⟩,h3⟩
   ·subst e8
    obtain⟨r2,o',q',dP,_,af,c,h2,h3,_⟩:=h.dv b _ hb
    rw[hφ]at dP;cases dP
    exact⟨af,.inr ⟨r',c,rfl,h2⟩,h3⟩
theorem iw {ty key elem:TypeId}{ei:TypeInfo}{zv vm vk:Value}{ok:Bool}{af:Array MapEntry}{r:Option (Nat×Value)}(hu:P.underlying ty=some (.map key elem))(hi:P.info? elem=some ei)(hz:ei.zero=some zv)
  (he:qx w vm af) (hc:(Instr.checkKey af.isEmpty 10000 key vk).run P w=.ok () w) (hf:(Instr.findKey key vk af.toList).run P w=.ok r w) :
  (Instr.lookup ty vm vk ok).run P w=.ok (match r with|some (_,v)=>if ok then .tuple #[v,.bool true]else v|none=>if ok then .tuple #[zv,.bool false]else zv) w:=by
 rcases he with⟨rfl,rfl⟩|⟨rr,c,rfl,h2⟩
 ·have BM:(Instr.findKey key vk []).run P w=.ok r w:=hf
  have iq:(Instr.checkKey true 10000 key vk).run P w=.ok () w:=hc
  simp only[Instr.lookup,Sem.run_bind,run_underlying hu,Result.andThen_ok]
  cases r with
  | none=>simp[iq,BM,zeroValue,al hi,hz]
  | some x=>obtain⟨i,v⟩:=x;simp[iq,BM]
 ·simp only[Instr.lookup,Sem.run_bind,run_underlying hu,Result.andThen_ok]
  cases r with
  | none=>simp[getObj,Sem.run,h2,hc,hf,zeroValue,al hi,hz]
  | some x=>obtain⟨i,v⟩:=x;simp[getObj,Sem.run,h2,hc,hf]
theorem nY {ty key elem:TypeId}{ei:TypeInfo}{zv:Value}{kt:KT}{z m k t:T}{ok:Bool}{vm vk:Value}{es:List (T×T)}{r:Option Nat}(hu:P.underlying ty=some (.map key elem))(hi:P.info? elem=some ei)(hz:ei.zero=some zv)(jg:fq zv=some z)
  (dS:ft P key kt=true) (h:SR w0 g H w) (hm:VR g w m vm) (hk:VR g w k vk) (m6:k.dt kt=true)
  (e8:ct H m=some es) (hr:bg k es=some r)
  (ht:(match r with|some i=>(es[i]?).map fun e=>if ok then T.bl [e.2,.bool true]else e.2|none=>some (if ok then .bl [z,.bool false]else z))=some t):aG P w0 g H w (Instr.lookup ty vm vk ok) t H:=by
 obtain⟨af,DM,hE⟩:=pd h hm e8
 have hf:=kE dS hk m6 es af.toList (by simpa using hE.1) (fun i e m a b=>hE.2 i e m a (by simpa using b)) hr
 have hc:=eA (e:=af.isEmpty) dS hk m6
 have DN:VR g w z zv:=eR jg
 cases r with
 | none =>
  simp only[Option.some.injEq]at ht
  subst ht
  refine aG.same h (iw hu hi hz DM hc hf) ?_
  cases ok
  ·exact DN
  ·exact ax.bl (ax.cons DN (ax.cons (.bool _) ax.nil))
 | some i =>
  cases he:es[i]? with
  | none=>simp[he]at ht
  | some e =>
   have aA:i<af.size:=by rw[hE.1];exact(List.getElem?_eq_some_iff.1 he).1
   have xG:af[i]?=some af[i]:=Array.getElem?_eq_getElem aA
   have hv:=(hE.2 i e _ he xG).2
   simp only[he,Option.map_some,Option.some.injEq]at ht
   subst ht
   have hx:((some i:Option Nat).bind fun i=>(af.toList[i]?).map fun m=>(i,m.val))=some (i,af[i].val):=by simp[aA]
   rw[hx]at hf
   refine aG.same h (iw hu hi hz DM hc hf) ?_
   cases ok
   ·exact hv
   ·exact ax.bl (ax.cons hv (ax.cons (.bool _) ax.nil))
theorem uI {vs:List T}{i:Nat}{t:T}{vx:Value}(h:SR w0 g H w)(hx:VR g w (.bl vs) vx)(he:vs[i]?=some t):aG P w0 g H w (Instr.extract vx i) t H:=by
 obtain⟨xs,rfl,tU⟩:=hx.uj
 obtain⟨v,h1,h2⟩:=tU.cm i t he
 exact aG.same h (by simp at h1;simp[Instr.extract,h1]) h2
theorem xH {rt:TypeId}{dq:Array TypeId}{k k':IntKind}{a b:Int}{vx vy:Value}(h:SR w0 g H w)(hx:VR g w (.int k a) vx)(hy:VR g w (.int k' b) vy):aG P w0 g H w (Builtin.min_ dq rt #[vx,vy]) (.int k (if b<a then b else a)) H:=by
 cases hx;cases hy
 exact aG.same h (by simp[Builtin.min_,Builtin.min2]) (.int _ _)
theorem xI {rt:TypeId}{dq:Array TypeId}{k k':IntKind}{a b:Int}{vx vy:Value}(h:SR w0 g H w)(hx:VR g w (.int k a) vx)(hy:VR g w (.int k' b) vy):aG P w0 g H w (Builtin.max_ dq rt #[vx,vy]) (.int k (if b>a then b else a)) H:=by
 cases hx;cases hy
 exact aG.same h (by simp[Builtin.max_,Builtin.max2]) (.int _ _)
end
section
variable {P:Program} {w0 w:World} {g:Ctx} {H:aa}
def cz:Nat→Nat→Prop:=fun _ _=>False
def cW:Nat→Prop:=fun _=>False
theorem Tr.drew (w:World):Tr w w.drew cz cW:=⟨⟨Nat.le_refl _,fun _ _ _ _=>rfl,fun _ _ _ h=>h,fun _ _ _ _ h=>h,fun _ _ _ _=>rfl,rfl,rfl⟩,fun _ _ _=>rfl⟩
theorem Tr.refl (w:World):Tr w w cz cW:=⟨⟨Nat.le_refl _,fun _ _ _ _=>rfl,fun _ _ _ h=>h,fun _ _ _ _ h=>h,fun _ _ _ _=>rfl,rfl,rfl⟩,fun _ _ _=>rfl⟩
theorem Tr.alloc (w:World)(o:Obj):Tr w (w.alloc o) cz cW where
 size:=by simp
 cell r j hr _:=World.cell?_alloc_lt w o ⟨r,j,none⟩ hr
 nU r j hr:=World.frozen?_alloc_old w o ⟨r,j,none⟩ (Nat.ne_of_lt hr)
 ey r j hr h:=by rw[World.cell?_alloc_lt w o ⟨r,j,none⟩ hr];exact h
 maps r x _ _ h:=by
  have hr:r<w.heap.size:=(Array.getElem?_eq_some_iff.1 h).1
  simp only[World.alloc,Array.getElem?_push];rw[if_neg (by omega)];exact h
 eu r hr _ _:=by simp only[World.alloc,Array.getElem?_push];rw[if_neg (by omega)]
 env:=⟨rfl,rfl⟩
theorem Tr.trans {w w' zB:World}{S:Nat→Nat→Prop}{M:Nat→Prop}(h:Tr w w' S M)(h':Tr w' zB S M):Tr w zB S M where
 size:=Nat.le_trans h.size h'.size
 cell r j hr hs:=(h'.cell r j (Nat.lt_of_lt_of_le hr h.size) hs).trans (h.cell r j hr hs)
 nU r j hr:=(h'.nU r j (Nat.lt_of_lt_of_le hr h.size)).trans (h.nU r j hr)
 ey r j hr hs:=h'.ey r j (Nat.lt_of_lt_of_le hr h.size) (h.ey r j hr hs)
 maps r x hm hs h1:=h'.maps r x hm hs (h.maps r x hm hs h1)
 eu r hr hm hs:=(h'.eu r (Nat.lt_of_lt_of_le hr h.size) hm hs).trans (h.eu r hr hm hs)
 env:=⟨h'.env.1.trans h.env.1,h'.env.2.trans h.env.2⟩
theorem aV (r:Nat):∀(vs:List Value) (o:Nat) (w:World) (r' j:Nat),¬(r'=r∧o≤j∧j<o+vs.length)→(w.setCells r o vs).cell? ⟨r',j,none⟩=w.cell? ⟨r',j,none⟩
 | [],_,_,_,_,_=>rfl
 | v :: vs,o,w,r',j,h=>by
  rw[World.setCells,aV r vs (o+1) _ r' j (by simp at h ⊢;omega),World.cell?_setCell_other]
  intro e
  simp at e
  exact h ⟨e.1.symm,by omega,by simp;omega⟩
theorem aX (r:Nat):∀(vs:List Value) (o:Nat) (w:World),(∀j,o≤j→j<o+vs.length→(w.cell? ⟨r,j,none⟩).isSome=true)→∀(i:Nat) (v:Value),vs[i]?=some v→(w.setCells r o vs).cell? ⟨r,o+i,none⟩=some v
 | [],_,_,_,i,v,h=>by simp at h
 | u :: vs,o,w,hs,i,v,h=>by
  rw[World.setCells]
  cases i with
  | zero =>
   simp at h;subst h
   rw[aV r vs (o+1) _ r _ (by omega)]
   obtain⟨x,hx⟩:=Option.isSome_iff_exists.1 (hs o (Nat.le_refl _) (by simp))
   exact World.cell?_setCell_same w ⟨r,o,none⟩ u hx
  | succ i =>
   have:=aX r vs (o+1) (w.setCell ⟨r,o,none⟩ u) (fun j h1 h2=>by
    rw[World.cell?_setCell_other _ _ _ _ (by simp;omega)]
    exact hs j (by omega) (by simp;omega)) i v (by simpa using h)
   rwa[show o+(i+1)=o+1+i by omega]
theorem bq (r:Nat):∀(vs:List Value) (o:Nat) (w:World),(w.setCells r o vs).heap.size=w.heap.size
 | [],_,_=>rfl
 | v :: vs,o,w=>by rw[World.setCells,bq r vs,World.size_setCell]
theorem e9 (r:Nat):∀(vs:List Value) (o:Nat) (w:World) (r':Nat),r'≠r→(w.setCells r o vs).heap[r']?=w.heap[r']?
 | [],_,_,_,_=>rfl
 | v :: vs,o,w,r',h=>by
  rw[World.setCells,e9 r vs _ _ r' h]
  simp only[World.setCell,Array.getElem?_modify];rw[if_neg (fun e=>h e.symm)]
theorem fQ (r:Nat):∀(vs:List Value) (o:Nat) (w:World) (r':Nat) (x:Obj),cw x=true→w.heap[r']?=some x→(w.setCells r o vs).heap[r']?=some x
 | [],_,_,_,_,_,h=>h
 | v :: vs,o,w,r',x,hs,h=>by
  rw[World.setCells]
  refine fQ r vs _ _ r' x hs ?_
  simp only[World.setCell,Array.getElem?_modify]
  split
  ·rename_i e;rw[h];cases x<;>simp[cw]at hs<;>rfl
  ·exact h
theorem fR (r:Nat):∀(vs:List Value) (o:Nat) (w:World),(w.setCells r o vs).os=w.os∧(w.setCells r o vs).output=w.output
 | [],_,_=>⟨rfl,rfl⟩
 | v :: vs,o,w=>by rw[World.setCells];exact fR r vs _ _
def lH (r o n:Nat):Nat→Nat→Prop:=fun r' j=>r'=r∧o≤j∧j<o+n
theorem Tr.setCells (w:World)(r o:Nat)(vs:List Value)(hs:∀j,o≤j→j<o+vs.length→(w.cell? ⟨r,j,none⟩).isSome=true):Tr w (w.setCells r o vs) (lH r o vs.length) cW where
 size:=by rw[bq];exact Nat.le_refl _
 cell r' j _ h:=aV r vs o w r' j h
 nU r' j _:=World.frozen?_setCells r vs o w _
 ey r' j _ h:=by
  by_cases e:r'=r∧o≤j∧j<o+vs.length
  ·obtain⟨rfl,e1,e2⟩:=e
   have hi:j-o<vs.length:=by omega
   have:=aX r' vs o w hs (j-o) _ (List.getElem?_eq_getElem hi)
   rw[show o+(j-o)=j by omega]at this
   rw[this];rfl
  ·rw[aV r vs o w r' j e];exact h
 maps r' x _ hs h:=fQ r vs o w r' x hs h
 eu r' _ _ h:=by
  by_cases e:r'=r
  ·cases vs with
   | nil=>rfl
   | cons v vs=>exact absurd ⟨e,Nat.le_refl _,by simp⟩ (h o)
  ·exact e9 r vs o w r' e
 env:=fR r vs o w
def Ctx.row (g:Ctx)(r:Nat)(f:Nat→Ow):Ctx:={ g with κ:=fun r' j=>if r'=r then f j else g.κ r' j }
def Ctx.at (g:Ctx)(b:Nat)(x:Nat×Nat×Nat):Ctx:={ g with φ:=fun b'=>if b'=b then some x else g.φ b' }
def Ctx.tok (g:Ctx)(t e:Nat)(x:Nat×Nat×Nat):Ctx:={ g with π:=fun t' e'=>if t'=t∧e'=e then some x else g.π t' e' }
theorem Le.cJ {w':World}{g':Ctx}{S:Nat→Nat→Prop}{M:Nat→Prop}(tr:Tr w w' S M)(hφ:∀b x,g.φ b=some x→g'.φ b=some x)(hκ:∀r o,g.κ r o=.cG→g'.κ r o=.cG)(hπ:∀t e x,g.π t e=some x→g'.π t e=some x)
  (hS:∀r j,S r j→g.κ r j≠.cG) (Ez:g'.ck=g.ck:=by rfl):Le g w g' w' :=
 ⟨hφ,hκ,hπ,fun r o v hk hc=>by rw[tr.cell r o (dN hc) (fun hs=>hS r o hs hk)];exact hc,Ez⟩
theorem SR.zI {c:Array Value}{ty:TypeId}{fr:Nat×Nat}{w1:World}(h:SR w0 g H w)(tr:Tr w w1 cz cW)(hz:w1.heap.size=w.heap.size) :
  Le g w (g.row w.heap.size fun _=>.cG) (w1.alloc (.cells c ty fr))∧SR w0 (g.row w.heap.size fun _=>.cG) H (w1.alloc (.cells c ty fr))∧Fr g H (g.row w.heap.size fun _=>.cG) H ∧
  ∀(j:Nat) (v:Value),c[j]?=some v→mL (g.row w.heap.size fun _=>.cG) (w1.alloc (.cells c ty fr)) w.heap.size j v:=by
 have jE:=tr.trans (Tr.alloc w1 (.cells c ty fr))
 have le:Le g w (g.row w.heap.size fun _=>.cG) (w1.alloc (.cells c ty fr)):=Le.cJ jE (fun _ _ h=>h) (fun r o hk=>by simp only[Ctx.row];split;rfl;exact hk) (fun _ _ _ h=>h) (fun _ _ hs=>hs.elim)
 refine⟨le,?_,⟨Nat.le_refl _,fun _ _ a _ b=>⟨a,b⟩⟩,fun j v hj=>⟨by simp[Ctx.row],?_⟩⟩
 ·refine h.step (fun _=>False) jE le (fun _ _ hs=>hs.elim) (fun _ hm=>hm.elim) (fun r o hr=>?_) h.gZ h.cu (fun _ _ _=>rfl) (fun r j b _=>?_) (fun _ _ _ _=>rfl) (fun b x hx=>.inl ⟨fun hf=>hf,hx⟩)
  ·simp at hr
   simp only[Ctx.row];rw[if_neg (by omega)];exact h.fresh r o (by omega)
  ·have aF:∀ow,g.κ r j=ow→ow≠.free→r≠w.heap.size:=by rintro ow e hn rfl;exact hn (e▸h.fresh _ j (Nat.le_refl _))
   constructor<;>intro e<;>simp only[Ctx.row]<;>rw[if_neg (aF _ e (by simp))]<;>exact e
 ·rw[←hz]
  have:(w1.alloc (.cells c ty fr)).heap[w1.heap.size]?=some (.cells c ty fr):=by
   show(w1.heap.push (.cells c ty fr))[w1.heap.size]?=_
   simp
  unfold World.cell?
  rw[this]
  exact hj
theorem SR.cG {c:Array Value}{ty:TypeId}{w1:World}(h:SR w0 g H w)(tr:Tr w w1 cz cW)(hz:w1.heap.size=w.heap.size) :
  Le g w (g.row w.heap.size fun _=>.cG) (w1.alloc (.cells c ty))∧SR w0 (g.row w.heap.size fun _=>.cG) H (w1.alloc (.cells c ty))∧Fr g H (g.row w.heap.size fun _=>.cG) H ∧
  ∀(j:Nat) (v:Value),c[j]?=some v→mL (g.row w.heap.size fun _=>.cG) (w1.alloc (.cells c ty)) w.heap.size j v:=h.zI tr hz
theorem SR.mut {c:Array Value}{ty:TypeId}{w1:World}{H':aa}{b:Nat}{cs:List T}(h:SR w0 g H w)(tr:Tr w w1 cz cW)(hz:w1.heap.size=w.heap.size)
  (hb:H'[b]?=some (.cells cs)) (hn:g.φ b=none) (hH:∀b' x,b'≠b→H'[b']?=some x→H[b']?=some x∨x=.dead) (hl:H.length≤H'.length) (zg:∀b' x,H[b']?=some x→(∀e,x≠.tok e)→g.φ b'=none→b'≠b→H'[b']?=some x)
  (hc:∀(i:Nat) (t:T),cs[i]?=some t→t.one=true∧∃v,c[i]?=some v∧VR g w t v) :
  Le g w ((g.row w.heap.size fun _=>.mut b).at b (w.heap.size,0,c.size)) (w1.alloc (.cells c ty))∧SR w0 ((g.row w.heap.size fun _=>.mut b).at b (w.heap.size,0,c.size)) H' (w1.alloc (.cells c ty)) ∧
  (∀b' x,H[b']?=some x→(∀e,x≠.tok e)→g.φ b'=none→b'≠b→H'[b']?=some x∧((g.row w.heap.size fun _=>.mut b).at b (w.heap.size,0,c.size)).φ b'=none):=by
 have jE:=tr.trans (Tr.alloc w1 (.cells c ty))
 have aF:∀r j ow,g.κ r j=ow→ow≠.free→r≠w.heap.size:=by rintro r j ow e hn rfl;exact hn (e▸h.fresh _ j (Nat.le_refl _))
 have le:Le g w ((g.row w.heap.size fun _=>.mut b).at b (w.heap.size,0,c.size)) (w1.alloc (.cells c ty)):=Le.cJ jE
  (fun b' x hx=>by simp only[Ctx.at,Ctx.row];split;rename_i e;subst e;rw[hn]at hx;simp at hx;exact hx)
  (fun r o hk=>by simp only[Ctx.row,Ctx.at];rw[if_neg (aF r o _ hk (by simp))];exact hk) (fun _ _ _ h=>h) (fun _ _ hs=>hs.elim)
 refine⟨le,?_,fun b' x a a' d e=>⟨zg b' x a a' d e,by simp only[Ctx.at,Ctx.row];rw[if_neg e];exact d⟩⟩
 refine h.step (fun b'=>b'=b) jE le (fun _ _ hs=>hs.elim) (fun _ hm=>hm.elim) (fun r o hr=>?_) (fun b' x hx=>?_) (fun t e x hx=>Nat.lt_of_lt_of_le (h.cu t e x hx) hl) (fun b' _ cV=>?_) (fun r j b' cV=>?_) (fun _ _ _ _=>rfl) (fun b' x hx=>?_)
 ·simp at hr
  simp only[Ctx.row,Ctx.at];rw[if_neg (by omega)];exact h.fresh r o (by omega)
 ·simp only[Ctx.at,Ctx.row]at hx
  split at hx
  ·rename_i e;subst e;exact(List.getElem?_eq_some_iff.1 hb).1
  ·exact Nat.lt_of_lt_of_le (h.gZ b' x hx) hl
 ·simp only[Ctx.at,Ctx.row];rw[if_neg cV]
 ·constructor<;>intro e<;>simp only[Ctx.row,Ctx.at]<;>rw[if_neg (aF r j _ e (by simp))]<;>exact e
 ·by_cases e:b'=b
  ·subst e
   right
   rw[hb]at hx;cases hx
   intro r o q hq
   simp only[Ctx.at,if_true,Option.some.injEq,Prod.mk.injEq]at hq
   obtain⟨rfl,rfl,rfl⟩:=hq
   have lg:∀i,i<cs.length→i<c.size:=fun i hi=>by
    obtain⟨_,v,hv,_⟩:=hc i _ (List.getElem?_eq_getElem hi)
    exact(Array.getElem?_eq_some_iff.1 hv).1
   refine⟨?_,fun j _ hj=>⟨by simp[Ctx.row,Ctx.at],fun j0=>by rw[←hz];simp,by rw[←hz,World.cell?_alloc_new,Array.getElem?_eq_getElem hj];rfl⟩,fun i t hi=>?_⟩
   ·cases hO:cs.length with
    | zero=>omega
    | succ n=>have:=lg n (by omega);omega
   ·obtain⟨h1,v,h2,h3⟩:=hc i t hi
    exact⟨h1,v,by rw[←hz,World.cell?_alloc_new,Nat.zero_add];exact h2,h3.mono le⟩
  ·rcases hH b' x e hx with er|rfl
   ·exact .inl ⟨e,er⟩
   ·right;trivial
theorem bh (H:aa)(x:B):(H++[x])[H.length]?=some x:=by simp
theorem aL {H:aa}{x y:B}{b:Nat}(hb:b≠H.length)(h:(H++[x])[b]?=some y):H[b]?=some y:=by
 rw[List.getElem?_append]at h
 split at h
 ·exact h
 ·rename_i aA
  have:b-H.length≠0:=by omega
  cases hk:b-H.length with
  | zero=>omega
  | succ n=>simp[hk]at h
theorem cn {H:aa}{x y:B}{b:Nat}(h:H[b]?=some y):(H++[x])[b]?=some y:=by
 rw[List.getElem?_append_left (List.getElem?_eq_some_iff.1 h).1];exact h
theorem SR.tV (h:SR w0 g H w){b:Nat}(hb:H.length≤b):g.φ b=none:=by
 cases e:g.φ b with
 | none=>rfl
 | some x=>have:=h.gZ b x e;omega
theorem SR.Ck (h:SR w0 g H w){t e:Nat}(hb:H.length≤t):g.π t e=none:=by
 cases e':g.π t e with
 | none=>rfl
 | some x=>have:=h.cu t e x e';omega
theorem SR.cP {c:Array Value}{ty:TypeId}{w1:World}{cs:List T}(h:SR w0 g H w)(tr:Tr w w1 cz cW)(hz:w1.heap.size=w.heap.size)
  (hc:∀(i:Nat) (t:T),cs[i]?=some t→t.one=true∧∃v,c[i]?=some v∧VR g w t v) :
  ∃g',Le g w g' (w1.alloc (.cells c ty))∧SR w0 g' (H++[.cells cs]) (w1.alloc (.cells c ty))∧Fr g H g' (H++[.cells cs])∧g'.φ H.length=some (w.heap.size,0,c.size):=by
 obtain⟨le,sr,fr⟩:=h.mut (H':=H++[.cells cs]) (b:=H.length) (ty:=ty) tr hz (bh _ _) (h.tV (Nat.le_refl _)) (fun b' x e hx=>.inl (aL e hx)) (by simp) (fun b' x hx _ _ _=>cn hx) hc
 exact⟨_,le,sr,⟨by simp,fun b x a a' d=>fr b x a a' d (by have:=(List.getElem?_eq_some_iff.1 a).1;omega)⟩,by simp[Ctx.at]⟩
theorem ax.xJ {cs:List T}{vs:List Value}(h:ax g w cs vs)(ho:aS cs):∀(i:Nat) (t:T),cs[i]?=some t→t.one=true∧∃v,vs.toArray[i]?=some v∧VR g w t v :=
 fun i t hi=>⟨ho t (List.mem_of_getElem? hi),h.cm i t hi⟩
theorem pf {ty:TypeId}{i:TypeInfo}{zv:Value}{z:List T}(hi:P.info? ty=some i)(hz:i.zero=some zv)(hc:bN zv.cells.toList=some z)(h:SR w0 g H w) :
  aG P w0 g H w (Instr.alloc ty true (.tuple #[])) (.ptr H.length 0) (H++[.cells z]):=by
 obtain⟨hv,ho⟩:=bp (g:=g) (w:=w) _ _ hc
 obtain⟨g',le,sr,fr,hφ⟩:=h.cP (c:=zv.cells) (ty:=ty) (w1:=w) (Tr.refl w) rfl (by simpa using hv.xJ ho)
 refine⟨.pointer (some ⟨w.heap.size,0,none⟩),_,g',?_,le,sr,.ptr hφ,fr⟩
 simp[Instr.alloc,zeroValue,al hi,hz,newVar,newRow]
theorem uJ {ty:TypeId}{x:T}{cs:List T}{vx:Value}(h:SR w0 g H w)(hx:VR g w x vx)(hc:x.cells?=some cs) :
  aG P w0 g H w (Instr.box ty vx) (.ptr H.length 0) (H++[.cells cs]):=by
 obtain⟨hv,ho⟩:=dC hx hc
 obtain⟨g',le,sr,fr,hφ⟩:=h.cP (c:=vx.cells) (ty:=ty) (w1:=w) (Tr.refl w) rfl (by simpa using hv.xJ ho)
 refine⟨.pointer (some ⟨w.heap.size,0,none⟩),_,g',?_,le,sr,.ptr hφ,fr⟩
 simp[Instr.box,newVar,newRow]
theorem SR.qy {b:Nat}{H':aa}(h:SR w0 g H w)(hb:H'[b]?=some (.map []))(hn:g.φ b=none)(hH:∀b' x,b'≠b→H'[b']?=some x→H[b']?=some x)(hl:H.length≤H'.length) :
  Le g w ((g.row w.heap.size fun _=>.mut b).at b (w.heap.size,0,0)) (w.alloc (.map #[] 0))∧SR w0 ((g.row w.heap.size fun _=>.mut b).at b (w.heap.size,0,0)) H' (w.alloc (.map #[] 0)):=by
 have jE:=Tr.alloc w (.map #[] 0)
 have aF:∀r j ow,g.κ r j=ow→ow≠.free→r≠w.heap.size:=by rintro r j ow e hn rfl;exact hn (e▸h.fresh _ j (Nat.le_refl _))
 have le:Le g w ((g.row w.heap.size fun _=>.mut b).at b (w.heap.size,0,0)) (w.alloc (.map #[] 0)):=Le.cJ jE
  (fun b' x hx=>by simp only[Ctx.at,Ctx.row];split;rename_i e;subst e;rw[hn]at hx;simp at hx;exact hx)
  (fun r o hk=>by simp only[Ctx.row,Ctx.at];rw[if_neg (aF r o _ hk (by simp))];exact hk) (fun _ _ _ h=>h) (fun _ _ hs=>hs.elim)
 refine⟨le,?_⟩
 refine h.step (fun b'=>b'=b) jE le (fun _ _ hs=>hs.elim) (fun _ hm=>hm.elim) (fun r o hr=>?_) (fun b' x hx=>?_) (fun t e x hx=>Nat.lt_of_lt_of_le (h.cu t e x hx) hl) (fun b' _ cV=>?_) (fun r j b' cV=>?_) (fun _ _ _ _=>rfl) (fun b' x hx=>?_)
 ·simp at hr
  simp only[Ctx.row,Ctx.at];rw[if_neg (by omega)];exact h.fresh r o (by omega)
 ·simp only[Ctx.at,Ctx.row]at hx
  split at hx
  ·rename_i e;subst e;exact(List.getElem?_eq_some_iff.1 hb).1
  ·exact Nat.lt_of_lt_of_le (h.gZ b' x hx) hl
 ·simp only[Ctx.at,Ctx.row];rw[if_neg cV]
 ·constructor<;>intro e<;>simp only[Ctx.row,Ctx.at]<;>rw[if_neg (aF r j _ e (by simp))]<;>exact e
 ·by_cases e:b'=b
  ·subst e
   right
   rw[hb]at hx;cases hx
   intro r o q hq
   simp only[Ctx.at,if_true,Option.some.injEq,Prod.mk.injEq]at hq
   obtain⟨rfl,rfl,rfl⟩:=hq
   exact⟨by simp[Ctx.row,Ctx.at],#[],0,by show(w.heap.push _)[w.heap.size]?=_;simp,⟨rfl,by simp⟩,by simp[bU]⟩
  ·exact .inl ⟨e,hH b' x e hx⟩
theorem uK {ty:TypeId}(h:SR w0 g H w):aG P w0 g H w (Instr.makeMap ty none) (.map H.length) (H++[.map []]):=by
 obtain⟨le,sr⟩:=h.qy (H':=H++[.map []]) (b:=H.length) (bh _ _) (h.tV (Nat.le_refl _)) (fun b' x e hx=>aL e hx) (by simp)
 refine⟨.map (some w.heap.size),_,_,?_,le,sr,.map (r:=w.heap.size) (o:=0) (q:=0) (by simp[Ctx.at]),by simp,fun b x a _ d=>⟨cn a,?_⟩⟩
 ·simp[Instr.makeMap]
 ·have:=(List.getElem?_eq_some_iff.1 a).1
  simp only[Ctx.at,Ctx.row];rw[if_neg (by omega)];exact d
end
section
variable {P:Program} {w0 w:World} {g:Ctx} {H:aa}
theorem bf {H:aa}{b b':Nat}{x y:B}(aA:b<H.length)(h:(H.set b x)[b']?=some y):(b'=b∧y=x)∨(b'≠b∧H[b']?=some y):=by
 rw[List.getElem?_set]at h
 split at h
 ·rename_i e;subst e;simp[aA]at h;exact .inl ⟨rfl,h.symm⟩
 ·rename_i e;exact .inr ⟨fun e'=>e e'.symm,h⟩
theorem bB {H:aa}{b b':Nat}{x y:B}(h:H[b']?=some y)(aF:b'≠b):(H.set b x)[b']?=some y:=by
 rw[List.getElem?_set,if_neg (fun e=>aF e.symm)];exact h
theorem SR.store {b off r o q:Nat}{cs ts:List T}{vs:List Value}(h:SR w0 g H w)(hb:H[b]?=some (.cells cs))(hφ:g.φ b=some (r,o,q))(hle:off+ts.length≤cs.length)(hv:ax g w ts vs)(ho:aS ts) :
  Le g w g (w.setCells r (o+off) vs)∧SR w0 g (H.set b (.cells (cs.take off++ts++cs.drop (off+ts.length)))) (w.setCells r (o+off) vs):=by
 have fu:b<H.length:=(List.getElem?_eq_some_iff.1 hb).1
 obtain⟨h1,h2,h3⟩:=h.dv b _ hb r o q hφ
 have hl:=hv.1
 have hs:∀j,o+off≤j→j<o+off+vs.length→(w.cell? ⟨r,j,none⟩).isSome=true:=fun j a c=>(h2 j (by omega) (by omega)).2.2
 have tr:=Tr.setCells w r (o+off) vs hs
 have hS:∀r' j,lH r (o+off) vs.length r' j→g.κ r' j=.mut b:=by
  rintro r' j⟨rfl,a,c⟩;exact(h2 j (by omega) (by omega)).1
 have le:Le g w g (w.setCells r (o+off) vs):=Le.cJ tr (fun _ _ h=>h) (fun _ _ h=>h) (fun _ _ _ h=>h) (fun r' j g5 e=>by rw[hS r' j g5]at e;cases e)
 refine⟨le,h.step (fun b'=>b'=b) tr le (fun r' j g5=>.inr (.inl ⟨b,hS r' j g5,rfl⟩)) (fun _ hm=>hm.elim) (fun r' j hr=>h.fresh r' j (by rwa[bq]at hr)) (fun b' x hx=>by rw[List.length_set];exact h.gZ b' x hx)
  (fun t e x hx=>by rw[List.length_set];exact h.cu t e x hx) (fun _ _ _=>rfl) (fun _ _ _ _=>⟨id,id⟩) (fun _ _ _ _=>rfl) (fun b' x hx=>?_)⟩
 rcases bf fu hx with⟨rfl,rfl⟩|⟨aF,er⟩
 ·right
  intro r' o' q' dP
  rw[hφ]at dP;cases dP
  have hlen:(cs.take off++ts++cs.drop (off+ts.length)).length=cs.length:=by simp;omega
  refine⟨by rw[hlen];exact h1,fun j a c=>⟨(h2 j a c).1,fun j0=>by rw[World.frozen?_setCells];exact(h2 j a c).2.1 j0,tr.ey r j ?_ (h2 j a c).2.2⟩,fun i t hi=>?_⟩
  ·obtain⟨x,hx⟩:=Option.isSome_iff_exists.1 (h2 j a c).2.2;exact dN hx
  ·have gh:i<cs.length:=by rw[←hlen];exact(List.getElem?_eq_some_iff.1 hi).1
   by_cases jl:off≤i∧i<off+ts.length
   ·have ht:ts[i-off]?=some t:=by
     rw[List.append_assoc,List.getElem?_append_right (by simp;omega),List.getElem?_append_left (by simp;omega)]at hi
     rw[←hi];congr 1;simp;omega
    have aA:i-off<vs.length:=by omega
    refine⟨ho t (List.mem_of_getElem? ht),vs[i-off],?_,(hv.2 _ t _ ht (List.getElem?_eq_getElem aA)).mono le⟩
    have:=aX r vs (o+off) w hs (i-off) _ (List.getElem?_eq_getElem aA)
    rwa[show o+off+(i-off)=o+i by omega]at this
   ·have ht:cs[i]?=some t:=by
     by_cases aA:i<off
     ·rw[List.append_assoc,List.getElem?_append_left (by simp;omega),List.getElem?_take,if_pos aA]at hi;exact hi
     ·rw[List.getElem?_append_right (by simp;omega),List.getElem?_drop]at hi
      rw[←hi];congr 1;simp;omega
    obtain⟨a,v,xK,xL⟩:=h3 i t ht
    refine⟨a,v,?_,xL.mono le⟩
    rw[aV r vs (o+off) w r (o+i) (by omega)];exact xK
 ·exact .inl ⟨aF,er⟩
theorem kF {ty:TypeId}{i:TypeInfo}{v:Value}{r o:Nat}(hi:P.info? ty=some i)(cX:v.cells.size=i.size)(hc:∀j,j<v.cells.toList.length→(w.cell? ⟨r,o+j,none⟩).isSome=true)
  (hf:∀j,j<v.cells.toList.length→w.frozen? ⟨r,o+j,none⟩=false) (h1:∀x∈v.cells.toList,x.oneCell'=true) :
  (storeVar ty ⟨r,o,none⟩ v).run P w=.ok () (w.setCells r o v.cells.toList):=by
 have:=run_storeCells_cells (P:=P) r o v.cells.toList 0 w (by simpa using hc) (by simpa using hf) h1
 simp[storeVar,sizeOf,al hi,cX]
 simpa using this
theorem xM {ty:TypeId}{i:TypeInfo}{p x:T}{vp vx:Value}{ts:List T}{H':aa}(hi:P.info? ty=some i)(h:SR w0 g H w)(hp:VR g w p vp)(hx:VR g w x vx)(hc:x.cells?=some ts)(hn:ts.length=i.size)(he:ud H ts p=some H') :
  ∃w' g',(Instr.storeAt ty vp vx).run P w=.ok () w'∧Le g w g' w'∧SR w0 g' H' w'∧Fr g H g' H':=by
 obtain⟨hv,ho⟩:=dC hx hc
 cases hp<;>simp only[ud]at he<;>(try (simp at he;done))
 rename_i b off r o q hφ
 cases hb:H[b]? with
 | none=>simp[hb]at he
 | some y =>
  cases y<;>simp only[hb]at he<;>(try (simp at he;done))
  rename_i cs
  split at he
  ·rename_i hle
   simp only[Option.some.injEq]at he;subst he
   have fu:b<H.length:=(List.getElem?_eq_some_iff.1 hb).1
   obtain⟨h1,h2,h3⟩:=h.dv b _ hb r o q hφ
   obtain⟨le,sr⟩:=h.store hb hφ hle hv ho
   have hl:=hv.1
   refine⟨_,g,?_,le,sr,by simp,fun b' y' a _ d=>⟨bB a ?_,d⟩⟩
   ·have:=kF (P:=P) (w:=w) (ty:=ty) (r:=r) (o:=o+off) hi (v:=vx) (by rw[←hn,hl];simp) (fun j hj=>(h2 _ (by omega) (by omega)).2.2) (fun j hj=>(h2 (o+off+j) (by omega) (by omega)).2.1 _) (hv.dp ho)
    simpa[Instr.storeAt,Instr.sureAddr]using this
   ·rintro rfl;rw[hφ]at d;cases d
  ·simp at he
def World.aJ (w:World)(r:Nat)(o:Obj):World:={ w with heap:=w.heap.setIfInBounds r o }
theorem iy (w:World){r r':Nat}(o:Obj)(h:r'≠r):(World.aJ w r o).heap[r']?=w.heap[r']?:=by
 unfold World.aJ;simp only[Array.getElem?_setIfInBounds];rw[if_neg (fun e=>h e.symm)]
theorem iz (w:World){r:Nat}(o:Obj)(h:r<w.heap.size):(World.aJ w r o).heap[r]?=some o:=by
 unfold World.aJ;simp[h]
theorem lI (w:World){r:Nat}{x x':Obj}(hs:cw x=true)(g5:cw x'=true)(h:w.heap[r]?=some x)(a:Addr):(World.aJ w r x').cell? a=w.cell? a:=by
 have aA:r<w.heap.size:=(Array.getElem?_eq_some_iff.1 h).1
 unfold World.cell?
 by_cases e:a.block=r
 ·rw[e,iz w _ aA,h]
  cases x<;>simp[cw]at hs<;>cases x'<;>simp[cw]at g5<;>rfl
 ·rw[iy w _ e]
theorem m7 (w:World){r:Nat}{x x':Obj}(hs:cw x=true)(g5:cw x'=true)(h:w.heap[r]?=some x)(a:Addr):(World.aJ w r x').frozen? a=w.frozen? a:=by
 have aA:r<w.heap.size:=(Array.getElem?_eq_some_iff.1 h).1
 unfold World.frozen?
 by_cases e:a.block=r
 ·rw[e,iz w _ aA,h]
  cases x<;>simp[cw]at hs<;>cases x'<;>simp[cw]at g5<;>rfl
 ·rw[iy w _ e]
theorem Tr.m8 (w:World)(r:Nat){x x':Obj}(hs:cw x=true)(g5:cw x'=true)(h:w.heap[r]?=some x):Tr w (World.aJ w r x') cz (fun r'=>r'=r) where
 size:=by simp[World.aJ]
 cell r' j _ _:=lI w hs g5 h _
 nU r' j _:=m7 w hs g5 h _
 ey r' j _ hk:=by rw[lI w hs g5 h];exact hk
 maps r' x hm _ hk:=by rw[iy w _ hm];exact hk
 eu r' _ hm _:=iy w _ hm
 env:=⟨rfl,rfl⟩
theorem SR.kG {b r o q:Nat}{es zJ:List (T×T)}{af iA:Array MapEntry}{c c':Nat}(h:SR w0 g H w)(hb:H[b]?=some (.map es))(hφ:g.φ b=some (r,o,q))(hr:w.heap[r]?=some (.map af c))(hE:bw g w zJ iA)(hB:bU iA c') :
  Le g w g (World.aJ w r (.map iA c'))∧SR w0 g (H.set b (.map zJ)) (World.aJ w r (.map iA c'))∧Fr g H g (H.set b (.map zJ)):=by
 have fu:b<H.length:=(List.getElem?_eq_some_iff.1 hb).1
 obtain⟨h1,_⟩:=h.dv b _ hb r o q hφ
 have tr:=Tr.m8 w r (x:=.map af c) (x':=.map iA c') rfl rfl hr
 have le:Le g w g (World.aJ w r (.map iA c')):=Le.cJ tr (fun _ _ h=>h) (fun _ _ h=>h) (fun _ _ _ h=>h) (fun _ _ hs=>hs.elim)
 refine⟨le,h.step (fun b'=>b'=b) tr le (fun _ _ hs=>hs.elim) (fun r' hm=>⟨b,by rw[hm];exact h1,rfl⟩) (fun r' j fb=>h.fresh r' j (by simpa[World.aJ]using fb)) (fun b' x hx=>by rw[List.length_set];exact h.gZ b' x hx)
  (fun t e x hx=>by rw[List.length_set];exact h.cu t e x hx) (fun _ _ _=>rfl) (fun _ _ _ _=>⟨id,id⟩) (fun _ _ _ _=>rfl) (fun b' x hx=>?_),by simp,fun b' x a _ d=>⟨bB a (by rintro rfl;rw[hφ]at d;cases d),d⟩⟩
 rcases bf fu hx with⟨rfl,rfl⟩|⟨aF,er⟩
 ·right
  intro r' o' q' dP
  rw[hφ]at dP;cases dP
  refine⟨h1,iA,c',?_,hE.mono le,hB⟩
  have aA:r<w.heap.size:=(Array.getElem?_eq_some_iff.1 hr).1
  simp[World.aJ,aA]
 ·exact .inl ⟨aF,er⟩
theorem gn {n:Nat}{a b:T}{va vb:Value}(ha:VR g w a va)(hb:VR g w b vb)(he:du a b=some true):Instr.sameBits n va vb=true:=by
 cases ha<;>cases hb<;>simp[du]at he
 ·obtain⟨rfl,rfl⟩:=he;cases n<;>simp[Instr.sameBits]
 ·subst he;cases n<;>simp[Instr.sameBits]
 ·rename_i s1 s2
  have e:(s1==s2)=true:=by rw[beq_toListBytes];exact he
  cases n<;>exact e
theorem fS {n:Nat}:∀(as bs:List T) (xs ys:List Value),ax g w as xs→ax g w bs ys→aH as bs=some true→xs.length=ys.length∧(xs.zip ys).all (fun (x,y)=>Instr.sameBits n x y)=true
 | [],[],xs,ys,hx,hy,_=>by
  have a:=hx.1;have b:=hy.1
  simp at a b
  have e1:xs=[]:=List.eq_nil_of_length_eq_zero (by omega)
  have e2:ys=[]:=List.eq_nil_of_length_eq_zero (by omega)
  subst e1;subst e2;simp
 | a :: as,b :: bs,xs,ys,hx,hy,he=>by
  cases xs with
  | nil=>have:=hx.1;simp at this
  | cons x xs =>
   cases ys with
   | nil=>have:=hy.1;simp at this
   | cons y ys =>
    simp only[aH]at he
    cases e1:du a b with
    | none=>simp[e1]at he
    | some r1 =>
     cases e2:aH as bs with
     | none=>simp[e1,e2]at he
     | some r2 =>
      simp[e1,e2]at he
      obtain⟨rfl,rfl⟩:=he
      obtain⟨h1,h2⟩:=fS as bs xs ys hx.tail hy.tail e2
      exact⟨by simp[h1],by simp[gn hx.head hy.head e1];simpa using h2⟩
 | [],_ :: _,_,_,_,_,he=>by simp[aH]at he
 | _ :: _,[],_,_,_,_,he=>by simp[aH]at he
theorem iB {a b:T}{va vb:Value}(ha:VR g w a va)(hb:VR g w b vb)(he:dk a b=some true):Instr.sameBits 10000 va vb=true:=by
 by_cases h:∃as bs,a=.agg as∧b=.agg bs
 ·obtain⟨as,bs,rfl,rfl⟩:=h
  obtain⟨xs,rfl,hx,_⟩:=ha.cj
  obtain⟨ys,rfl,hy,_⟩:=hb.cj
  obtain⟨h1,h2⟩:=fS (n:=9999) as bs xs ys hx hy he
  show Instr.sameBits (9999+1) _ _=true
  rw[Instr.sameBits]
  simp[h1]
  simpa using h2
 ·have:du a b=some true:=by
   cases a<;>first|exact he|(cases b<;>first|exact he|exact absurd ⟨_,_,rfl,rfl⟩ h)
  exact gn ha hb this
theorem iC:∀(k:T) (es:List (T×T)) (i:Nat),bg k es=some (some i)→∃e,es[i]?=some e∧dk k e.1=some true
 | k,[],i,h=>by simp[bg]at h
 | k,e :: es,i,h=>by
  simp only[bg]at h
  cases hk:dk k e.1 with
  | none=>simp[hk]at h
  | some b =>
   cases b with
   | true=>simp[hk]at h;subst h;exact⟨e,rfl,hk⟩
   | false =>
    simp only[hk,Option.map_eq_some_iff]at h
    obtain⟨r,h1,h2⟩:=h
    cases r with
    | none=>simp at h2
    | some j =>
     simp at h2;subst h2
     obtain⟨e',h3,h4⟩:=iC k es j h1
     exact⟨e',by simpa using h3,h4⟩
theorem bw.set {es:List (T×T)}{af:Array MapEntry}(h:bw g w es af){k v:T}{vk vv:Value}(hk:VR g w k vk)(hv:VR g w v vv)(i:Nat) :
  bw g w (es.set i (k,v)) (af.modify i fun e=>{ e with key:=vk,val:=vv }):=by
 refine⟨by simp[h.1],fun j e m a b=>?_⟩
 rw[List.getElem?_set]at a
 rw[Array.getElem?_modify]at b
 split at a
 ·rename_i e'
  rw[if_pos e']at b
  subst e'
  split at a
  ·simp at a b
   obtain⟨m',_,rfl⟩:=b
   subst a
   exact⟨hk,hv⟩
  ·cases a
 ·rename_i e'
  rw[if_neg e']at b
  exact h.2 j e m a b
theorem bw.push {es:List (T×T)}{af:Array MapEntry}(h:bw g w es af){k v:T}{vk vv:Value}(hk:VR g w k vk)(hv:VR g w v vv)(c:Nat) :
  bw g w (es++[(k,v)]) (af.push { key:=vk,val:=vv,born:=c }):=by
 refine⟨by simp[h.1],fun j e m a b=>?_⟩
 rw[Array.getElem?_push,h.1]at b
 rw[List.getElem?_append]at a
 split at b
 ·rename_i e'
  subst e'
  simp at a b
  subst a;subst b
  exact⟨hk,hv⟩
 ·rename_i e'
  split at a
  ·exact h.2 j e m a b
  ·have:j<af.size:=(Array.getElem?_eq_some_iff.1 b).1
   rw[h.1]at this;omega
theorem bw.erase {es:List (T×T)}{af:Array MapEntry}(h:bw g w es af)(i:Nat)(hi:i<es.length):bw g w (es.eraseIdx i) (af.eraseIdxIfInBounds i):=by
 have cX:i<af.size:=by rw[h.1];exact hi
 have e1:(af.eraseIdxIfInBounds i).toList=af.toList.eraseIdx i:=by simp[Array.eraseIdxIfInBounds,cX]
 refine⟨by rw[←Array.length_toList,e1,List.length_eraseIdx,List.length_eraseIdx,if_pos hi,Array.length_toList,if_pos cX,h.1],fun j e m a b=>?_⟩
 have b':(af.toList.eraseIdx i)[j]?=some m:=by rw[←e1,Array.getElem?_toList];exact b
 rw[List.getElem?_eraseIdx]at a b'
 split at a
 ·rename_i aA;rw[if_pos aA]at b';exact h.2 j e m a (by simpa using b')
 ·rename_i aA;rw[if_neg aA]at b';exact h.2 _ e m a (by simpa using b')
theorem bU.set {af:Array MapEntry}{c:Nat}(h:bU af c)(k v:Value)(i:Nat):bU (af.modify i fun e=>{ e with key:=k,val:=v }) c:=by
 have e:(af.modify i fun e=>{ e with key:=k,val:=v }).toList.map (·.born)=af.toList.map (·.born):=by
  apply List.ext_getElem?
  intro j
  simp only[List.getElem?_map,Array.getElem?_toList,Array.getElem?_modify]
  split
  ·cases af[j]?<;>rfl
  ·rfl
 refine⟨fun m hm=>?_,by rw[e];exact h.2⟩
 have:=List.mem_map_of_mem (f:=fun m:MapEntry=>m.born) hm
 rw[e]at this
 obtain⟨m',h1,h2⟩:=List.mem_map.1 this
 rw[←h2];exact h.1 m' h1
theorem bU.push {af:Array MapEntry}{c:Nat}(h:bU af c)(k v:Value):bU (af.push { key:=k,val:=v,born:=c }) (c+1):=by
 refine⟨fun m hm=>?_,?_⟩
 ·rw[Array.toList_push,List.mem_append]at hm
  rcases hm with hm|hm
  ·exact Nat.lt_succ_of_lt (h.1 m hm)
  ·simp at hm;subst hm;exact Nat.lt_succ_self _
 ·rw[Array.toList_push,List.map_append,List.nodup_append]
  refine⟨h.2,by simp,fun a ha b hb=>?_⟩
  simp at hb
  subst hb
  obtain⟨m,hm,rfl⟩:=List.mem_map.1 ha
  exact Nat.ne_of_lt (h.1 m hm)
theorem bU.erase {af:Array MapEntry}{c:Nat}(h:bU af c)(i:Nat):bU (af.eraseIdxIfInBounds i) c:=by
 by_cases cX:i<af.size
 ·have e1:(af.eraseIdxIfInBounds i).toList=af.toList.eraseIdx i:=by simp[Array.eraseIdxIfInBounds,cX]
  exact⟨fun m hm=>h.1 m (by rw[e1]at hm;exact(List.eraseIdx_sublist _ _).subset hm),by rw[e1];exact h.2.sublist ((List.eraseIdx_sublist _ _).map _)⟩
 ·have e1:af.eraseIdxIfInBounds i=af:=by simp[Array.eraseIdxIfInBounds,cX]
  rw[e1];exact h
theorem uL {ty key elem:TypeId}{kt:KT}{b:Nat}{k v:T}{vm vk vv:Value}{es:List (T×T)}{r:Option Nat}(hu:P.underlying ty=some (.map key elem))(dS:ft P key kt=true)
  (h:SR w0 g H w) (hm:VR g w (.map b) vm) (hk:VR g w k vk) (hv:VR g w v vv) (m6:k.dt kt=true) (hb:H[b]?=some (.map es)) (hr:bg k es=some r) :
  ∃w' g',(Instr.mapUpdate ty vm vk vv).run P w=.ok () w'∧Le g w g' w'∧SR w0 g' (H.set b (.map (match r with|some i=>es.set i (k,v)|none=>es++[(k,v)]))) w'∧Fr g H g' (H.set b (.map (match r with|some i=>es.set i (k,v)|none=>es++[(k,v)]))):=by
 cases hm with
 | @map _ rr o q hφ =>
  obtain⟨h1,af,c,h2,hE,hB⟩:=h.dv b _ hb rr o q hφ
  have hf:=kE dS hk m6 es af.toList (by simpa using hE.1) (fun i e m a b=>hE.2 i e m a (by simpa using b)) hr
  have hc:=eA (P:=P) (w:=w) (e:=false) dS hk m6
  cases r with
  | none =>
   obtain⟨le,sr,fr⟩:=h.kG (c':=c+1) hb hφ h2 (hE.push hk hv c) (hB.push _ _)
   refine⟨_,g,?_,le,sr,fr⟩
   simp at hf
   simp[Instr.mapUpdate,run_underlying hu,getObj,setObj,Sem.run,h2,hc,hf,World.aJ]
  | some i =>
   obtain⟨e,he,zh⟩:=iC k es i hr
   have aA:i<af.size:=by rw[hE.1];exact(List.getElem?_eq_some_iff.1 he).1
   have xG:af[i]?=some af[i]:=Array.getElem?_eq_getElem aA
   have jD:=(hE.2 i e _ he xG).1
   have BN:=iB hk jD zh
   have Cl:Instr.sameBits 10000 af[i].key vk=true:=by
    have:dk e.1 k=some true∨True:=.inr trivial
    by_cases h':∃as bs,k=.agg as∧e.1=.agg bs
    ·obtain⟨as,bs,rfl,e2⟩:=h'
     have EA:∀(as bs:List T),aH as bs=some true→aH bs as=some true:=by
      intro as
      induction as with
      | nil=>intro bs nZ;cases bs<;>simp[aH]at nZ ⊢
      | cons a as ih =>
       intro bs nZ
       cases bs with
       | nil=>simp[aH]at nZ
       | cons b bs =>
        simp only[aH]at nZ ⊢
        cases e1:du a b with
        | none=>simp[e1]at nZ
        | some r1 =>
         cases e2:aH as bs with
         | none=>simp[e1,e2]at nZ
         | some r2 =>
          simp[e1,e2]at nZ
          obtain⟨rfl,rfl⟩:=nZ
          have:du b a=some true:=by
           cases a<;>cases b<;>simp[du,dj]at e1 ⊢
           ·exact⟨e1.1.symm,e1.2.symm⟩
           ·exact e1.symm
           ·exact e1.symm
          simp[this,ih bs e2]
     rw[e2]at jD zh
     exact iB jD hk (EA _ _ zh)
    ·have e1:du k e.1=some true:=by
      generalize e.1=d at *
      cases k<;>first|exact zh|(cases d<;>first|exact zh|exact absurd ⟨_,_,rfl,rfl⟩ h')
     have e2:du e.1 k=some true:=by
      generalize e.1=d at *
      cases k<;>cases d<;>simp[du,dj]at e1 ⊢
      ·exact⟨e1.1.symm,e1.2.symm⟩
      ·exact e1.symm
      ·exact e1.symm
     exact gn jD hk e2
   obtain⟨le,sr,fr⟩:=h.kG (c':=c) hb hφ h2 (hE.set hk hv i) (hB.set _ _ i)
   refine⟨_,g,?_,le,sr,fr⟩
   have hx:((some i:Option Nat).bind fun i=>(af.toList[i]?).map fun m=>(i,m.val))=some (i,af[i].val):=by simp[aA]
   rw[hx]at hf
   have EB:(Instr.keyThatStays af[i].key vk).run P w=.ok vk w:=by simp[Instr.keyThatStays,Cl]
   simp[Instr.mapUpdate,run_underlying hu,getObj,setObj,Sem.run,h2,hc,hf,aA,EB,World.aJ]
theorem uM {ty key elem xt rt:TypeId}{kt:KT}{b:Nat}{k:T}{vm vk:Value}{es:List (T×T)}{r:Option Nat}(hu:P.underlying ty=some (.map key elem))(dS:ft P key kt=true)
  (h:SR w0 g H w) (hm:VR g w (.map b) vm) (hk:VR g w k vk) (m6:k.dt kt=true) (hb:H[b]?=some (.map es)) (hr:bg k es=some r) :
  aG P w0 g H w (Builtin.delete_ #[ty,xt] rt #[vm,vk]) (.bl []) (match r with|some i=>H.set b (.map (es.eraseIdx i))|none=>H):=by
 cases hm with
 | @map _ rr o q hφ =>
  obtain⟨h1,af,c,h2,hE,hB⟩:=h.dv b _ hb rr o q hφ
  have hf:=kE dS hk m6 es af.toList (by simpa using hE.1) (fun i e m a b=>hE.2 i e m a (by simpa using b)) hr
  have hc:=eA (P:=P) (w:=w) (e:=af.isEmpty) dS hk m6
  cases r with
  | none =>
   obtain⟨le,sr,fr⟩:=h.kG (c':=c) hb hφ h2 hE hB
   have hH:H.set b (.map es)=H:=by
    apply List.ext_getElem?
    intro j
    rw[List.getElem?_set]
    split
    ·rename_i e;subst e;rw[if_pos (List.getElem?_eq_some_iff.1 hb).1,hb]
    ·rfl
   rw[hH]at sr fr
   refine⟨.tuple #[],_,g,?_,le,sr,.bl rfl (by simp),fr⟩
   simp at hf
   simp[Builtin.delete_,run_underlying hu,getObj,setObj,Sem.run,h2,hc,hf,World.aJ]
  | some i =>
   obtain⟨e,he,zh⟩:=iC k es i hr
   have DP:i<es.length:=(List.getElem?_eq_some_iff.1 he).1
   have aA:i<af.size:=by rw[hE.1];exact DP
   obtain⟨le,sr,fr⟩:=h.kG (c':=c) hb hφ h2 (hE.erase i DP) (hB.erase i)
   refine⟨.tuple #[],_,g,?_,le,sr,.bl rfl (by simp),fr⟩
   have hx:((some i:Option Nat).bind fun i=>(af.toList[i]?).map fun m=>(i,m.val))=some (i,af[i].val):=by simp[aA]
   rw[hx]at hf
   simp[Builtin.delete_,run_underlying hu,getObj,setObj,Sem.run,h2,hc,hf,World.aJ]
end
section
variable {P:Program} {w0 w:World} {g:Ctx} {H:aa}
theorem eB {n:Nat}:∀(es:List (List T)),(∀c∈es,c.length=n)→∀(i j:Nat) (c:List T) (t:T),es[i]?=some c→c[j]?=some t→es.flatten[i*n+j]?=some t
 | [],_,i,j,c,t,h,_=>by simp at h
 | d :: es,hn,i,j,c,t,h,hj=>by
  have hd:=hn d (by simp)
  cases i with
  | zero =>
   simp at h;subst h
   have aA:j<d.length:=(List.getElem?_eq_some_iff.1 hj).1
   simp only[List.flatten_cons,Nat.zero_mul,Nat.zero_add]
   rw[List.getElem?_append_left aA];exact hj
  | succ i =>
   have ih:=eB es (fun c hc=>hn c (by simp[hc])) i j c t (by simpa using h) hj
   simp only[List.flatten_cons]
   rw[List.getElem?_append_right (by rw[hd,Nat.succ_mul];omega)]
   rw[show(i+1)*n+j-d.length=i*n+j by rw[hd,Nat.succ_mul];omega];exact ih
theorem cA {n:Nat}(es:List (List T))(hn:∀c∈es,c.length=n):es.flatten.length=es.length*n:=by
 induction es with
 | nil=>simp
 | cons d es ih=>simp only[List.flatten_cons,List.length_append,List.length_cons,Nat.succ_mul,hn d (by simp),ih (fun c hc=>hn c (by simp[hc]))];omega
theorem VR.gp {k:SK}{es:List (List T)}{r o cap n:Nat}{vs:List Value}(hn:∀c∈es,c.length=n)(hv:ax g w es.flatten vs)(ho:aS es.flatten)(hc:es.length≤cap)(hk:o5 g k r o es.length cap n)
  (hi:∀(j:Nat) (v:Value),vs[j]?=some v→mL g w r (o+j) v):VR g w (.sl k es) (.slice (some ⟨r,o,none⟩) es.length cap):=by
 have key:∀(i j:Nat) (c:List T) (t:T),es[i]?=some c→c[j]?=some t→es.flatten[i*n+j]?=some t∧vs[i*n+j]?=some (vs.getD (i*n+j) undef):=by
  intro i j c t a b
  have h1:=eB es hn i j c t a b
  have aA:i*n+j<vs.length:=by rw[←hv.1];exact(List.getElem?_eq_some_iff.1 h1).1
  exact⟨h1,by rw[List.getElem?_eq_getElem aA,List.getD_eq_getElem?_getD,List.getElem?_eq_getElem aA,Option.getD_some]⟩
 refine .sl (n:=n) (fun i j=>vs.getD (i*n+j) undef) hk hc hn (fun i j c t a b=>?_) (fun i j c t a b=>?_)
 ·obtain⟨h1,h2⟩:=key i j c t a b
  exact⟨ho t (List.mem_of_getElem? h1),by rw[Nat.add_assoc];exact hi _ _ h2⟩
 ·obtain⟨h1,h2⟩:=key i j c t a b
  exact hv.2 _ t _ h1 h2
theorem fT (es:List (List T)):(es.map (·.map T.erase)).flatten=es.flatten.map T.erase:=by
 induction es with
 | nil=>rfl
 | cons c es ih=>simp only[List.map_cons,List.flatten_cons,List.map_append,ih]
theorem ax.erase {ts:List T}{vs:List Value}(h:ax g w ts vs):ax g w (ts.map T.erase) vs :=
 ⟨by simp[h.1],fun i t v a b=>by
  rw[List.getElem?_map]at a
  obtain⟨t',h1,rfl⟩:=Option.map_eq_some_iff.1 a
  exact(h.2 i t' v h1 b).erase⟩
theorem iD {ts:List T}(h:aS ts):aS (ts.map T.erase):=by
 intro t ht
 obtain⟨t',h1,rfl⟩:=List.mem_map.1 ht
 rw[o6];exact h t' h1
theorem xN {n:Nat}{y:T}{vy:Value}{new:List (List T)}(h:SR w0 g H w)(hy:VR g w y vy)(he:aI H n y=some new) :
  ∃vs:List Value,(Builtin.lenOf vy).run P w=.ok new.length w∧(Builtin.firstCells n new.length vy).run P w=.ok vs.toArray w∧ax g w new.flatten vs∧aS new.flatten∧(∀c∈new,c.length=n)∧vs.length=new.length*n:=by
 by_cases hs:∃s,y=.str s
 ·obtain⟨s,rfl⟩:=hs
  cases hy
  simp only[aI]at he
  split at he
  ·rename_i hn
   subst hn
   simp at he
   have hlen:new.length=s.size:=by rw[←he,List.length_map];exact Array.length_toList
   have gO:new.flatten=s.data.toList.map fun c=>T.int .u8 c.toNat:=by
    rw[←he]
    generalize s.data.toList=l
    induction l with
    | nil=>rfl
    | cons c l ih=>simp only[List.map_cons,List.flatten_cons,ih];rfl
   have hex:s.extract 0 s.size=s:=by simp
   refine⟨s.data.toList.map fun c=>.int .u8 c.toNat,by simp[Builtin.lenOf,hlen],?_,?_,?_,?_,?_⟩
   ·rw[hlen]
    simp only[Builtin.firstCells,hex,Sem.run_pure]
    congr 1
    apply Array.ext';simp
   ·rw[gO]
    refine⟨by simp,fun i t v a b=>?_⟩
    rw[List.getElem?_map]at a b
    obtain⟨c,h1,rfl⟩:=Option.map_eq_some_iff.1 a
    rw[h1]at b;simp at b;subst b
    exact .int _ _
   ·rw[gO];intro t ht
    obtain⟨c,_,rfl⟩:=List.mem_map.1 ht;rfl
   ·rw[←he];intro c hc
    obtain⟨_,_,rfl⟩:=List.mem_map.1 hc;rfl
   ·rw[hlen,List.length_map,Nat.mul_one];exact Array.length_toList
  ·simp at he
 ·obtain⟨a,cap,vs,rfl,_,h1,h2,h3,h4,h5,h6⟩:=fN h hy he (fun s e=>hs ⟨s,e⟩)
  refine⟨vs,by simp[Builtin.lenOf],?_,h3,h5,h6,h4⟩
  cases a with
  | none =>
   have:=(h1 rfl).1
   subst this
   simp at h4
   simp[Builtin.firstCells,h4]
  | some a =>
   obtain⟨_,h7⟩:=h2 a rfl
   have:=run_loadCells_list (P:=P) w a vs h7
   rw[h4]at this
   simpa[Builtin.firstCells]using this
theorem n3 (dL:Nat):∀(k c:Nat),c≤dL+(dL+768)/4→Builtin.growBy dL k c≤dL+(dL+768)/4
 | 0,c,h=>h
 | k+1,c,h=>by
  rw[Builtin.growBy]
  split
  ·exact h
  ·exact n3 dL k _ (by omega)
theorem uN {dL cap:Nat}(h:cap<dL):Builtin.nextslicecap dL cap≤dL+dL/4+512:=by
 unfold Builtin.nextslicecap
 split
 ·omega
 ·split
  ·omega
  ·have:=n3 dL 4 cap (by omega)
   omega
theorem n4 {dL cap bytes:Nat}(h:cap<dL)(hr:b8 dL bytes=true):¬Builtin.nextslicecap dL cap*bytes>2^48:=by
 have h1:=Nat.mul_le_mul_right bytes (uN h)
 simp only[b8,decide_eq_true_eq]at hr
 omega
structure gq (P:Program)(sT xT elem:TypeId)(ei:TypeInfo)(zv:Value)(n bytes:Nat):Prop where
 hu:P.underlying sT=some (.slice elem)
 hi:P.info? elem=some ei
 hx:∃d,P.underlying xT=some d∧∀k,d≠.int k
 hn:ei.size=n
 hz:ei.zero=some zv
 uO:zv.cells.size=n
 hb:ei.bytes=bytes
 Cm:bytes≠0
theorem fc {sT xT elem rt:TypeId}{ei:TypeInfo}{zv x:Value}{n bytes r o len cap m:Nat}{vs:List Value}(E:gq P sT xT elem ei zv n bytes)(hl:(Builtin.lenOf x).run P w=.ok m w)(hf:(Builtin.firstCells n m x).run P w=.ok vs.toArray w)
  (eC:len+m≤cap) (hs:(storeCells ⟨r,o+len*n,none⟩ vs).run P w=.ok () (w.setCells r (o+len*n) vs)) :
  (Builtin.append_ #[sT,xT] rt #[.slice (some ⟨r,o,none⟩) len cap,x]).run P w=.ok (.slice (some ⟨r,o,none⟩) (len+m) cap) (w.setCells r (o+len*n) vs):=by
 obtain⟨d,h1,h2⟩:=E.hx
 have hz:(match d with | .int _=>true|_=>false)=false:=by cases d<;>first|rfl|exact absurd rfl (h2 _)
 simp[Builtin.append_,run_underlying E.hu,run_underlying h1,hz,sizeOf,al E.hi,E.hn,hl,hf,eC,a6,hs]
theorem eD {sT xT elem rt:TypeId}{ei:TypeInfo}{zv x:Value}{n bytes:Nat}{base:Option Addr}{len cap:Nat}(E:gq P sT xT elem ei zv n bytes)(hl:(Builtin.lenOf x).run P w=.ok 0 w)(hf:(Builtin.firstCells n 0 x).run P w=.ok #[] w)(eC:len≤cap) :
  (Builtin.append_ #[sT,xT] rt #[.slice base len cap,x]).run P w=.ok (.slice base len cap) w:=by
 obtain⟨d,h1,h2⟩:=E.hx
 have hz:(match d with | .int _=>true|_=>false)=false:=by cases d<;>first|rfl|exact absurd rfl (h2 _)
 cases base<;>simp[Builtin.append_,run_underlying E.hu,run_underlying h1,hz,sizeOf,al E.hi,E.hn,hl,hf,eC,storeCells]
theorem eE (zc:Array Value)(n:Nat):(Builtin.zeroCells zc n).size=n*zc.size:=by simp[Builtin.zeroCells]
theorem cY {sT xT elem rt:TypeId}{ei:TypeInfo}{zv x:Value}{n bytes:Nat}{base:Option Addr}{len cap m:Nat}{eu vs:List Value}(E:gq P sT xT elem ei zv n bytes)(hl:(Builtin.lenOf x).run P w=.ok m w)(hf:∀w':World,w'.heap=w.heap→(Builtin.firstCells n m x).run P w'=.ok vs.toArray w')
  (ho:∀w':World,w'.heap=w.heap→(Builtin.firstCells n len (.slice base len cap)).run P w'=.ok eu.toArray w') (m9:cap<len+m) (hr:b8 (len+m) bytes=true) :
  ∃(bI:Nat) (rest:List Value),len+m≤bI∧rest.length=(bI-(len+m))*n ∧
   (Builtin.append_ #[sT,xT] rt #[.slice base len cap,x]).run P w=.ok (.slice (some ⟨w.heap.size,0,none⟩) (len+m) bI) (w.drew.alloc (.cells (eu++vs++rest).toArray elem)):=by
 obtain⟨d,h1,h2⟩:=E.hx
 have hz:(match d with | .int _=>true|_=>false)=false:=by cases d<;>first|rfl|exact absurd rfl (h2 _)
 have cZ:=n4 m9 hr
 have eC:¬len+m≤cap:=by omega
 let bI:=Question.cut (.appendCap (len+m) cap elem) (w.tape w.drawn (.appendCap (len+m) cap elem))
 have fO:len+m≤bI:=by simp only[bI,Question.cut];omega
 refine⟨bI,(Builtin.zeroCells zv.cells (bI-(len+m))).toList,fO,?_,?_⟩
 ·rw[Array.length_toList,eE,E.uO]
 ·have BM:=hf w.drew rfl
  have fv:=ho w.drew rfl
  have Cm:ei.bytes≠0:=by rw[E.hb];exact E.Cm
  simp only[gt_iff_lt,Nat.not_lt]at cZ
  have qz:Builtin.nextslicecap (len+m) cap*ei.bytes≤2^48:=by rw[E.hb];exact cZ
  simp only[Builtin.append_,List.getElem?_toArray,List.getElem?_cons_zero,List.getElem?_cons_succ,Sem.run_bind,run_underlying E.hu,run_underlying h1,Result.andThen_ok,sizeOf,al E.hi,E.hn,hl,Sem.run_pure,eC,if_false]
  cases d<;>first
   | exact absurd rfl (h2 _)
   | (simp[hl,eC,al E.hi,Cm,qz,Nat.not_lt.2 qz,run_choose,Question.forced,fv,BM,zeroValue,E.hz,newRow,bI];congr 2;apply Array.ext';simp)
theorem SR.zK {t e r p q m:Nat}{vs:List Value}(h:SR w0 g H w)(ht:H[t]?=some (.tok e))(hp:g.π t e=some (r,p,q))(hm:0<m)(eC:p+vs.length≤q) :
  let g':=((g.row r fun j=>if p≤j∧j<p+vs.length then .cG else g.κ r j).tok t (e+m) (r,p+vs.length,q))
  Le g w g' (w.setCells r p vs)∧SR w0 g' (H.set t (.tok (e+m))) (w.setCells r p vs)∧Fr g H g' (H.set t (.tok (e+m)))∧∀(i:Nat) (v:Value),vs[i]?=some v→mL g' (w.setCells r p vs) r (p+i) v:=by
 intro g'
 have zL:t<H.length:=(List.getElem?_eq_some_iff.1 ht).1
 obtain⟨r1,p1,q1,e1,h2,h3,h4⟩:=h.dv t _ ht
 rw[hp]at e1;cases e1
 have hs:∀j,p≤j→j<p+vs.length→(w.cell? ⟨r,j,none⟩).isSome=true:=fun j a c=>(h3 j a (by omega)).2.2
 have tr:=Tr.setCells w r p vs hs
 have hS:∀r' j,lH r p vs.length r' j→g.κ r' j=.spare t:=by
  rintro r' j⟨rfl,a,c⟩;exact(h3 j a (by omega)).1
 have hκ:∀r' j,g'.κ r' j=if r'=r∧p≤j∧j<p+vs.length then .cG else g.κ r' j:=by
  intro r' j
  simp only[g',Ctx.tok,Ctx.row]
  by_cases e:r'=r
  ·subst e;simp
  ·simp[e]
 have hπ:∀t' e',g'.π t' e'=if t'=t∧e'=e+m then some (r,p+vs.length,q)else g.π t' e':=fun t' e'=>rfl
 have le:Le g w g' (w.setCells r p vs):=Le.cJ tr (fun _ _ h=>h) (fun r' o hk=>by rw[hκ];split;rfl;exact hk)
  (fun t' e' x hx=>by rw[hπ];split;rename_i c;obtain⟨rfl,rfl⟩:=c;rw[h4 _ (by omega)]at hx;cases hx;exact hx)
  (fun r' j g5 e=>by rw[hS r' j g5]at e;cases e)
 have cG:∀(i:Nat) (v:Value),vs[i]?=some v→mL g' (w.setCells r p vs) r (p+i) v:=fun i v hi=>by
  have aA:i<vs.length:=(List.getElem?_eq_some_iff.1 hi).1
  exact⟨by rw[hκ];simp;omega,aX r vs p w hs i v hi⟩
 refine⟨le,h.step (fun b'=>b'=t) tr le (fun r' j g5=>.inr (.inr ⟨t,hS r' j g5,rfl⟩)) (fun _ hm=>hm.elim) (fun r' j hr=>?_) (fun b' x hx=>by rw[List.length_set];exact h.gZ b' x hx)
  (fun t' e' x hx=>?_) (fun _ _ _=>rfl) (fun r' j b' cV=>?_) (fun t' e' _ cV=>?_) (fun b' x hx=>?_),⟨by simp,fun b' x a c d=>⟨bB a (by rintro rfl;rw[ht]at a;cases a;exact absurd rfl (c e)),d⟩⟩,cG⟩
 ·rw[bq]at hr
  rw[hκ];split
  ·rename_i c;obtain⟨rfl,a,c⟩:=c
   have:=h.fresh r' j hr
   rw[(h3 j a (by omega)).1]at this;cases this
  ·exact h.fresh r' j hr
 ·rw[List.length_set]
  rw[hπ]at hx
  split at hx
  ·rename_i c;rw[c.1];exact zL
  ·exact h.cu t' e' x hx
 ·constructor<;>intro e'<;>rw[hκ]<;>split
  ·rename_i c;obtain⟨rfl,a,c⟩:=c;rw[(h3 j a (by omega)).1]at e';cases e'
  ·exact e'
  ·rename_i c;obtain⟨rfl,a,c⟩:=c;rw[(h3 j a (by omega)).1]at e';cases e';exact absurd rfl cV
  ·exact e'
 ·rw[hπ,if_neg (fun c=>cV c.1)]
 ·rcases bf zL hx with⟨rfl,rfl⟩|⟨aF,er⟩
  ·right
   refine⟨r,p+vs.length,q,by rw[hπ];simp,eC,fun j a c=>⟨?_,?_,?_⟩,fun e' he=>by rw[hπ,if_neg (by omega)];exact h4 e' (by omega)⟩
   ·rw[hκ,if_neg (by omega)];exact(h3 j (by omega) c).1
   ·intro j0;rw[World.frozen?_setCells];exact(h3 j (by omega) c).2.1 j0
   ·rw[aV r vs p w r j (by omega)];exact(h3 j (by omega) c).2.2
  ·exact .inl ⟨aF,er⟩
theorem SR.qA {c:Array Value}{ty:TypeId}{w1:World}{H':aa}{t e k:Nat}(h:SR w0 g H w)(tr:Tr w w1 cz cW)(hz:w1.heap.size=w.heap.size)(ht:H'[t]?=some (.tok e))(hk:k≤c.size)
  (gu:∀e',e≤e'→g.π t e'=none) (hH:∀b' x,b'≠t→H'[b']?=some x→H[b']?=some x) (hl:H.length≤H'.length) (zg:∀(b':Nat) (x:B),H[b']?=some x→(∀e:Nat,x≠.tok e)→H'[b']?=some x) :
  let g':=((g.row w.heap.size fun j=>if j<k then .cG else .spare t).tok t e (w.heap.size,k,c.size))
  Le g w g' (w1.alloc (.cells c ty))∧SR w0 g' H' (w1.alloc (.cells c ty))∧Fr g H g' H'∧(∀(j:Nat) (v:Value),j<k→c[j]?=some v→mL g' (w1.alloc (.cells c ty)) w.heap.size j v)∧g'.π t e=some (w.heap.size,k,c.size):=by
 intro g'
 have jE:=tr.trans (Tr.alloc w1 (.cells c ty))
 have aF:∀r j ow,g.κ r j=ow→ow≠.free→r≠w.heap.size:=by rintro r j ow e hn rfl;exact hn (e▸h.fresh _ j (Nat.le_refl _))
 have hπ:∀t' e',g'.π t' e'=if t'=t∧e'=e then some (w.heap.size,k,c.size)else g.π t' e':=fun t' e'=>rfl
 have hκ:∀r j,g'.κ r j=if r=w.heap.size then(if j<k then .cG else .spare t)else g.κ r j:=fun r j=>rfl
 have le:Le g w g' (w1.alloc (.cells c ty)):=Le.cJ jE (fun _ _ h=>h) (fun r o hk=>by rw[hκ,if_neg (aF r o _ hk (by simp))];exact hk)
  (fun t' e' x hx=>by rw[hπ];split;rename_i c;obtain⟨rfl,rfl⟩:=c;rw[gu _ (Nat.le_refl _)]at hx;cases hx;exact hx) (fun _ _ hs=>hs.elim)
 refine⟨le,?_,⟨hl,fun b' x a c d=>⟨zg b' x a c,d⟩⟩,fun j v hj hv=>⟨by rw[hκ];simp[hj],by rw[←hz,World.cell?_alloc_new];exact hv⟩,by rw[hπ];simp⟩
 refine h.step (fun b'=>b'=t) jE le (fun _ _ hs=>hs.elim) (fun _ hm=>hm.elim) (fun r o hr=>?_) (fun b' x hx=>Nat.lt_of_lt_of_le (h.gZ b' x hx) hl) (fun t' e' x hx=>?_) (fun _ _ _=>rfl) (fun r j b' cV=>?_) (fun t' e' _ cV=>?_) (fun b' x hx=>?_)
 ·simp at hr
  rw[hκ,if_neg (by omega)];exact h.fresh r o (by omega)
 ·rw[hπ]at hx
  split at hx
  ·rename_i c;rw[c.1];exact(List.getElem?_eq_some_iff.1 ht).1
  ·exact Nat.lt_of_lt_of_le (h.cu t' e' x hx) hl
 ·constructor<;>intro e'<;>rw[hκ,if_neg (aF r j _ e' (by simp))]<;>exact e'
 ·rw[hπ,if_neg (fun c=>cV c.1)]
 ·by_cases e':b'=t
  ·subst e'
   right
   rw[ht]at hx;cases hx
   refine⟨w.heap.size,k,c.size,by rw[hπ];simp,hk,fun j a b=>⟨by rw[hκ];simp;omega,by rw[←hz];simp,by rw[←hz,World.cell?_alloc_new,Array.getElem?_eq_getElem b];rfl⟩,fun uP he=>by rw[hπ,if_neg (by omega)];exact gu uP (by omega)⟩
  ·exact .inl ⟨e',hH b' x e' hx⟩
theorem hP (w:World):Tr w w.drew cz cW:=Tr.drew w
theorem gv {w w':World}(h:w'.heap=w.heap)(a:Addr):w'.cell? a=w.cell? a:=by unfold World.cell?;rw[h]
theorem n5 {n:Nat}{y:T}{vy:Value}{new:List (List T)}(h:SR w0 g H w)(hy:VR g w y vy)(he:aI H n y=some new) :
  ∃vs:List Value,(Builtin.lenOf vy).run P w=.ok new.length w∧(∀w':World,w'.heap=w.heap→(Builtin.firstCells n new.length vy).run P w'=.ok vs.toArray w')∧ax g w new.flatten vs∧aS new.flatten∧(∀c∈new,c.length=n)∧vs.length=new.length*n:=by
 obtain⟨vs,h1,h2,h3,h4,h5,h6⟩:=xN (P:=P) h hy he
 refine⟨vs,h1,fun w' na=>?_,h3,h4,h5,h6⟩
 by_cases hs:∃s,y=.str s
 ·obtain⟨s,rfl⟩:=hs
  cases hy
  simp only[Builtin.firstCells,Sem.run_pure,Result.ok.injEq,and_true]at h2 ⊢
  exact h2
 ·obtain⟨a,cap,zb,rfl,_,k1,k2,k3,k4,k5,k6⟩:=fN h hy he (fun s e=>hs ⟨s,e⟩)
  cases a with
  | none =>
   simp only[Builtin.firstCells,Sem.run_pure,Result.ok.injEq,and_true]at h2 ⊢
   exact h2
  | some a =>
   obtain⟨_,h7⟩:=k2 a rfl
   have a1:=run_loadCells_list (P:=P) w a zb h7
   have a2:=run_loadCells_list (P:=P) w' a zb (fun j v hj=>by rw[gv na];exact h7 j v hj)
   rw[k4]at a1 a2
   simp only[Builtin.firstCells]at h2 ⊢
   rw[a1]at h2
   rw[a2]
   simp at h2
   rw[h2]
theorem uQ {sT xT elem rt:TypeId}{ei:TypeInfo}{zv:Value}{n bytes:Nat}{k:SK}{es new:List (List T)}{y t:T}{vx vy:Value}{H':aa}(E:gq P sT xT elem ei zv n bytes)
  (h:SR w0 g H w) (hx:VR g w (.sl k es) vx) (hy:VR g w y vy) (dR:es.all (·.length==n)=true) (jm:aI H n y=some new) (he:gY H bytes k es new=some (t,H')) :
  aG P w0 g H w (Builtin.append_ #[sT,xT] rt #[vx,vy]) t H':=by
 obtain⟨vs,s1,s2,s3,s4,s5,s6⟩:=n5 (P:=P) h hy jm
 obtain⟨a,cap,eu,rfl,fO,x1,x2,x3,x4,x5,x6⟩:=fN (n:=n) (es:=es) h hx (by simp only[aI,dR,if_true]) (fun s e=>by cases e)
 have fO:es.length≤cap:=fO
 cases gu:new with
 | nil =>
  subst gu
  simp only[gY,Option.some.injEq,Prod.mk.injEq]at he
  obtain⟨rfl,rfl⟩:=he
  have gi:vs=[]:=by simpa using s6
  subst gi
  exact aG.same h (eD E s1 (s2 w rfl) fO) hx
 | cons c0 Cn =>
  have hlen:0<new.length:=by rw[gu];simp
  rw[gu]at he
  simp only[gY]at he
  rw[←gu]at he
  split at he
  ·rename_i cZ
   have tQ:∀c∈es++new.map (·.map T.erase),c.length=n:=by
    intro c hc
    rcases List.mem_append.1 hc with hc|hc
    ·exact x6 c hc
    ·obtain⟨c',h1,rfl⟩:=List.mem_map.1 hc
     rw[List.length_map];exact s5 c' h1
   have gO:(es++new.map (·.map T.erase)).flatten=es.flatten++new.flatten.map T.erase:=by rw[List.flatten_append,fT]
   have wB:(es++new.map (·.map T.erase)).length=es.length+new.length:=by simp
   have ho:aS (es++new.map (·.map T.erase)).flatten:=by
    rw[gO];intro t ht
    rcases List.mem_append.1 ht with ht|ht
    ·exact x5 t ht
    ·exact iD s4 t ht
   have jf:(eu++vs).length=(es.length+new.length)*n:=by rw[List.length_append,x4,s6,Nat.add_mul]
   have grow:∀(t' e':Nat) (Hn:aa),cap<es.length+new.length→Hn[t']?=some (.tok e')→(∀uP,e'≤uP→g.π t' uP=none)→(∀b' x,b'≠t'→Hn[b']?=some x→H[b']?=some x)→H.length≤Hn.length →
     (∀(b':Nat) (x:B),H[b']?=some x→(∀e:Nat,x≠.tok e)→Hn[b']?=some x)→aG P w0 g H w (Builtin.append_ #[sT,xT] rt #[.slice a es.length cap,vy]) (.sl (.own t' e') (es++new.map (·.map T.erase))) Hn:=by
    intro t' e' Hn m9 k1 k2 k3 k4 k5
    have zd:∀w':World,w'.heap=w.heap→(Builtin.firstCells n es.length (.slice a es.length cap)).run P w'=.ok eu.toArray w':=by
     intro w' na
     cases a with
     | none =>
      have:=(x1 rfl).1
      subst this
      have:eu=[]:=by simpa using x4
      subst this
      simp[Builtin.firstCells]
     | some a =>
      obtain⟨_,h7⟩:=x2 a rfl
      have:=run_loadCells_list (P:=P) w' a eu (fun j v hj=>by rw[gv na];exact h7 j v hj)
      rw[x4]at this
      simpa[Builtin.firstCells]using this
    obtain⟨bI,rest,qB,uR,aK⟩:=cY (rt:=rt) (w:=w) E s1 s2 zd m9 cZ
    have cX:(eu++vs++rest).toArray.size=bI*n:=by
     simp only[List.size_toArray]
     rw[List.length_append,jf,uR,←Nat.add_mul];congr 1;omega
    obtain⟨le,sr,fr,cG,hp⟩:=h.qA (c:=(eu++vs++rest).toArray) (ty:=elem) (k:=(es.length+new.length)*n) (hP w) rfl k1 (by rw[cX];exact Nat.mul_le_mul_right _ qB) k2 k3 k4 k5
    refine⟨_,_,_,aK,le,sr,?_,fr⟩
    have hv:ax g w (es++new.map (·.map T.erase)).flatten (eu++vs):=by rw[gO];exact ax.append x3 s3.erase
    have:=VR.gp (k:=.own t' e') (r:=w.heap.size) (o:=0) (cap:=bI) tQ (hv.mono le) ho (by rw[wB];exact qB) ⟨by rw[hp,wB,cX];simp,by rw[wB];omega⟩ (fun j v hj=>?_)
    ·rw[wB]at this;exact this
    ·have aA:j<(eu++vs).length:=(List.getElem?_eq_some_iff.1 hj).1
     rw[Nat.zero_add]
     refine cG j v (by omega) ?_
     rw[List.getElem?_toArray,List.getElem?_append_left aA];exact hj
   cases k with
   | nil =>
    simp only[Option.some.injEq,Prod.mk.injEq]at he
    obtain⟨rfl,rfl⟩:=he
    have mZ:cap<es.length+new.length:=by
     cases hx with
     | slnil=>simpa using hlen
     | sl a0 hk=>exact hk.elim
    exact grow H.length _ _ mZ (bh _ _) (fun uP _=>h.Ck (Nat.le_refl _)) (fun b' x e hx=>aL e hx) (by simp) (fun b' x hx _=>cn hx)
   | full =>
    simp only[Option.some.injEq,Prod.mk.injEq]at he
    obtain⟨rfl,rfl⟩:=he
    have mZ:cap<es.length+new.length:=by
     cases hx with
     | sl a0 hk=>simp only[o5]at hk;omega
    exact grow H.length _ _ mZ (bh _ _) (fun uP _=>h.Ck (Nat.le_refl _)) (fun b' x e hx=>aL e hx) (by simp) (fun b' x hx _=>cn hx)
   | arg=>cases he
   | own t0 e0 =>
    cases ht:H[t0]? with
    | none=>simp[ht]at he
    | some bt =>
     cases bt with
     | tok e1 =>
      simp only[ht]at he
      split at he
      ·rename_i EC
       subst EC
       simp only[Option.some.injEq,Prod.mk.injEq]at he
       obtain⟨rfl,rfl⟩:=he
       have zL:t0<H.length:=(List.getElem?_eq_some_iff.1 ht).1
       obtain⟨r1,p1,q1,DQ,Co,mN,zM⟩:=h.dv t0 _ ht
       by_cases eC:es.length+new.length≤cap
       ·-- in place
        cases hx with
        | @sl _ _ r o _ n' a0 hk hc hn h3 h4 =>
         simp only[o5]at hk
         obtain⟨zN,ED⟩:=hk
         have uw:n'=n:=by
          cases es with
          | nil=>simp at ED
          | cons c es=>rw[←hn c (by simp),x6 c (by simp)]
         subst uw
         rw[DQ]at zN
         simp only[Option.some.injEq,Prod.mk.injEq]at zN
         obtain⟨rfl,rfl,rfl⟩:=zN
         have xO:o+es.length*n'+vs.length≤o+cap*n':=by
          rw[s6,Nat.add_assoc,←Nat.add_mul]
          exact Nat.add_le_add_left (Nat.mul_le_mul_right _ eC) _
         obtain⟨le,sr,fr,cG⟩:=h.zK (m:=new.length) (vs:=vs) ht DQ hlen xO
         have hU:=run_storeCells_cells (P:=P) r1 (o+es.length*n') vs 0 w (fun j hj=>by simpa using (mN (o+es.length*n'+j) (by omega) (by omega)).2.2) (fun j hj=>(mN (o+es.length*n'+j) (by omega) (by omega)).2.1 _) (s3.dp s4)
         rw[Nat.add_zero]at hU
         have aK:=fc (rt:=rt) (cap:=cap) E s1 (s2 w rfl) eC hU
         refine⟨_,_,_,aK,le,sr,?_,fr⟩
         have hv:ax g w (es++new.map (·.map T.erase)).flatten (eu++vs):=by rw[gO];exact ax.append x3 s3.erase
         have zO:∀(j:Nat) (v:Value),eu[j]?=some v→mL g w r1 (o+j) v:=by
          intro j v hj
          have aA:j<es.length*n':=by rw[←x4];exact(List.getElem?_eq_some_iff.1 hj).1
          obtain⟨_,h7⟩:=x2 _ rfl
          have cK:=h7 j v hj
          rw[a6]at cK
          have zP:0<n':=by
           rcases Nat.eq_zero_or_pos n' with e|e
           ·subst e;simp at aA
           ·exact e
          have hi:j/n'<es.length:=Nat.div_lt_of_lt_mul (by rw[Nat.mul_comm];exact aA)
          have e1:es[j/n']?=some es[j/n']:=List.getElem?_eq_getElem hi
          have hm:j%n'<(es[j/n']).length:=by rw[x6 _ (List.getElem_mem hi)];exact Nat.mod_lt _ zP
          have:=(h3 (j/n') (j%n') _ _ e1 (List.getElem?_eq_getElem hm)).2
          have ee:o+j/n'*n'+j%n'=o+j:=by rw[Nat.add_assoc,Nat.mul_comm,Nat.div_add_mod]
          rw[ee]at this
          exact⟨this.1,cK⟩
         have:=VR.gp (k:=.own t0 (e0+new.length)) (r:=r1) (o:=o) (cap:=cap) tQ (hv.mono le) ho (by rw[wB];exact eC) ⟨by rw[wB];simp[Ctx.tok,s6,Nat.add_mul,Nat.add_assoc],by rw[wB];omega⟩ (fun j v hj=>?_)
         ·rw[wB]at this;exact this
         ·rw[List.getElem?_append]at hj
          split at hj
          ·exact(zO j v hj).mono le
          ·rename_i pX
           have:=cG _ v hj
           rw[x4]at this pX
           rwa[show o+es.length*n'+(j-es.length*n')=o+j by omega]at this
       ·exact grow t0 (e0+new.length) _ (by omega) (by simp[zL]) (fun uP he=>zM uP (by omega)) (fun b' x aF hx=>by
          rcases bf zL hx with⟨e,_⟩|⟨_,er⟩
          ·exact absurd e aF
          ·exact er) (by simp) (fun b' x Cp aF=>bB Cp (by rintro rfl;rw[ht]at Cp;cases Cp;exact absurd rfl (aF e0)))
      ·cases he
     | cells _=>simp[ht]at he
     | map _=>simp[ht]at he
     | _=>simp[ht]at he
  ·cases he
end
section
variable {P:Program} {w0 w:World} {g:Ctx} {H:aa}
theorem SR.zQ {b r o q:Nat}{cs ts:List T}{vs:List Value}(h:SR w0 g H w)(hb:H[b]?=some (.cells cs))(hφ:g.φ b=some (r,o,q))(hv:ax g w ts vs)(ho:aS ts)(eC:o+cs.length+ts.length≤q) :
  let g':=((g.row r fun j=>if o≤j∧j<q then .mut H.length else g.κ r j).at H.length (r,o,q))
  Le g w g' (w.setCells r (o+cs.length) vs)∧SR w0 g' (H.set b .dead++[.cells (cs++ts)]) (w.setCells r (o+cs.length) vs)∧Fr g H g' (H.set b .dead++[.cells (cs++ts)]):=by
 intro g'
 have fu:b<H.length:=(List.getElem?_eq_some_iff.1 hb).1
 obtain⟨h1,h2,h3⟩:=h.dv b _ hb r o q hφ
 have hl:=hv.1
 have hs:∀j,o+cs.length≤j→j<o+cs.length+vs.length→(w.cell? ⟨r,j,none⟩).isSome=true:=fun j a c=>(h2 j (by omega) (by omega)).2.2
 have tr:=Tr.setCells w r (o+cs.length) vs hs
 have hS:∀r' j,lH r (o+cs.length) vs.length r' j→g.κ r' j=.mut b:=by
  rintro r' j⟨rfl,a,c⟩;exact(h2 j (by omega) (by omega)).1
 have hκ:∀r' j,g'.κ r' j=if r'=r∧o≤j∧j<q then .mut H.length else g.κ r' j:=by
  intro r' j
  simp only[g',Ctx.at,Ctx.row]
  by_cases e:r'=r
  ·subst e;simp
  ·simp[e]
 have dP:∀b',g'.φ b'=if b'=H.length then some (r,o,q)else g.φ b':=fun b'=>rfl
 have le:Le g w g' (w.setCells r (o+cs.length) vs):=Le.cJ tr
  (fun b' x hx=>by rw[dP];split;rename_i e;rw[e,h.tV (Nat.le_refl _)]at hx;cases hx;exact hx)
  (fun r' j hk=>by rw[hκ];split;rename_i c;obtain⟨rfl,a,c⟩:=c;rw[(h2 j a c).1]at hk;cases hk;exact hk) (fun _ _ _ h=>h) (fun r' j g5 e=>by rw[hS r' j g5]at e;cases e)
 refine⟨le,h.step (fun b'=>b'=b∨b'=H.length) tr le (fun r' j g5=>.inr (.inl ⟨b,hS r' j g5,.inl rfl⟩)) (fun _ hm=>hm.elim) (fun r' j hr=>?_) (fun b' x hx=>?_) (fun t e x hx=>?_) (fun b' cV hn=>?_) (fun r' j b' hn=>?_) (fun _ _ _ _=>rfl) (fun b' x hx=>?_),?_,fun b' x a c d=>?_⟩
 ·rw[bq]at hr
  rw[hκ];split
  ·rename_i c;obtain⟨rfl,a,c⟩:=c
   have:=h.fresh r' j hr
   rw[(h2 j a c).1]at this;cases this
  ·exact h.fresh r' j hr
 ·rw[dP]at hx
  simp only[List.length_append,List.length_set,List.length_singleton]
  split at hx
  ·omega
  ·have:=h.gZ b' x hx;omega
 ·simp only[List.length_append,List.length_set,List.length_singleton]
  have:=h.cu t e x hx;omega
 ·rw[dP,if_neg (by omega)]
 ·constructor<;>intro e<;>rw[hκ]<;>split
  ·rename_i c;obtain⟨rfl,a,c⟩:=c;rw[(h2 j a c).1]at e;cases e;exact absurd (.inl rfl) hn
  ·exact e
  ·rename_i c;obtain⟨rfl,a,c⟩:=c;rw[(h2 j a c).1]at e;cases e
  ·exact e
 ·by_cases e:b'=H.length
  ·right
   subst e
   have er:x=.cells (cs++ts):=by
    have:(H.set b B.dead++[.cells (cs++ts)])[H.length]?=some (.cells (cs++ts)):=by
     rw[List.getElem?_append_right (by simp)];simp
    rw[this]at hx;cases hx;rfl
   subst er
   intro r' o' q' hq
   rw[dP,if_pos rfl]at hq
   simp only[Option.some.injEq,Prod.mk.injEq]at hq
   obtain⟨rfl,rfl,rfl⟩:=hq
   refine⟨by rw[List.length_append];omega,fun j a c=>⟨by rw[hκ];simp[a,c],fun j0=>by rw[World.frozen?_setCells];exact(h2 j a c).2.1 j0,tr.ey r j ?_ (h2 j a c).2.2⟩,fun i t hi=>?_⟩
   ·obtain⟨x,hx⟩:=Option.isSome_iff_exists.1 (h2 j a c).2.2;exact dN hx
   ·rw[List.getElem?_append]at hi
    split at hi
    ·rename_i aA
     obtain⟨a,v,xK,xL⟩:=h3 i t hi
     exact⟨a,v,by rw[aV r vs _ w r (o+i) (by omega)];exact xK,xL.mono le⟩
    ·rename_i pX
     have aA:i-cs.length<vs.length:=by rw[←hl];exact(List.getElem?_eq_some_iff.1 hi).1
     refine⟨ho t (List.mem_of_getElem? hi),_,?_,(hv.2 _ t _ hi (List.getElem?_eq_getElem aA)).mono le⟩
     have:=aX r vs (o+cs.length) w hs (i-cs.length) _ (List.getElem?_eq_getElem aA)
     rwa[show o+cs.length+(i-cs.length)=o+i by omega]at this
  ·have nb:(H.set b B.dead)[b']?=some x:=aL (by simpa using e) hx
   rcases bf fu nb with⟨rfl,rfl⟩|⟨aF,er⟩
   ·right;trivial
   ·exact .inl ⟨by rintro (h|h);exact aF h;exact e h,er⟩
 ·simp
 ·have aA:b'<H.length:=(List.getElem?_eq_some_iff.1 a).1
  have aF:b'≠b:=by rintro rfl;rw[hφ]at d;cases d
  exact⟨cn (bB a aF),by rw[dP,if_neg (by omega)];exact d⟩
theorem qC {x:T}{vx:Value}(hx:VR g w x vx)(hk:p7 x=true):∃(a:Option Addr) (l c:Nat),vx=.slice a l c∧l≤c:=by
 cases hx with
 | slnil=>exact⟨_,_,_,rfl,Nat.le_refl _⟩
 | dn=>exact⟨_,_,_,rfl,Nat.le_refl _⟩
 | sl a0 nX hc hn h1 h2=>exact⟨_,_,_,rfl,hc⟩
 | aO h hc hq=>exact⟨_,_,_,rfl,hc⟩
 | _=>simp[p7]at hk
theorem qD {sT xT elem rt:TypeId}{ei:TypeInfo}{zv:Value}{n bytes:Nat}{x y t:T}{new:List (List T)}{vx vy:Value}{H':aa}(E:gq P sT xT elem ei zv n bytes)
  (h:SR w0 g H w) (hx:VR g w x vx) (hy:VR g w y vy) (jm:aI H n y=some new) (he:oZ H n bytes x new=some (t,H')) :
  aG P w0 g H w (Builtin.append_ #[sT,xT] rt #[vx,vy]) t H':=by
 obtain⟨vs,s1,s2,s3,s4,s5,s6⟩:=n5 (P:=P) h hy jm
 have jf:=cA new s5
 cases gu:new with
 | nil =>
  subst gu
  simp only[oZ]at he
  split at he
  case isFalse=>cases he
  rename_i hk
  simp only[Option.some.injEq,Prod.mk.injEq]at he
  obtain⟨rfl,rfl⟩:=he
  have gi:vs=[]:=by simpa using s6
  subst gi
  have:∃a l c,vx=.slice a l c∧l≤c:=qC hx hk
  obtain⟨a,l,c,rfl,zi⟩:=this
  exact aG.same h (eD E s1 (s2 w rfl) zi) hx
 | cons c0 Cn =>
  have hlen:0<new.length:=by rw[gu];simp
  rw[gu]at he
  simp only[oZ]at he
  rw[←gu]at he
  have empty:∀(a:Option Addr),vx=.slice a 0 0→b8 (0+new.length) bytes=true→t=.aO H.length 0 new.length n→H'=H++[.cells new.flatten]→aG P w0 g H w (Builtin.append_ #[sT,xT] rt #[vx,vy]) t H':=by
   rintro a rfl cZ rfl rfl
   have zR:∀w':World,w'.heap=w.heap→(Builtin.firstCells n 0 (.slice a 0 0)).run P w'=.ok ([]:List Value).toArray w':=by
    intro w' _
    cases a with
    | none=>simp[Builtin.firstCells]
    | some a=>simpa[Builtin.firstCells]using run_loadCells_list (P:=P) w' a [] (by simp)
   obtain⟨bI,rest,qB,uR,aK⟩:=cY (rt:=rt) (w:=w) E s1 s2 zR (by omega) cZ
   have cX:(([]:List Value)++vs++rest).toArray.size=bI*n:=by
    simp only[List.size_toArray,List.nil_append]
    rw[List.length_append,s6,uR,←Nat.add_mul];congr 1;omega
   have cK:∀(i:Nat) (t:T),new.flatten[i]?=some t→t.one=true∧∃v,(([]:List Value)++vs++rest).toArray[i]?=some v∧VR g w t v:=by
    intro i t hi
    obtain⟨v,h1,h2⟩:=s3.cm i t hi
    refine⟨s4 t (List.mem_of_getElem? hi),v,?_,h2⟩
    simp only[List.nil_append,List.getElem?_toArray]at h1 ⊢
    rw[List.getElem?_append_left (List.getElem?_eq_some_iff.1 h1).1];exact h1
   obtain⟨g',le,sr,fr,hφ⟩:=h.cP (c:=([]++vs++rest).toArray) (ty:=elem) (cs:=new.flatten) (hP w) rfl cK
   refine⟨_,_,g',aK,le,sr,?_,fr⟩
   rw[Nat.zero_add]at qB ⊢
   exact .aO (r:=w.heap.size) (o:=0) (off:=0) hφ qB (by rw[cX];simp)
  cases x with
  | sl k es =>
   cases k with
   | nil =>
    simp only at he
    split at he
    ·rename_i hc
     obtain⟨cZ,rfl⟩:=hc
     simp only[Option.some.injEq,Prod.mk.injEq]at he
     cases hx with
     | slnil=>exact empty none rfl (by simpa using cZ) he.1.symm he.2.symm
     | sl a0 hk=>exact hk.elim
    ·cases he
   | full =>
    simp only at he
    split at he
    ·rename_i hc
     obtain⟨cZ,rfl⟩:=hc
     simp only[Option.some.injEq,Prod.mk.injEq]at he
     cases hx with
     | sl a0 hk =>
      simp only[o5,List.length_nil]at hk
      subst hk
      exact empty _ rfl (by simpa using cZ) he.1.symm he.2.symm
    ·cases he
   | arg=>cases he
   | own _ _=>cases he
  | aO b off len n' =>
   simp only at he
   cases hb:H[b]? with
   | none=>simp[hb]at he
   | some z =>
    cases z with
    | cells cs =>
     simp only[hb]at he
     split at he
     ·rename_i hc
      obtain⟨rfl,rfl,lg,cZ⟩:=hc
      simp only[Option.some.injEq,Prod.mk.injEq]at he
      obtain⟨rfl,rfl⟩:=he
      cases hx with
      | @aO _ _ _ _ r o q cap hφ fO hq =>
       obtain⟨h1,h2,h3⟩:=h.dv b _ hb r o q hφ
       have fu:b<H.length:=(List.getElem?_eq_some_iff.1 hb).1
       by_cases eC:len+new.length≤cap
       ·have DR:o+cs.length+new.flatten.length≤q:=by
         rw[jf,←lg,←hq,Nat.add_assoc,←Nat.add_mul]
         have:=Nat.mul_le_mul_right n' eC
         omega
        obtain⟨le,sr,fr⟩:=h.zQ hb hφ s3 s4 DR
        have gi:vs.length=new.flatten.length:=by rw[s6,jf]
        have hU:=run_storeCells_cells (P:=P) r (o+0+len*n') vs 0 w (fun j hj=>by simpa using (h2 (o+len*n'+j) (by omega) (by omega)).2.2) (fun j hj=>(h2 (o+len*n'+j) (by omega) (by omega)).2.1 _) (s3.dp s4)
        rw[Nat.add_zero]at hU
        have aK:=fc (rt:=rt) (cap:=cap) E s1 (s2 w rfl) eC hU
        rw[lg]at aK
        refine⟨_,_,_,aK,le,sr,?_,fr⟩
        exact .aO (off:=0) (r:=r) (o:=o) (q:=q) (by simp[Ctx.at]) eC (by rw[←hq])
       ·have hp:gM H (len*n') (.ptr b 0)=some cs:=by simp[gM,hb,lg]
        obtain⟨r',o',eu,e1,e2,e3,e4,e5⟩:=fp h (.ptr hφ) hp
        cases e1
        have zd:∀w':World,w'.heap=w.heap→(Builtin.firstCells n' len (.slice (some ⟨r,o+0,none⟩) len cap)).run P w'=.ok eu.toArray w':=by
         intro w' na
         have:=run_loadCells_list (P:=P) w' ⟨r,o+0,none⟩ eu (fun j v hj=>by rw[gv na,a6];exact e3 j v hj)
         rw[e2]at this
         simpa[Builtin.firstCells]using this
        obtain⟨bI,rest,qB,uR,aK⟩:=cY (rt:=rt) (w:=w) E s1 s2 zd (by omega) cZ
        have cX:(eu++vs++rest).toArray.size=bI*n':=by
         simp only[List.size_toArray]
         rw[List.length_append,List.length_append,e2,s6,uR,←Nat.add_mul,←Nat.add_mul];congr 1;omega
        have qE:ax g w (cs++new.flatten) (eu++vs):=ax.append e4 s3
        obtain⟨le,sr,fr⟩:=h.mut (c:=(eu++vs++rest).toArray) (ty:=elem) (H':=H.set b .dead++[.cells (cs++new.flatten)]) (b:=H.length) (cs:=cs++new.flatten) (hP w) rfl
         (by rw[List.getElem?_append_right (by simp)];simp) (h.tV (Nat.le_refl _))
         (fun b' x aF hx=>by
          have nb:(H.set b B.dead)[b']?=some x:=aL (by simpa using aF) hx
          rcases bf fu nb with⟨_,rfl⟩|⟨_,er⟩
          ·exact .inr rfl
          ·exact .inl er) (by simp)
         (fun b' x a _ d _=>cn (bB a (by rintro rfl;rw[hφ]at d;cases d)))
         (fun i t hi=>by
          obtain⟨v,k1,k2⟩:=qE.cm i t hi
          refine⟨?_,v,?_,k2⟩
          ·rcases List.mem_append.1 (List.mem_of_getElem? hi)with hm|hm
           ·exact e5 t hm
           ·exact s4 t hm
          ·simp only[List.getElem?_toArray]at k1 ⊢
           rw[List.getElem?_append_left (List.getElem?_eq_some_iff.1 k1).1];exact k1)
        refine⟨_,_,_,aK,le,sr,.aO (r:=w.heap.size) (o:=0) (off:=0) (q:=(eu++vs++rest).toArray.size) (by simp[Ctx.at]) qB (by rw[cX];simp),by simp,fun b' x a c d=>fr b' x a c d (by have:=(List.getElem?_eq_some_iff.1 a).1;omega)⟩
     ·cases he
    | map _=>simp[hb]at he
    | tok _=>simp[hb]at he
    | _=>simp[hb]at he
  | _=>simp at he
theorem jF:∀(vs:List Value) (k off:Nat) (cells:Array Value),off+k+vs.length≤cells.size →
  ((vs.zipIdx k).foldl (fun (cs:Array Value) (x:Value×Nat)=>cs.setIfInBounds (off+x.2) x.1) cells).toList=cells.toList.take (off+k)++vs++cells.toList.drop (off+k+vs.length)
 | [],k,off,cells,_=>by simp
 | v :: vs,k,off,cells,h=>by
  simp only[List.length_cons]at h
  rw[List.zipIdx_cons,List.foldl_cons,jF vs (k+1) off _ (by simp;omega)]
  simp only[Array.toList_setIfInBounds,List.length_cons]
  have aA:off+k<cells.toList.length:=by simp;omega
  rw[show off+(k+1)=off+k+1 by omega,List.take_add_one]
  rw[show off+k+1+vs.length=off+k+(vs.length+1) by omega]
  rw[List.take_set_of_le (Nat.le_refl _),List.getElem?_set_self aA,List.drop_set_of_lt (by omega)]
  simp
theorem gw {off size:Nat}{v:Value}{cells:Array Value}(hs:v.cells.size=size)(hle:off+size≤cells.size) :
  (v.cells.zipIdx.foldl (fun (cs:Array Value) (x:Value×Nat)=>cs.setIfInBounds (off+x.2) x.1) cells).toList=cells.toList.take off++v.cells.toList++cells.toList.drop (off+size):=by
 have:=jF v.cells.toList 0 off cells (by simp[hs];omega)
 rw[←Array.foldl_toList,Array.toList_zipIdx]
 simpa[hs]using this
def placesOf (P:Program):List Field→List (Nat×Nat)
 | []=>[]
 | f :: fs=>(f.offset,P.cellsOf f.type) :: placesOf P fs
theorem run_places {fs:List Field}(hi:∀f∈fs,∃i,P.info? f.type=some i):(fs.mapM fun f=>do pure (f.offset,←sizeOf f.type):Sem (List (Nat×Nat))).run P w=.ok (placesOf P fs) w:=by
 induction fs with
 | nil=>simp[placesOf]
 | cons f fs ih =>
  obtain⟨i,hf⟩:=hi f (by simp)
  have ih:=ih (fun f' h'=>hi f' (by simp[h']))
  have h0:(sizeOf f.type).run P w=.ok i.size w:=by simp[sizeOf,al hf]
  rw[List.mapM_cons]
  simp only[Sem.run_bind,h0,Result.andThen_ok,Sem.run_pure,ih]
  simp[placesOf,Program.cellsOf,hf]
inductive PV (g:Ctx)(w:World)(R:ah):List (Nat×X)→List (Nat×Value)→Prop
 | nil:PV g w R [] []
 | cons {i:Nat} {x:X} {v:Value} {ps:List (Nat×X)} {pv:List (Nat×Value)} (h:VR g w (x.ev R) v) (hs:PV g w R ps pv):PV g w R ((i,x) :: ps) ((i,v) :: pv)
theorem uS {R:ah}{place:Nat→Option (Nat×Nat)}{ps:List (Nat×X)}{pv:List (Nat×Value)}(hv:PV g w R ps pv):∀(l:List (Nat×List T)) (z cs:List T) (cells:Array Value),(∀p∈ps,(place p.1).isSome=true) →
  bT R (ps.map fun p=>(((place p.1).getD (0,0)).1,((place p.1).getD (0,0)).2,p.2))=some l→e7 z l=some cs→ax g w z cells.toList→aS z →
  ∃a7,Instr.fill place cells pv=some a7∧ax g w cs a7.toList∧aS cs∧a7.size=cells.size:=by
 induction hv with
 | nil =>
  intro l z cs cells hp hl hf hz ho
  simp[bT]at hl;subst hl
  simp[e7]at hf;subst hf
  exact⟨cells,rfl,hz,ho,rfl⟩
 | @cons i x v ps pv zS _ ih =>
  intro l z cs cells hp hl hf hz ho
  have BO:=hp (i,x) (by simp)
  cases xP:place i with
  | none=>simp[xP]at BO
  | some os =>
   obtain⟨off,size⟩:=os
   simp only[List.map_cons,xP,Option.getD_some]at hl
   simp only[bT]at hl
   cases hc:(x.ev R).cells? with
   | none=>simp[hc]at hl
   | some c =>
    cases hr:bT R (ps.map fun p=>(((place p.1).getD (0,0)).1,((place p.1).getD (0,0)).2,p.2))with
    | none=>simp[hc,hr]at hl
    | some l' =>
     simp only[hc,hr]at hl
     split at hl
     ·rename_i hO
      simp at hl;subst hl
      simp only[e7]at hf
      split at hf
      ·rename_i hle
       obtain⟨n6,zT⟩:=dC zS hc
       have cX:v.cells.size=size:=by have:=n6.1;simp at this;omega
       have lJ:z.length=cells.size:=by have:=hz.1;simpa using this
       have Cq:off+size≤cells.size:=by omega
       have bG:=gw cX Cq
       have jg:ax g w (z.take off++c++z.drop (off+c.length)) (v.cells.zipIdx.foldl (fun (cs:Array Value) (x:Value×Nat)=>cs.setIfInBounds (off+x.2) x.1) cells).toList:=by
        rw[bG,hO]
        exact ax.append (ax.append (hz.take off) n6) (hz.drop (off+size))
       have fv:aS (z.take off++c++z.drop (off+c.length)):=by
        intro t ht
        rcases List.mem_append.1 ht with ht|ht
        ·rcases List.mem_append.1 ht with ht|ht
         ·exact ho t (List.mem_of_mem_take ht)
         ·exact zT t ht
        ·exact ho t (List.mem_of_mem_drop ht)
       obtain⟨a7,k1,k2,k3,k4⟩:=ih l' _ cs _ (fun x hx=>hp x (by simp[hx])) hr hf jg fv
       refine⟨a7,?_,k2,k3,?_⟩
       ·simp only[Instr.fill,xP]
        rw[if_neg]
        ·exact k1
        ·simp[cX];omega
       ·rw[k4]
        have:=congrArg List.length bG
        simp only[Array.length_toList,List.length_append,List.length_take,List.length_drop]at this
        omega
      ·cases hf
     ·cases hl
theorem pg {ty:TypeId}{fs:Array Field}{i:TypeInfo}{zv:Value}{R:ah}{ps:List (Nat×X)}{pv:List (Nat×Value)}{z cs:List T}{l:List (Nat×List T)}(hu:P.underlying ty=some (.struct fs))(hi:P.info? ty=some i)(hz:i.zero=some zv)(qF:bN zv.cells.toList=some z)
  (EE:∀f∈fs.toList,∃i,P.info? f.type=some i) (hp:∀p∈ps,p.1<fs.size) (h:SR w0 g H w) (hv:PV g w R ps pv)
  (hl:bT R (ps.map fun p=>((((placesOf P fs.toList)[p.1]?).getD (0,0)).1,(((placesOf P fs.toList)[p.1]?).getD (0,0)).2,p.2))=some l) (hf:e7 z l=some cs) :
  aG P w0 g H w (Instr.build ty pv.toArray) (.agg cs) H:=by
 obtain⟨ph,pY⟩:=bp (g:=g) (w:=w) _ _ qF
 have hlen:∀l:List Field,(placesOf P l).length=l.length:=by
  intro l;induction l with
  | nil=>rfl
  | cons f l ih=>simp[placesOf,ih]
 have BP:∀p∈ps,((placesOf P fs.toList)[p.1]?).isSome=true:=fun p EF=>by
  have:=hp p EF
  rw[List.getElem?_eq_getElem (by rw[hlen];simpa using this)];rfl
 obtain⟨a7,k1,k2,k3,_⟩:=uS (place:=fun (i:Nat)=>(placesOf P fs.toList)[i]?) hv l z cs zv.cells BP hl hf ph pY
 refine aG.same h (v:=.agg a7) ?_ (by have:=k2.agg k3;simpa using this)
 have xP:(fs.mapM fun f=>do pure (f.offset,←sizeOf f.type):Sem (Array (Nat×Nat))).run P w=.ok (placesOf P fs.toList).toArray w:=by
  rw[Array.mapM_eq_mapM_toList]
  simp only[Sem.run_map,run_places EE,Result.andThen_ok]
 simp only[Instr.build,zeroValue,Sem.run_bind,al hi,hz,Result.andThen_ok,Sem.run_pure,run_underlying hu,xP]
 have e:(fun (x:Nat)=>(placesOf P fs.toList).toArray[x]?)=fun (i:Nat)=>(placesOf P fs.toList)[i]?:=by funext x;simp
 simp[e,k1]
end
section
variable {P:Program} {w0 w:World} {g:Ctx} {H:aa}
theorem eF {n:Nat}:∀(es:List (List T)) (i:Nat) (c:List T),(∀c∈es,c.length=n)→i<es.length→(es.set i c).flatten=es.flatten.take (i*n)++c++es.flatten.drop (i*n+n)
 | [],i,c,_,h=>by simp at h
 | d :: es,0,c,hn,_=>by
  have hd:=hn d (by simp)
  simp[←hd]
 | d :: es,i+1,c,hn,h=>by
  have hd:=hn d (by simp)
  have ih:=eF es i c (fun c hc=>hn c (by simp[hc])) (by simpa using h)
  simp only[List.set_cons_succ,List.flatten_cons,ih]
  have e1:(d++es.flatten).take ((i+1)*n)=d++es.flatten.take (i*n):=by
   rw[List.take_append,hd,Nat.succ_mul]
   rw[List.take_of_length_le (by omega)]
   congr 2;omega
  have e2:(d++es.flatten).drop ((i+1)*n+n)=es.flatten.drop (i*n+n):=by
   rw[List.drop_append,hd,Nat.succ_mul]
   rw[List.drop_of_length_le (by omega)]
   simp only[List.nil_append]
   congr 1;omega
  rw[e1,e2];simp
theorem qG {R:ah}{n:Nat}{ps:List (Nat×X)}{pv:List (Nat×Value)}(hv:PV g w R ps pv):∀(es fs:List (List T)) (cells:Array Value),dA n es R ps=some fs→(∀c∈es,c.length=n)→ax g w es.flatten cells.toList→aS es.flatten →
  ∃a7,Instr.fill (fun i=>some (i*n,n)) cells pv=some a7∧ax g w fs.flatten a7.toList∧aS fs.flatten∧(∀c∈fs,c.length=n)∧fs.length=es.length:=by
 induction hv with
 | nil =>
  intro es fs cells he hn hz ho
  simp[dA]at he;subst he
  exact⟨cells,rfl,hz,ho,hn,rfl⟩
 | @cons i x v ps pv zS _ ih =>
  intro es fs cells he hn hz ho
  simp only[dA]at he
  cases hc:(x.ev R).cells? with
  | none=>simp[hc]at he
  | some c =>
   simp only[hc]at he
   split at he
   ·rename_i ay
    obtain⟨hO,hi⟩:=ay
    obtain⟨n6,zT⟩:=dC zS hc
    have cX:v.cells.size=n:=by have:=n6.1;simp at this;omega
    have gO:=cA es hn
    have lJ:es.flatten.length=cells.size:=by have:=hz.1;simpa using this
    have hle:i*n+n≤cells.size:=by
     rw[←lJ,gO,←Nat.succ_mul];exact Nat.mul_le_mul_right _ hi
    have bG:=gw cX hle
    have nf:=eF es i (c.map T.erase) hn hi
    have jg:ax g w (es.set i (c.map T.erase)).flatten (v.cells.zipIdx.foldl (fun (cs:Array Value) (x:Value×Nat)=>cs.setIfInBounds (i*n+x.2) x.1) cells).toList:=by
     rw[bG,nf]
     exact ax.append (ax.append (hz.take _) n6.erase) (hz.drop _)
    have fv:aS (es.set i (c.map T.erase)).flatten:=by
     rw[nf]
     intro t ht
     rcases List.mem_append.1 ht with ht|ht
     ·rcases List.mem_append.1 ht with ht|ht
      ·exact ho t (List.mem_of_mem_take ht)
      ·exact iD zT t ht
     ·exact ho t (List.mem_of_mem_drop ht)
    obtain⟨a7,k1,k2,k3,k4,k5⟩:=ih _ fs _ he (fun c' iq=>by
     rcases List.mem_or_eq_of_mem_set iq with h|h
     ·exact hn c' h
     ·rw[h,List.length_map];exact hO) jg fv
    refine⟨a7,?_,k2,k3,k4,by simpa using k5⟩
    simp only[Instr.fill]
    rw[if_neg]
    ·exact k1
    ·simp[cX];omega
   ·cases he
theorem eG {n:Nat}{z:List T}{zc:Array Value}(hz:ax g w z zc.toList)(hn:z.length=n)(m:Nat):ax g w (List.replicate m z).flatten ((Array.range (m*n)).map (fun i=>zc[i%zc.size]!)).toList:=by
 have uO:zc.size=n:=by have:=hz.1;simp at this;omega
 refine⟨by simp[hn],fun i t v a b=>?_⟩
 have hi:i<m*n:=by
  have:=(List.getElem?_eq_some_iff.1 b).1
  simpa using this
 have zU:0<n:=by
  rcases Nat.eq_zero_or_pos n with e|e
  ·subst e;simp at hi
  ·exact e
 have EG:i/n<m:=Nat.div_lt_of_lt_mul (by rw[Nat.mul_comm];exact hi)
 have zV:i%n<z.length:=by rw[hn];exact Nat.mod_lt _ zU
 have e1:(List.replicate m z)[i/n]?=some z:=by simp[EG]
 have:=eB (n:=n) (List.replicate m z) (fun c hc=>by rw[List.eq_of_mem_replicate hc];exact hn) (i/n) (i%n) z _ e1 (List.getElem?_eq_getElem zV)
 rw[show i/n*n+i%n=i by rw[Nat.mul_comm,Nat.div_add_mod]]at this
 rw[this]at a
 simp at a;subst a
 have aA:i%zc.size<zc.toList.length:=by rw[uO];simp[uO];exact Nat.mod_lt _ zU
 have e2:zc.toList[i%zc.size]?=some v:=by
  simp[hi]at b
  rw[←b,List.getElem?_eq_getElem aA]
  have:i%zc.size<zc.size:=by simpa using aA
  simp[this]
 rw[uO]at e2
 exact hz.2 (i%n) _ v (List.getElem?_eq_getElem zV) e2
theorem dD {z:List T}(ho:aS z)(m:Nat):aS (List.replicate m z).flatten:=by
 intro t ht
 obtain⟨c,h1,h2⟩:=List.mem_flatten.1 ht
 rw[List.eq_of_mem_replicate h1]at h2
 exact ho t h2
theorem qH (w:World):Tr w w cz cW:=Tr.refl w
theorem uT {ty elem:TypeId}{ei:TypeInfo}{zv:Value}{R:ah}{ps:List (Nat×X)}{pv:List (Nat×Value)}{z:List T}{len:Nat}{fs:List (List T)}(hu:P.underlying ty=some (.slice elem))(hi:P.info? elem=some ei)(hz:ei.zero=some zv)(qF:bN zv.cells.toList=some z)
  (ng:z.length=ei.size) (cX:len*ei.size≤2^24) (h:SR w0 g H w) (hv:PV g w R ps pv) (he:dA z.length (List.replicate len z) R ps=some fs) :
  aG P w0 g H w (Instr.buildSlice ty len pv.toArray) (.sl .full fs) H:=by
 obtain⟨ph,pY⟩:=bp (g:=g) (w:=w) _ _ qF
 have Cr:=eG ph ng len
 have zR:=dD pY len
 rw[ng]at he
 obtain⟨a7,k1,k2,k3,k4,k5⟩:=qG hv _ fs ((Array.range (len*ei.size)).map (fun i=>zv.cells[i%zv.cells.size]!)) he (fun c hc=>by rw[List.eq_of_mem_replicate hc];exact ng) Cr zR
 have hlen:fs.length=len:=by rw[k5];simp
 obtain⟨le,sr,fr,cG⟩:=h.cG (c:=a7) (ty:=elem) (qH w) rfl
 refine⟨.slice (some ⟨w.heap.size,0,none⟩) len len,_,_,?_,le,sr,?_,fr⟩
 ·have qI:¬len*ei.size>2^24:=by omega
  by_cases h0:len*ei.size=0
  ·have e0:((Array.range (len*ei.size)).map (fun i=>zv.cells[i%zv.cells.size]!))=((Array.range (len*ei.size)).map (fun i=>(#[]:Array Value)[i%(#[]:Array Value).size]!)):=by
    rw[h0];simp
   rw[e0]at k1
   simp only[Instr.buildSlice,Sem.run_bind,run_underlying hu,Result.andThen_ok,sizeOf,al hi,Sem.run_pure,qI,if_false,h0,if_true]
   rw[h0]at k1
   simp at k1
   simp[k1,newRow]
  ·simp only[Instr.buildSlice,Sem.run_bind,run_underlying hu,Result.andThen_ok,sizeOf,al hi,Sem.run_pure,qI,if_false,h0,zeroValue,hz]
   simp[k1,newRow]
 ·have:=VR.gp (k:=.full) (r:=w.heap.size) (o:=0) (cap:=fs.length) k4 (k2.mono le) k3 (Nat.le_refl _) rfl (fun j v hj=>by rw[Nat.zero_add];exact cG j v (by simpa using hj))
  rw[hlen]at this;exact this
theorem wrap_i64 {n:Int}(h0:0≤n)(h1:n≤9223372036854775807):IntKind.i64.wrap n=n:=IntWalk.i64_in n (by omega)
theorem run_makeSlice {ty elem:TypeId}{ei:TypeInfo}{zv:Value}{k1 k2:IntKind}{l c:Int}(hu:P.underlying ty=some (.slice elem))(hi:P.info? elem=some ei)(hz:ei.zero=some zv)(h0:0≤l)(zi:l≤c)(hc:c*ei.bytes≤281474976710656)(iq:c≤9223372036854775807) :
  (Instr.makeSlice ty (.int k1 l) (.int k2 c)).run P w=.ok (.slice (some ⟨w.heap.size,0,none⟩) l.toNat c.toNat)
   (w.alloc (.cells ((Array.range (c.toNat*ei.size)).map (fun i=>(if c.toNat*ei.size=0 then(#[]:Array Value)else zv.cells)[i%(if c.toNat*ei.size=0 then(#[]:Array Value)else zv.cells).size]!)) elem)):=by
 have e1:=wrap_i64 h0 (by omega:l≤9223372036854775807)
 have e2:=wrap_i64 (by omega:0≤c) iq
 have t1:((decide (c<0)||decide ((ei.bytes:Int)*c>2^48))||decide (l<0)||decide (l>c))=false:=by
  have:(ei.bytes:Int)*c=c*ei.bytes:=Int.mul_comm _ _
  simp[this];omega
 simp only[Instr.makeSlice,Sem.run_bind,run_underlying hu,Result.andThen_ok,asInt,asIntOf,Sem.run_pure,al hi,e1,e2,t1]
 by_cases hn:c.toNat*ei.size=0
 ·simp[sizeOf,al hi,hn,newRow]
 ·simp[sizeOf,al hi,hn,zeroValue,hz,newRow]
theorem uU {ty elem:TypeId}{ei:TypeInfo}{zv:Value}{mu:Bool}{z:List T}{x y t:T}{l c:Nat}{vx vy:Value}{H':aa}(hu:P.underlying ty=some (.slice elem))(hi:P.info? elem=some ei)(hz:ei.zero=some zv)(qF:bN zv.cells.toList=some z)(ng:z.length=ei.size)(zU:ei.size≠0)
  (h:SR w0 g H w) (hx:VR g w x vx) (hy:VR g w y vy) (hl:aR x=some l) (hc:aR y=some c) (zi:l≤c) (hb:c*ei.bytes≤281474976710656) (Gj:c≤9223372036854775807)
  (he:(if mu then(T.aO H.length 0 l z.length,H++[.cells (List.replicate l z).flatten])else if l=0 then(.sl .arg [],H)else(.sl (.own H.length l) (List.replicate l z),H++[.tok l]))=(t,H')) :
  aG P w0 g H w (Instr.makeSlice ty vx vy) t H':=by
 obtain⟨ph,pY⟩:=bp (g:=g) (w:=w) _ _ qF
 obtain⟨k1,n1,rfl,a1,b1⟩:=bA hx hl
 obtain⟨k2,n2,rfl,a2,b2⟩:=bA hy hc
 have aK:=run_makeSlice (P:=P) (w:=w) (k1:=k1) (k2:=k2) hu hi hz a1 (by omega:n1≤n2) (by
  have:(n2.toNat:Int)=n2:=Int.toNat_of_nonneg a2
  rw[←this,b2];omega) (by omega)
 rw[b1,b2]at aK
 have tW:=eG ph ng c
 have bJ:=dD pY c
 have qJ:(List.replicate c z).flatten=(List.replicate l z).flatten++(List.replicate (c-l) z).flatten:=by
  rw[←List.flatten_append,List.replicate_append_replicate];congr 2;omega
 have DS:(List.replicate l z).flatten.length=l*ei.size:=by rw[cA (n:=ei.size) _ (fun c hc=>by rw[List.eq_of_mem_replicate hc];exact ng),List.length_replicate]
 have fU:(Array.range (c*ei.size)).map (fun i=>(if c*ei.size=0 then(#[]:Array Value)else zv.cells)[i%(if c*ei.size=0 then(#[]:Array Value)else zv.cells).size]!)=(Array.range (c*ei.size)).map (fun i=>zv.cells[i%zv.cells.size]!):=by
  by_cases h0:c*ei.size=0
  ·rw[h0];simp
  ·simp only[h0,if_false]
 rw[fU]at aK
 generalize hA:(Array.range (c*ei.size)).map (fun i=>zv.cells[i%zv.cells.size]!)=A at aK tW
 have cX:A.size=c*ei.size:=by rw[←hA];simp
 have cK:∀(i:Nat) (t:T),(List.replicate l z).flatten[i]?=some t→t.one=true∧∃v,A[i]?=some v∧VR g w t v:=by
  intro i t gh
  have e:(List.replicate c z).flatten[i]?=some t:=by
   rw[qJ,List.getElem?_append_left (List.getElem?_eq_some_iff.1 gh).1];exact gh
  obtain⟨v,h1,h2⟩:=tW.cm i t e
  exact⟨bJ t (List.mem_of_getElem? e),v,by simpa using h1,h2⟩
 cases mu with
 | true =>
  simp only[if_true,Prod.mk.injEq]at he
  obtain⟨rfl,rfl⟩:=he
  obtain⟨g',le,sr,fr,hφ⟩:=h.cP (c:=A) (ty:=elem) (qH w) rfl cK
  exact⟨_,_,g',aK,le,sr,.aO (r:=w.heap.size) (o:=0) (off:=0) hφ zi (by rw[cX,ng];simp),fr⟩
 | false =>
  simp only[Bool.false_eq_true,if_false]at he
  split at he
  ·rename_i ze
   subst ze
   simp only[Prod.mk.injEq]at he
   obtain⟨rfl,rfl⟩:=he
   obtain⟨le,sr,fr,cG⟩:=h.cG (c:=A) (ty:=elem) (qH w) rfl
   exact⟨_,_,_,aK,le,sr,.sl (n:=0) (fun _ _=>.nilIface) trivial (by simp) (by simp) (by simp) (by simp),fr⟩
  ·rename_i ze
   simp only[Prod.mk.injEq]at he
   obtain⟨rfl,rfl⟩:=he
   obtain⟨le,sr,fr,cG,hp⟩:=h.qA (c:=A) (ty:=elem) (t:=H.length) (e:=l) (k:=l*ei.size) (H':=H++[.tok l]) (qH w) rfl (bh _ _) (by rw[cX];exact Nat.mul_le_mul_right _ zi) (fun uP _=>h.Ck (Nat.le_refl _))
    (fun b' x e hx=>aL e hx) (by simp) (fun b' x hx _=>cn hx)
   refine⟨_,_,_,aK,le,sr,?_,fr⟩
   have hv:ax g w (List.replicate l z).flatten (A.toList.take (l*ei.size)):=by
    have:=tW.take (l*ei.size)
    rwa[qJ,List.take_append_of_le_length (by omega),List.take_of_length_le (by omega)]at this
   have:=VR.gp (k:=.own H.length l) (r:=w.heap.size) (o:=0) (cap:=c) (n:=ei.size) (es:=List.replicate l z) (fun c hc=>by rw[List.eq_of_mem_replicate hc];exact ng) (hv.mono le) (dD pY l) (by simpa using zi)
    ⟨by rw[hp,cX];simp,by simp;omega⟩ (fun j v hj=>by
     rw[Nat.zero_add]
     rw[List.getElem?_take]at hj
     split at hj
     ·rename_i aA;exact cG j v aA (by simpa using hj)
     ·cases hj)
   simpa using this
theorem uV {f:Nat}{ew:List T}{vs:List Value}(h:SR w0 g H w)(hv:ax g w ew vs):aG P w0 g H w (Instr.makeFunc (.func f) #[] vs.toArray) (.fn f ew) H :=
 aG.same h rfl (.fn (by simp[hv.1]) (fun i t v a b=>hv.2 i t v a (by simpa using b)))
end
section
variable {P:Program} {w0 w:World} {g:Ctx} {H:aa}
theorem VR.y6 {t:T}{v:Value}(h:VR g w t v):VR g w (y6 t) v:=by
 cases h with
 | bS h hc hq=>exact .aO h hc hq
 | aO h hc hq=>exact .aO h hc hq
 | int k n=>exact .int k n
 | bool b=>exact .bool b
 | str s=>exact .str s
 | bE=>exact .bE
 | ptr h=>exact .ptr h
 | cq a0 h1 h2=>exact .cq a0 h1 h2
 | bL=>exact .bL
 | map h=>exact .map h
 | slnil=>exact .slnil
 | dn a=>exact .dn a
 | sl a0 hk hc hn h1 h2=>exact .sl a0 hk hc hn h1 h2
 | dz=>exact .dz
 | fn hl h=>exact .fn hl h
 | gL h=>exact .gL h
 | cE=>exact .cE
 | agg hl h1 h2=>exact .agg hl h1 h2
 | bl hl h2=>exact .bl hl h2
theorem uW {ty rt:TypeId}{e:TypeId}{b off len n c:Nat}{vx:Value}(hu:P.underlying ty=some (.slice e))(h:SR w0 g H w)(hx:VR g w (.bS b off len n c) vx) :
  aG P w0 g H w (Builtin.cap_ #[ty] rt #[vx]) (.int .i64 (c:Nat)) H:=by
 cases hx with
 | bS hφ hc hq=>exact aG.same h (v:=.int .i64 c) (by simp[Builtin.cap_,run_underlying hu,goInt]) (.int _ _)
theorem iE (cs:List T)(off n:Nat):∀k,off+k*n≤cs.length→((List.range k).map fun i=>(cs.drop (off+i*n)).take n).flatten=(cs.drop off).take (k*n)
 | 0,_=>by simp
 | k+1,h=>by
  have h':off+k*n≤cs.length:=by rw[Nat.succ_mul]at h;omega
  rw[List.range_succ,List.map_append,List.flatten_append,iE cs off n k h',Nat.succ_mul,List.take_add]
  simp[List.drop_drop]
theorem jG {n k:Nat}{y:T}{vy:Value}{new:List (List T)}(h:SR w0 g H w)(hy:VR g w y vy)(he:fo H n k y=some new) :
  ∃r o ly cap vs,vy=.slice (some ⟨r,o,none⟩) ly cap∧ue y=some ly∧(∀(j:Nat) (v:Value),vs[j]?=some v→w.cell? ⟨r,o+j,none⟩=some v)∧ax g w new.flatten vs∧vs.length=k*n∧aS new.flatten∧new.flatten.length=k*n:=by
 have key:∀(b off:Nat) (r o q:Nat),g.φ b=some (r,o,q)→(match H[b]? with|some (.cells cs)=>if off+k*n≤cs.length then some ((List.range k).map fun i=>(cs.drop (off+i*n)).take n)else none|_=>none)=some new →
   ∃vs,(∀(j:Nat) (v:Value),vs[j]?=some v→w.cell? ⟨r,o+off+j,none⟩=some v)∧ax g w new.flatten vs∧vs.length=k*n∧aS new.flatten∧new.flatten.length=k*n:=by
  intro b off r o q hφ he
  cases hb:H[b]? with
  | none=>simp[hb]at he
  | some z =>
   cases z<;>simp only[hb]at he<;>(try (cases he;done))
   rename_i cs
   split at he
   ·rename_i hle
    simp only[Option.some.injEq]at he
    have gO:=iE cs off n k hle
    rw[he]at gO
    have hp:gM H (k*n) (.ptr b off)=some new.flatten:=by simp[gM,hb,hle,gO]
    obtain⟨r',o',vs,e1,e2,e3,e4,e5⟩:=fp h (.ptr hφ) hp
    cases e1
    exact⟨vs,e3,e4,e2,e5,by rw[gO,List.length_take,List.length_drop];omega⟩
   ·cases he
 cases hy<;>simp only[fo]at he<;>(try (cases he;done))
 ·rename_i b off len n' r o q cap hφ hc hq
  obtain⟨vs,a1,a2,a3,a4,a5⟩:=key b off r o q hφ (by
   cases hb:H[b]? with
   | none=>simp[hb]at he
   | some z =>
    cases z<;>simp only[hb]at he ⊢<;>(try (cases he;done))
    split at he
    ·rename_i kH;rw[if_pos kH.2];exact he
    ·cases he)
  exact⟨r,o+off,len,cap,vs,rfl,rfl,a1,a2,a3,a4,a5⟩
 ·rename_i b off len n' r o q cap hφ hc hq
  obtain⟨vs,a1,a2,a3,a4,a5⟩:=key b off r o q hφ (by
   cases hb:H[b]? with
   | none=>simp[hb]at he
   | some z =>
    cases z<;>simp only[hb]at he ⊢<;>(try (cases he;done))
    split at he
    ·rename_i kH;rw[if_pos kH.2];exact he
    ·cases he)
  exact⟨r,o+off,len,cap,vs,rfl,rfl,a1,a2,a3,a4,a5⟩
theorem SR.xQ {b off r o q:Nat}{cs ts:List T}{vs:List Value}(h:SR w0 g H w)(hb:H[b]?=some (.cells cs))(hφ:g.φ b=some (r,o,q))(pa:off≤cs.length)(hle:o+off+ts.length≤q)(hv:ax g w ts vs)(ho:aS ts) :
  Le g w g (w.setCells r (o+off) vs)∧SR w0 g (H.set b (.cells (cs.take off++ts++cs.drop (off+ts.length)))) (w.setCells r (o+off) vs):=by
 have fu:b<H.length:=(List.getElem?_eq_some_iff.1 hb).1
 obtain⟨h1,h2,h3⟩:=h.dv b _ hb r o q hφ
 have hl:=hv.1
 have hs:∀j,o+off≤j→j<o+off+vs.length→(w.cell? ⟨r,j,none⟩).isSome=true:=fun j a c=>(h2 j (by omega) (by omega)).2.2
 have tr:=Tr.setCells w r (o+off) vs hs
 have hS:∀r' j,lH r (o+off) vs.length r' j→g.κ r' j=.mut b:=by
  rintro r' j⟨rfl,a,c⟩;exact(h2 j (by omega) (by omega)).1
 have le:Le g w g (w.setCells r (o+off) vs):=Le.cJ tr (fun _ _ h=>h) (fun _ _ h=>h) (fun _ _ _ h=>h) (fun r' j g5 e=>by rw[hS r' j g5]at e;cases e)
 refine⟨le,h.step (fun b'=>b'=b) tr le (fun r' j g5=>.inr (.inl ⟨b,hS r' j g5,rfl⟩)) (fun _ hm=>hm.elim) (fun r' j hr=>h.fresh r' j (by rwa[bq]at hr)) (fun b' x hx=>by rw[List.length_set];exact h.gZ b' x hx)
  (fun t e x hx=>by rw[List.length_set];exact h.cu t e x hx) (fun _ _ _=>rfl) (fun _ _ _ _=>⟨id,id⟩) (fun _ _ _ _=>rfl) (fun b' x hx=>?_)⟩
 rcases bf fu hx with⟨rfl,rfl⟩|⟨aF,er⟩
 ·right
  intro r' o' q' dP
  rw[hφ]at dP;cases dP
  have hlen:(cs.take off++ts++cs.drop (off+ts.length)).length=max cs.length (off+ts.length):=by simp;omega
  refine⟨by rw[hlen];omega,fun j a c=>⟨(h2 j a c).1,fun j0=>by rw[World.frozen?_setCells];exact(h2 j a c).2.1 j0,tr.ey r j ?_ (h2 j a c).2.2⟩,fun i t hi=>?_⟩
  ·obtain⟨x,hx⟩:=Option.isSome_iff_exists.1 (h2 j a c).2.2;exact dN hx
  ·have gh:i<max cs.length (off+ts.length):=by rw[←hlen];exact(List.getElem?_eq_some_iff.1 hi).1
   by_cases jl:off≤i∧i<off+ts.length
   ·have ht:ts[i-off]?=some t:=by
     rw[List.append_assoc,List.getElem?_append_right (by simp;omega),List.getElem?_append_left (by simp;omega)]at hi
     rw[←hi];congr 1;simp;omega
    have aA:i-off<vs.length:=by omega
    refine⟨ho t (List.mem_of_getElem? ht),vs[i-off],?_,(hv.2 _ t _ ht (List.getElem?_eq_getElem aA)).mono le⟩
    have:=aX r vs (o+off) w hs (i-off) _ (List.getElem?_eq_getElem aA)
    rwa[show o+off+(i-off)=o+i by omega]at this
   ·have ht:cs[i]?=some t:=by
     by_cases aA:i<off
     ·rw[List.append_assoc,List.getElem?_append_left (by simp;omega),List.getElem?_take,if_pos aA]at hi;exact hi
     ·rw[List.getElem?_append_right (by simp;omega),List.getElem?_drop]at hi
      rw[←hi];congr 1;simp;omega
    obtain⟨a,v,xK,xL⟩:=h3 i t ht
    refine⟨a,v,?_,xL.mono le⟩
    rw[aV r vs (o+off) w r (o+i) (by omega)];exact xK
 ·exact .inl ⟨aF,er⟩
theorem pj (w:World)(dT sT ty elem:TypeId){ei:TypeInfo}(b o xR Cs:Nat)(a:Addr)(xS Ct:Nat)(cs:List Value)
  (hu:P.underlying dT=some (.slice elem)) (hi:P.info? elem=some ei) (hn:cs.length=Nat.min xS xR*ei.size)
  (jm:∀(j:Nat) v,cs[j]?=some v→w.cell? (a.add j)=some v) (hc:∀j,j<cs.length→(w.cell? ⟨b,o+j,none⟩).isSome=true) (hf:∀j,j<cs.length→w.frozen? ⟨b,o+j,none⟩=false) (h1:∀v∈cs,v.oneCell'=true) :
  (Builtin.copy_ #[dT,sT] ty #[.slice (some ⟨b,o,none⟩) xR Cs,.slice (some a) xS Ct]).run P w=.ok (goInt (Nat.min xS xR:Nat)) (w.setCells b o cs):=by
 have hl:=run_loadCells_list (P:=P) w a cs jm
 have hU:=run_storeCells_cells (P:=P) b o cs 0 w (by simpa using hc) (by simpa using hf) h1
 rw[hn]at hl
 have hq:(typeInfo elem).run P w=.ok ei w:=al hi
 simp[Builtin.copy_,run_underlying hu,Builtin.lenOf,Builtin.firstCells,sizeOf,hq,hl,hU]
theorem uX {dT sT rt elem:TypeId}{ei:TypeInfo}{x y t:T}{vx vy:Value}{H':aa}(hu:P.underlying dT=some (.slice elem))(hi:P.info? elem=some ei)
  (h:SR w0 g H w) (hx:VR g w x vx) (hy:VR g w y vy) (he:p8 H ei.size x y=some (t,H')):aG P w0 g H w (Builtin.copy_ #[dT,sT] rt #[vx,vy]) t H':=by
 have key:∀b off len n' r o q cap,g.φ b=some (r,o,q)→len≤cap→o+off+cap*n'=q→vx=.slice (some ⟨r,o+off,none⟩) len cap →
   (∀ly,ue y=some ly→∀cs new,H[b]?=some (.cells cs)→fo H ei.size (min ly len) y=some new→n'=ei.size∧ei.size≠0∧off≤cs.length →
    t=.int .i64 (min ly len:Nat)→H'=H.set b (.cells (cs.take off++new.flatten++cs.drop (off+(min ly len)*ei.size)))→aG P w0 g H w (Builtin.copy_ #[dT,sT] rt #[vx,vy]) t H'):=by
  rintro b off len n' r o q cap hφ hc hq rfl ly xU cs new hb hK⟨rfl,zU,pa⟩ rfl rfl
  obtain⟨r2,o2,Gk,kD,vs,rfl,zW,a1,a2,a3,a4,a5⟩:=jG h hy hK
  rw[xU]at zW;cases zW
  have fu:b<H.length:=(List.getElem?_eq_some_iff.1 hb).1
  obtain⟨h1,h2,h3⟩:=h.dv b _ hb r o q hφ
  have hmul:min ly len*ei.size≤cap*ei.size:=Nat.mul_le_mul_right _ (by omega)
  have aK:=pj (P:=P) w dT sT rt elem r (o+off) len cap ⟨r2,o2,none⟩ ly kD vs hu hi (by rw[a3]) (fun j v hj=>by rw[a6];exact a1 j v hj) (fun j hj=>(h2 _ (by omega) (by omega)).2.2) (fun j hj=>(h2 (o+off+j) (by omega) (by omega)).2.1 _) (a2.dp a4)
  obtain⟨le,sr⟩:=h.xQ hb hφ pa (by rw[a5];omega) a2 a4
  rw[a5]at sr
  refine⟨_,_,g,aK,le,sr,by simpa[goInt]using .int _ _,by simp,fun b' y' a _ d=>⟨bB a ?_,d⟩⟩
  rintro rfl;rw[hφ]at d;cases d
 unfold p8 at he
 cases hx<;>simp only[]at he<;>(try (cases he;done))
 all_goals
  rename_i b off len n' r o q cap hφ hc hq
  cases xU:ue y with
  | none=>simp[xU]at he
  | some ly =>
   simp only[xU]at he
   cases hb:H[b]? with
   | none=>simp[hb]at he
   | some z =>
    cases hK:fo H ei.size (min ly len) y with
    | none=>cases z<;>simp[hb,hK]at he
    | some new =>
     cases z<;>simp only[hb,hK]at he<;>(try (cases he;done))
     split at he
     ·rename_i kH
      simp only[Option.some.injEq,Prod.mk.injEq]at he
      exact key b off len n' r o q cap hφ hc hq rfl ly xU _ new hb hK kH he.1.symm he.2.symm
     ·cases he
theorem qK {R:ah}{n:Nat}{ps:List (Nat×X)}{pv:List (Nat×Value)}(hv:PV g w R ps pv):∀(es fs:List (List T)) (cells:Array Value),dB n es R ps=some fs→(∀c∈es,c.length=n)→ax g w es.flatten cells.toList→aS es.flatten →
  ∃a7,Instr.fill (fun i=>some (i*n,n)) cells pv=some a7∧ax g w fs.flatten a7.toList∧aS fs.flatten∧(∀c∈fs,c.length=n)∧fs.length=es.length:=by
 induction hv with
 | nil =>
  intro es fs cells he hn hz ho
  simp[dB]at he;subst he
  exact⟨cells,rfl,hz,ho,hn,rfl⟩
 | @cons i x v ps pv zS _ ih =>
  intro es fs cells he hn hz ho
  simp only[dB]at he
  cases hc:(x.ev R).cells? with
  | none=>simp[hc]at he
  | some c =>
   simp only[hc]at he
   split at he
   ·rename_i ay
    obtain⟨hO,hi⟩:=ay
    obtain⟨n6,zT⟩:=dC zS hc
    have cX:v.cells.size=n:=by have:=n6.1;simp at this;omega
    have gO:=cA es hn
    have lJ:es.flatten.length=cells.size:=by have:=hz.1;simpa using this
    have hle:i*n+n≤cells.size:=by
     rw[←lJ,gO,←Nat.succ_mul];exact Nat.mul_le_mul_right _ hi
    have bG:=gw cX hle
    have nf:=eF es i c hn hi
    have jg:ax g w (es.set i c).flatten (v.cells.zipIdx.foldl (fun (cs:Array Value) (x:Value×Nat)=>cs.setIfInBounds (i*n+x.2) x.1) cells).toList:=by
     rw[bG,nf]
     exact ax.append (ax.append (hz.take _) n6) (hz.drop _)
    have fv:aS (es.set i c).flatten:=by
     rw[nf]
     intro t ht
     rcases List.mem_append.1 ht with ht|ht
     ·rcases List.mem_append.1 ht with ht|ht
      ·exact ho t (List.mem_of_mem_take ht)
      ·exact zT t ht
     ·exact ho t (List.mem_of_mem_drop ht)
    obtain⟨a7,k1,k2,k3,k4,k5⟩:=ih _ fs _ he (fun c' iq=>by
     rcases List.mem_or_eq_of_mem_set iq with h|h
     ·exact hn c' h
     ·rw[h];exact hO) jg fv
    refine⟨a7,?_,k2,k3,k4,by simpa using k5⟩
    simp only[Instr.fill]
    rw[if_neg]
    ·exact k1
    ·simp[cX];omega
   ·cases he
theorem SR.pk {c:Array Value}{ty:TypeId}{cs:List T}(h:SR w0 g H w)(cX:cs.length=c.size)
  (hc:∀(i:Nat) (t:T),cs[i]?=some t→t.one=true∧∃v,c[i]?=some v∧VR g w t v) :
  ∃g',Le g w g' (w.alloc (.cells c ty))∧SR w0 g' (H++[.lit cs]) (w.alloc (.cells c ty))∧Fr g H g' (H++[.lit cs])∧g'.φ H.length=some (w.heap.size,0,c.size):=by
 have jE:=Tr.alloc w (.cells c ty)
 have aF:∀r j ow,g.κ r j=ow→ow≠.free→r≠w.heap.size:=by rintro r j ow e hn rfl;exact hn (e▸h.fresh _ j (Nat.le_refl _))
 have zX:=h.tV (b:=H.length) (Nat.le_refl _)
 have hκ:∀r j,((g.row w.heap.size fun j=>if j=c.size then .mut H.length else .cG).at H.length (w.heap.size,0,c.size)).κ r j=if r=w.heap.size then(if j=c.size then .mut H.length else .cG)else g.κ r j:=fun r j=>rfl
 have le:Le g w ((g.row w.heap.size fun j=>if j=c.size then .mut H.length else .cG).at H.length (w.heap.size,0,c.size)) (w.alloc (.cells c ty)):=Le.cJ jE
  (fun b' x hx=>by simp only[Ctx.at,Ctx.row];split;rename_i e;subst e;rw[zX]at hx;simp at hx;exact hx)
  (fun r o hk=>by rw[hκ,if_neg (aF r o _ hk (by simp))];exact hk) (fun _ _ _ h=>h) (fun _ _ hs=>hs.elim)
 refine⟨_,le,?_,⟨by simp,fun b x a _ d=>⟨cn a,?_⟩⟩,by simp[Ctx.at]⟩
 ·refine h.step (fun b'=>b'=H.length) jE le (fun _ _ hs=>hs.elim) (fun _ hm=>hm.elim) (fun r o hr=>?_) (fun b' x hx=>?_) (fun t e x hx=>by have:=h.cu t e x hx;simp;omega) (fun b' _ cV=>?_) (fun r j b' cV=>?_) (fun _ _ _ _=>rfl) (fun b' x hx=>?_)
  ·simp at hr
   rw[hκ,if_neg (by omega)];exact h.fresh r o (by omega)
  ·simp only[Ctx.at,Ctx.row]at hx
   split at hx
   ·rename_i e;subst e;simp
   ·have:=h.gZ b' x hx;simp;omega
  ·simp only[Ctx.at,Ctx.row];rw[if_neg cV]
  ·constructor<;>intro e<;>rw[hκ,if_neg (aF r j _ e (by simp))]<;>exact e
  ·by_cases e:b'=H.length
   ·subst e
    right
    rw[bh]at hx;cases hx
    refine⟨w.heap.size,c.size,by simp[Ctx.at],by rw[hκ];simp,fun j hj=>by rw[hκ,if_pos rfl,if_neg hj],c,ty,by show(w.heap.push _)[w.heap.size]?=_;simp,rfl,cX,fun i t hi=>?_⟩
    obtain⟨a,v,b1,b2⟩:=hc i t hi
    exact⟨a,v,b1,b2.mono le⟩
   ·exact .inl ⟨e,aL e hx⟩
 ·have:=(List.getElem?_eq_some_iff.1 a).1
  simp only[Ctx.at,Ctx.row];rw[if_neg (by omega)];exact d
theorem SR.ni {c:Array Value}{ty:TypeId}{cs z:List T}{n:Nat}(h:SR w0 g H w)(cX:cs.length=c.size)
  (hc:∀(i:Nat) (t:T),cs[i]?=some t→t.one=true∧∃v,c[i]?=some v∧VR g w t v) :
  ∃g',Le g w g' (w.alloc (.cells c ty))∧SR w0 g' (H++[qb n z cs]) (w.alloc (.cells c ty))∧Fr g H g' (H++[qb n z cs])∧g'.φ H.length=some (w.heap.size,0,c.size):=by
 unfold qb
 split
 ·exact h.pk cX hc
 ·exact h.cP (qH w) rfl hc
theorem uY {ty elem:TypeId}{ei:TypeInfo}{zv:Value}{R:ah}{ps:List (Nat×X)}{pv:List (Nat×Value)}{z:List T}{len:Nat}{fs:List (List T)}(hu:P.underlying ty=some (.slice elem))(hi:P.info? elem=some ei)(hz:ei.zero=some zv)(qF:bN zv.cells.toList=some z)
  (ng:z.length=ei.size) (cX:len*ei.size≤2^24) (h:SR w0 g H w) (hv:PV g w R ps pv) (he:dB z.length (List.replicate len z) R ps=some fs) :
  aG P w0 g H w (Instr.buildSlice ty len pv.toArray) (.aO H.length 0 len z.length) (H++[qb len z fs.flatten]):=by
 obtain⟨ph,pY⟩:=bp (g:=g) (w:=w) _ _ qF
 have Cr:=eG ph ng len
 have zR:=dD pY len
 rw[ng]at he
 obtain⟨a7,k1,k2,k3,k4,k5⟩:=qK hv _ fs ((Array.range (len*ei.size)).map (fun i=>zv.cells[i%zv.cells.size]!)) he (fun c hc=>by rw[List.eq_of_mem_replicate hc];exact ng) Cr zR
 have hlen:fs.length=len:=by rw[k5];simp
 have gO:fs.flatten.length=len*ei.size:=by rw[cA fs k4,hlen]
 have lg:a7.size=len*ei.size:=by have:=k2.1;simp only[Array.length_toList]at this;omega
 obtain⟨g',le,sr,fr,hφ⟩:=h.ni (c:=a7) (ty:=elem) (cs:=fs.flatten) (n:=len) (z:=z) (by rw[gO,lg]) (fun i t hi=>by
  obtain⟨v,a1,a2⟩:=k2.cm i t hi
  exact⟨k3 t (List.mem_of_getElem? hi),v,by simpa using a1,a2⟩)
 refine⟨.slice (some ⟨w.heap.size,0,none⟩) len len,_,g',?_,le,sr,?_,fr⟩
 ·have qI:¬len*ei.size>2^24:=by omega
  by_cases h0:len*ei.size=0
  ·have e0:((Array.range (len*ei.size)).map (fun i=>zv.cells[i%zv.cells.size]!))=((Array.range (len*ei.size)).map (fun i=>(#[]:Array Value)[i%(#[]:Array Value).size]!)):=by
    rw[h0];simp
   rw[e0]at k1
   simp only[Instr.buildSlice,Sem.run_bind,run_underlying hu,Result.andThen_ok,sizeOf,al hi,Sem.run_pure,qI,if_false,h0,if_true]
   rw[h0]at k1
   simp at k1
   simp[k1,newRow]
  ·simp only[Instr.buildSlice,Sem.run_bind,run_underlying hu,Result.andThen_ok,sizeOf,al hi,Sem.run_pure,qI,if_false,h0,zeroValue,hz]
   simp[k1,newRow]
 ·rw[ng]
  exact .aO (r:=w.heap.size) (o:=0) (off:=0) hφ (Nat.le_refl _) (by rw[lg];simp)
theorem uZ {sT xT elem rt:TypeId}{ei:TypeInfo}{zv:Value}{z:List T}{kq kn:IntKind}{x t:T}{vx:Value}{k:Nat}{H':aa}(hu:P.underlying sT=some (.slice elem))(u0:P.underlying xT=some (.int kn))(hi:P.info? elem=some ei)(hz:ei.zero=some zv)(qF:bN zv.cells.toList=some z)
  (hb:ei.bytes≠0) (h:SR w0 g H w) (hx:VR g w x vx) (he:uf H ei.size ei.bytes z x k=some (t,H')):aG P w0 g H w (Builtin.append_ #[sT,xT] rt #[vx,.int kq k]) t H':=by
 unfold uf at he
 cases x<;>simp only[]at he<;>(try (cases he;done))
 rename_i b off len n' c
 cases hK:fo H ei.size len (.bS b off len n' c)with
 | none=>simp[hK]at he
 | some es =>
  simp only[hK]at he
  split at he
  ·rename_i kH
   obtain⟨rfl,zU,EH,hO,ng,cZ⟩:=kH
   simp only[Option.some.injEq,Prod.mk.injEq]at he
   obtain⟨rfl,rfl⟩:=he
   obtain⟨r,o,ly,cap,vs,rfl,xU,a1,a2,a3,a4,a5⟩:=jG h hx hK
   cases xU
   have fO:cap=c:=by cases hx;rfl
   subst fO
   obtain⟨ph,pY⟩:=bp (g:=g) (w:=w) _ _ qF
   have hold:(Builtin.firstCells ei.size len (.slice (some ⟨r,o,none⟩) len cap)).run P w.drew=.ok vs.toArray w.drew:=by
    have:=run_loadCells_list (P:=P) w.drew ⟨r,o,none⟩ vs (fun j v hj=>by rw[a6];exact a1 j v hj)
    rw[a3]at this
    simpa[Builtin.firstCells]using this
   have BQ:¬Builtin.nextslicecap (len+k) cap*ei.bytes>2^48:=n4 hO cZ
   have hr:=cZ
   simp only[b8,decide_eq_true_eq]at hr
   have wC:(len+k)*ei.bytes≤281474976710656:=Nat.le_trans (Nat.mul_le_mul_right _ (by omega)) hr
   have Cu:len+k≤281474976710656:=Nat.le_trans (Nat.le_mul_of_pos_right _ (by omega)) wC
   have EI:k*ei.bytes≤281474976710656:=Nat.le_trans (Nat.mul_le_mul_right _ (by omega)) wC
   have aK:=Go.Lib.run_append_grow_zeros (P:=P) w sT xT rt elem ei zv kq kn hu u0 hi hz (some ⟨r,o,none⟩) len cap vs hold k EH (by omega) hO (by omega) EI (by omega)
   have uO:zv.cells.toList.length=ei.size:=by have:=ph.1;omega
   have zY:zv.cells.size=ei.size:=by simpa using uO
   have qE:ax g w (es.flatten++(List.replicate k z).flatten) (vs++(Builtin.zeroCells zv.cells k).toList):=by
    refine ax.append a2 ?_
    have:=eG ph ng k
    simpa[Builtin.zeroCells,zY]using this
   have pX:=grownCap_ge w (len+k) cap elem
   generalize grownCap w (len+k) cap elem=nc at aK pX
   have zZ:aS (es.flatten++(List.replicate k z).flatten):=fun t ht=>by
    rcases List.mem_append.1 ht with ht|ht
    ·exact a4 t ht
    ·exact dD pY k t ht
   have cX:(vs.toArray++Builtin.zeroCells zv.cells k++Builtin.zeroCells zv.cells (nc-(len+k))).size=nc*ei.size:=by
    simp only[Array.size_append,eE,List.size_toArray,a3,zY]
    rw[←Nat.add_mul,←Nat.add_mul];congr 1;omega
   obtain⟨g',le,sr,fr,hφ⟩:=h.cP (c:=vs.toArray++Builtin.zeroCells zv.cells k++Builtin.zeroCells zv.cells (nc-(len+k))) (ty:=elem) (cs:=es.flatten++(List.replicate k z).flatten) (hP w) rfl (fun i t hi=>by
    obtain⟨v,b1,b2⟩:=qE.cm i t hi
    refine⟨zZ t (List.mem_of_getElem? hi),v,?_,b2⟩
    rw[List.getElem?_toArray]at b1
    have aA:=(List.getElem?_eq_some_iff.1 b1).1
    have e:(vs.toArray++Builtin.zeroCells zv.cells k++Builtin.zeroCells zv.cells (nc-(len+k))).toList=(vs++(Builtin.zeroCells zv.cells k).toList)++(Builtin.zeroCells zv.cells (nc-(len+k))).toList:=by simp
    rw[←Array.getElem?_toList,e,List.getElem?_append_left aA];exact b1)
   refine⟨_,_,g',aK,le,sr,?_,fr⟩
   exact .aO (r:=w.heap.size) (o:=0) (off:=0) hφ pX (by rw[cX];simp)
  ·cases he
end
section
variable {P:Program} {w0 w:World} {g:Ctx} {H:aa}
theorem jn {params results:Array TypeId}(tS e:TypeId)(hp:params[0]?=some tS)(ht:P.underlying tS=some (.slice e))(size:Nat)(hz:(Go.sizeOf e).run P w=.ok size w)
  (a b:Addr) (la ca lb cb:Nat) (aF:a.block≠b.block) (tA tB:TypeId) (kA kB:Nat)
  (Cv:w.shape? a.block=some (tA,kA)) (BN:w.shape? b.block=some (tB,kB)) (Cw:kB≠0)
  (EJ:w.frozen? a=false) (EK:w.frozen? { block:=a.block,off:=kA }=false) :
  (Extern.SlicesOverlaps.overlaps params results #[.slice (some a) la ca,.slice (some b) lb cb]).run P w=.ok (.bool false) w:=by
 have BQ:(a.block != b.block)=true:=by simpa using aF
 have xV:(a.block==b.block)=false:=by simpa using aF
 conv=>lhs;arg 2;whnf
 simp only[hp]
 by_cases h0:la=0∨lb=0∨size=0
 ·simp[run_underlying ht,hz,h0]
 ·cases kB with
  | zero=>exact absurd rfl Cw
  | succ kB =>
   simp[run_underlying ht,hz,h0,BQ,xV,frozen,noView,viewAt,mayBeOne,stringish,shape,Sem.run,Cv,BN,EJ,EK]
theorem kI {params results:Array TypeId}(tS e:TypeId)(hp:params[0]?=some tS)(ht:P.underlying tS=some (.slice e))(size:Nat)(hz:(Go.sizeOf e).run P w=.ok size w)
  (a b:Addr) (la ca lb cb:Nat) (aF:a.block=b.block) (hd:la≠0→lb≠0→size≠0→¬(a.off<b.off+lb*size∧b.off<a.off+la*size)) :
  (Extern.SlicesOverlaps.overlaps params results #[.slice (some a) la ca,.slice (some b) lb cb]).run P w=.ok (.bool false) w:=by
 have BQ:(a.block != b.block)=false:=by simpa using aF
 have xV:(a.block==b.block)=true:=by simpa using aF
 conv=>lhs;arg 2;whnf
 simp only[hp]
 by_cases h0:la=0∨lb=0∨size=0
 ·simp[run_underlying ht,hz,h0]
 ·have h1:=hd (fun h=>h0 (.inl h)) (fun h=>h0 (.inr (.inl h))) (fun h=>h0 (.inr (.inr h)))
  simp[run_underlying ht,hz,h0,BQ,xV]
  intro aA
  have:¬b.off<a.off+la*size:=fun h=>h1 ⟨aA,h⟩
  omega
theorem fV {params results:Array TypeId}(tS e:TypeId)(hp:params[0]?=some tS)(ht:P.underlying tS=some (.slice e))(size:Nat)(hz:(Go.sizeOf e).run P w=.ok size w)
  (a b:Addr) (la ca lb cb:Nat) (h0:la=0∨size=0) :
  (Extern.SlicesOverlaps.overlaps params results #[.slice (some a) la ca,.slice (some b) lb cb]).run P w=.ok (.bool false) w:=by
 have h0:la=0∨lb=0∨size=0:=by rcases h0 with h|h;exact .inl h;exact .inr (.inr h)
 conv=>lhs;arg 2;whnf
 simp only[hp]
 simp[run_underlying ht,hz,h0]
theorem lK {r j:Nat}(h:(w.cell? ⟨r,j,none⟩).isSome=true):∃t k,w.shape? r=some (t,k)∧k≠0:=by
 unfold World.cell? at h
 unfold World.shape?
 cases hr:w.heap[r]? with
 | none=>simp[hr]at h
 | some x =>
  cases x<;>simp[hr]at h ⊢
  rename_i c t f
  exact⟨_,_,⟨rfl,rfl⟩,by omega⟩
theorem u1 {params results:Array TypeId}{tS e:TypeId}{ei:TypeInfo}{x y t:T}{vx vy:Value}{H':aa}(hp:params[0]?=some tS)(ht:P.underlying tS=some (.slice e))(hi:P.info? e=some ei)
  (h:SR w0 g H w) (hx:VR g w x vx) (hy:VR g w y vy) (he:qa H ei.size x y=some (t,H')):aG P w0 g H w (Extern.SlicesOverlaps.overlaps params results #[vx,vy]) t H':=by
 have hz:(Go.sizeOf e).run P w=.ok ei.size w:=by simp[sizeOf,al hi]
 unfold qa at he
 cases hx<;>(try (simp only[reduceCtorEq]at he;done))<;>(try (cases he;done))
 rename_i bv u2 lv n1 r' o' q' kD dP iq DR
 cases hy<;>(try (simp only[reduceCtorEq]at he;done))<;>(try (cases he;done))
 rename_i b off len n2 r o q c hφ hc hq
 cases BR:H[bv]? with
 | none=>simp[BR]at he
 | some zv =>
  cases hb:H[b]? with
  | none=>cases zv<;>simp[BR,hb]at he
  | some z =>
   cases zv<;>cases z<;>simp only[BR,hb]at he<;>(try (cases he;done))
   rename_i Gl cs
   split at he
   ·rename_i kH
    obtain⟨aF,rfl,Cx,xW⟩:=kH
    simp only[Option.some.injEq,Prod.mk.injEq]at he
    obtain⟨rfl,rfl⟩:=he
    subst Cx
    obtain⟨a1,a2,a3⟩:=h.dv _ _ BR r' o' q' dP
    obtain⟨b1,b2,b3⟩:=h.dv _ _ hb r o q hφ
    by_cases hr:r'=r
    ·subst hr
     refine aG.same h (kI tS e hp ht _ hz _ _ _ _ _ _ rfl fun hl Gm hs hh=>?_) (.bool _)
     obtain⟨h1,h2⟩:=hh
     simp only at h1 h2
     have m1:lv*ei.size≤kD*ei.size:=Nat.mul_le_mul_right _ iq
     have m2:len*ei.size≤c*ei.size:=Nat.mul_le_mul_right _ hc
     have p1:0<lv*ei.size:=Nat.mul_pos (by omega) (by omega)
     have p2:0<len*ei.size:=Nat.mul_pos (by omega) (by omega)
     have k1:=(a2 (max (o'+u2) (o+off)) (by omega) (by omega)).1
     have k2:=(b2 (max (o'+u2) (o+off)) (by omega) (by omega)).1
     rw[k1]at k2;cases k2;exact aF rfl
    ·by_cases EL:lv=0
     ·subst EL
      refine aG.same h ?_ (.bool _)
      exact fV tS e hp ht _ hz _ _ _ _ _ _ (.inl rfl)
     ·by_cases hs:ei.size=0
      ·refine aG.same h ?_ (.bool _)
       exact fV tS e hp ht _ hz _ _ _ _ _ _ (.inr hs)
      ·have m1:lv*ei.size≤kD*ei.size:=Nat.mul_le_mul_right _ iq
       have p1:0<lv*ei.size:=Nat.mul_pos (by omega) (by omega)
       have tW:=a2 (o'+u2) (by omega) (by omega)
       have EM:=b2 o (Nat.le_refl _) (by omega)
       have gu:w0.heap.size≤r':=by
        rcases Nat.lt_or_ge r' w0.heap.size with aA|pX
        ·have:=h.o7 r' (o'+u2) aA;rw[tW.1]at this;cases this
        ·exact pX
       obtain⟨tA,kA,Cv,_⟩:=lK tW.2.2
       obtain⟨tB,kB,BN,Cw⟩:=lK EM.2.2
       exact aG.same h (jn tS e hp ht _ hz _ _ _ _ _ _ hr tA tB kA kB Cv BN Cw (tW.2.1 _) (tW.2.1 _)) (.bool _)
   ·cases he
end
end Go.Rmp
end

section
namespace Go.Rmp
open Go.ChangeMaps (setBlock)
section
variable {P:Program} {w0 w:World} {g:Ctx} {H:aa}
theorem SR.z0 {w':World}(h:SR w0 g H w)(tr:Tr w w' cz cW)(hz:w'.heap.size=w.heap.size):SR w0 g H w'∧Le g w g w':=by
 have le:Le g w g w':=Le.cJ tr (fun _ _ h=>h) (fun _ _ h=>h) (fun _ _ _ h=>h) (fun _ _ hs=>hs.elim)
 refine⟨?_,le⟩
 exact h.step (fun _=>False) tr le (fun _ _ hs=>hs.elim) (fun _ hm=>hm.elim) (fun r o hr=>h.fresh r o (by omega)) h.gZ h.cu (fun _ _ _=>rfl) (fun _ _ _ _=>⟨id,id⟩) (fun _ _ _ _=>rfl) (fun b x hx=>.inl ⟨id,hx⟩)
theorem xX {b:Nat}{vm:Value}{es:List (T×T)}(h:SR w0 g H w)(hm:VR g w (.map b) vm)(e8:ct H (.map b)=some es) :
  ∃r o q,vm=.map (some r)∧g.φ b=some (r,o,q)∧g.κ r 0=.mut b∧b<H.length∧∃af clock,w.heap[r]?=some (.map af clock)∧bw g w es af∧bU af clock:=by
 cases hm with
 | @map _ r o q hφ =>
  simp only[ct]at e8
  cases hb:H[b]? with
  | none=>simp[hb]at e8
  | some y =>
   have fu:=(List.getElem?_eq_some_iff.1 hb).1
   cases y<;>simp[hb]at e8
   ·subst e8
    obtain⟨h1,af,c,h2,h3,h4⟩:=h.dv b _ hb r o q hφ
    exact⟨r,o,q,rfl,hφ,h1,fu,af,c,h2,h3,h4⟩
   ·subst e8
    obtain⟨r2,o',q',dP,h1,af,c,h2,h3,h4,_⟩:=h.dv b _ hb
    rw[hφ]at dP;cases dP
    exact⟨r,o,q,rfl,hφ,h1,fu,af,c,h2,h3,h4⟩
theorem u3 {ty key elem:TypeId}{b:Nat}{vm:Value}{es:List (T×T)}(hu:P.underlying ty=some (.map key elem))(h:SR w0 g H w)(hm:VR g w (.map b) vm)(e8:ct H (.map b)=some es) :
  aG P w0 g H w (Instr.range ty vm) (.ptr H.length 0) (H.set b (.cr es (List.range es.length) H.length none)++[.pV b]):=by
 obtain⟨r,o,q,rfl,hφ,hk,fu,af,c,h2,h3,h4⟩:=xX h hm e8
 have EN:cw (.mapIter (some r) c #[] c)=true:=rfl
 have jE:=Tr.alloc w (.mapIter (some r) c #[] c)
 have aF:∀r j ow,g.κ r j=ow→ow≠.free→r≠w.heap.size:=by rintro r j ow e hn rfl;exact hn (e▸h.fresh _ j (Nat.le_refl _))
 have zX:=h.tV (b:=H.length) (Nat.le_refl _)
 have Cy:=aF r 0 _ hk (by simp)
 have le:Le g w ((g.row w.heap.size fun _=>.mut b).at H.length (w.heap.size,0,0)) (w.alloc (.mapIter (some r) c #[] c)):=Le.cJ jE
  (fun b' x hx=>by simp only[Ctx.at,Ctx.row];split;rename_i e;subst e;rw[zX]at hx;simp at hx;exact hx)
  (fun r o hk=>by simp only[Ctx.row,Ctx.at];rw[if_neg (aF r o _ hk (by simp))];exact hk) (fun _ _ _ h=>h) (fun _ _ hs=>hs.elim)
 have aA:r<w.heap.size:=(Array.getElem?_eq_some_iff.1 h2).1
 refine⟨_,_,_,by simp[Instr.range,run_underlying hu,getObj,Sem.run,h2,newObj],le,?_,.ptr (r:=w.heap.size) (o:=0) (q:=0) (by simp[Ctx.at]),by simp,fun b' x a _ d=>?_⟩
 ·refine h.step (fun b'=>b'=b∨b'=H.length) jE le (fun _ _ hs=>hs.elim) (fun _ hm=>hm.elim) (fun r o hr=>?_) (fun b' x hx=>?_) (fun t e x hx=>by have:=h.cu t e x hx;simp;omega) (fun b' _ cV=>?_) (fun r j b' cV=>?_) (fun _ _ _ _=>rfl) (fun b' x hx=>?_)
  ·simp at hr
   simp only[Ctx.row,Ctx.at];rw[if_neg (by omega)];exact h.fresh r o (by omega)
  ·simp only[Ctx.at,Ctx.row]at hx
   split at hx
   ·rename_i e;subst e;simp
   ·have:=h.gZ b' x hx;simp;omega
  ·simp only[Ctx.at,Ctx.row];rw[if_neg (fun e=>cV (.inr e))]
  ·constructor<;>intro e<;>simp only[Ctx.row,Ctx.at]<;>rw[if_neg (aF r j _ e (by simp))]<;>exact e
  ·by_cases e:b'=H.length
   ·subst e
    rw[List.getElem?_append_right (by simp)]at hx
    simp at hx;subst hx
    exact .inr trivial
   ·have cV:b'<H.length:=by
     have:=(List.getElem?_eq_some_iff.1 hx).1
     simp at this;omega
    rw[List.getElem?_append_left (by simpa using cV)]at hx
    rcases bf fu hx with⟨rfl,rfl⟩|⟨hn,er⟩
    ·refine .inr ⟨r,o,q,le.φ _ _ hφ,by simp only[Ctx.row,Ctx.at];rw[if_neg Cy];exact hk,af,c,?_,h3.mono le,h4,w.heap.size,0,#[],by simp[Ctx.at],by simp[Ctx.row,Ctx.at],World.alloc_heap_new w _,List.nodup_range,fun i=>?_,fun c hc=>by cases hc⟩
     ·show(w.heap.push _)[r]?=_
      rw[Array.getElem?_push,if_neg (by omega)];exact h2
     ·rw[List.mem_range,←h3.1]
      exact⟨fun hi=>⟨af[i],Array.getElem?_eq_getElem hi,by simp⟩,fun ⟨m,hm,_⟩=>(Array.getElem?_eq_some_iff.1 hm).1⟩
    ·exact .inl ⟨fun hh=>hh.elim hn e,er⟩
 ·have hl:=(List.getElem?_eq_some_iff.1 a).1
  refine⟨?_,by simp only[Ctx.at,Ctx.row];rw[if_neg (by omega)];exact d⟩
  rw[List.getElem?_append_left (by simpa using hl)]
  exact bB a (by rintro rfl;rw[hφ]at d;cases d)
theorem u4 {ty:TypeId}{b bi:Nat}{v:Value}{es:List (T×T)}{ix:List Nat}{cur:Option Nat}(h:SR w0 g H w)(hx:VR g w (.ptr bi 0) v)(hb:H[b]?=some (.cr es ix bi cur)) :
  ∃t H',fM H b bi es ix t H'∧aG P w0 g H w (Instr.next v false ty) t H':=by
 have fu:b<H.length:=(List.getElem?_eq_some_iff.1 hb).1
 obtain⟨r,o,q,hφ,h1,af,c,h2,h3,h4,ri,q',seen,h5,h6,h7,h8,h9,DT⟩:=h.dv b _ hb
 cases hx with
 | @ptr _ _ r2 o2 q2 n7 =>
  rw[h5]at n7;cases n7
  have zg:∀y,Fr g H g (H.set b y):=fun y=>⟨by simp,fun b' x a _ d=>⟨bB a (by rintro rfl;rw[hφ]at d;cases d),d⟩⟩
  rcases run_next_at (P:=P) w ty ri r c c seen af c h7 h2 h4.1 (Nat.le_refl _)with⟨hz,aK⟩|⟨e,he,w1,BS,aK⟩
  ·have qo:ix=[]:=by
    refine List.eq_nil_iff_forall_not_mem.2 fun i hi=>?_
    obtain⟨m,hm,hn⟩:=(h9 i).1 hi
    have:m∈leftOf af seen:=by
     simp only[leftOf,Array.mem_filter]
     exact⟨Array.mem_of_getElem? hm,by simpa using hn⟩
    rw[Array.eq_empty_of_size_eq_zero hz]at this
    simp at this
   refine⟨_,_,.inl ⟨qo,rfl,rfl⟩,.tuple #[.bool false],w,g,by simpa using aK,.refl _ _,?_,.bl rfl (fun i t v a b=>?_),zg _⟩
   ·refine h.step (fun b'=>b'=b) (Tr.refl w) (.refl _ _) (fun _ _ hs=>hs.elim) (fun _ hm=>hm.elim) h.fresh (fun b' x hx=>by rw[List.length_set];exact h.gZ b' x hx) (fun t e x hx=>by rw[List.length_set];exact h.cu t e x hx) (fun _ _ _=>rfl) (fun _ _ _ _=>⟨id,id⟩) (fun _ _ _ _=>rfl) (fun b' x hx=>?_)
    rcases bf fu hx with⟨rfl,rfl⟩|⟨hn,er⟩
    ·refine .inr fun r' o' q' dP=>?_
     rw[hφ]at dP;cases dP
     exact⟨h1,af,c,h2,h3,h4⟩
    ·exact .inl ⟨hn,er⟩
   ·cases i with
    | zero=>simp at a b;subst a;subst b;exact .bool _
    | succ i=>simp at a
  ·have z1:e∈af∧e.born∉seen:=by
    have:e∈leftOf af seen:=by simpa using he
    simp only[leftOf,Array.mem_filter]at this
    exact⟨this.1,by simpa using this.2⟩
   obtain⟨i,hi,g6⟩:=Array.getElem_of_mem z1.1
   have z2:af[i]?=some e:=by rw[Array.getElem?_eq_getElem hi,g6]
   have fe:i<es.length:=by rw[←h3.1];exact hi
   have qo:i∈ix:=(h9 i).2 ⟨e,z2,z1.2⟩
   have bQ:=h3.2 i es[i] e (List.getElem?_eq_getElem fe) z2
   have EO:Tr w w1 cz cW:=by rcases BS with rfl|rfl;exact Tr.refl _;exact Tr.drew _
   obtain⟨xY,iG⟩:=h.z0 EO (by rcases BS with rfl|rfl<;>rfl)
   have BT:w1.heap[ri]?=some (.mapIter (some r) c seen c):=by rcases BS with rfl|rfl<;>exact h7
   have DU:w1.heap[r]?=some (.map af c):=by rcases BS with rfl|rfl<;>exact h2
   have tr:Tr w1 (World.aJ w1 ri (.mapIter (some r) c (seen.push e.born) c)) cz (fun r'=>r'=ri):=Tr.m8 w1 ri rfl rfl BT
   have le:Le g w1 g (World.aJ w1 ri (.mapIter (some r) c (seen.push e.born) c)):=Le.cJ tr (fun _ _ h=>h) (fun _ _ h=>h) (fun _ _ _ h=>h) (fun _ _ hs=>hs.elim)
   have EP:r≠ri:=by rintro rfl;rw[DU]at BT;cases BT
   refine⟨_,_,.inr ⟨i,es[i],qo,List.getElem?_eq_getElem fe,rfl,rfl⟩,.tuple #[.bool true,e.key,e.val],_,g,by simpa[setBlock,World.aJ]using aK,iG.trans le,?_,.bl rfl (fun i t v a b=>?_),zg _⟩
   ·show SR w0 g _ (World.aJ w1 ri (.mapIter (some r) c (seen.push e.born) c))
    refine xY.step (fun b'=>b'=b) tr le (fun _ _ hs=>hs.elim) (fun r' hm=>⟨b,by rw[hm];exact h6,rfl⟩) (fun r' j fb=>xY.fresh r' j (by simpa[World.aJ]using fb)) (fun b' x hx=>by rw[List.length_set];exact h.gZ b' x hx) (fun t e x hx=>by rw[List.length_set];exact h.cu t e x hx) (fun _ _ _=>rfl) (fun _ _ _ _=>⟨id,id⟩) (fun _ _ _ _=>rfl) (fun b' x hx=>?_)
    rcases bf fu hx with⟨rfl,rfl⟩|⟨hn,er⟩
    ·refine .inr ⟨r,o,q,hφ,h1,af,c,?_,h3.mono (iG.trans le),h4,ri,q',seen.push e.born,h5,h6,iz _ _ (Array.getElem?_eq_some_iff.1 BT).1,h8.erase _,fun j=>?_,fun c' iq=>?_⟩
     ·rw[iy _ _ EP];exact DU
     ·rw[h8.mem_erase_iff,h9 j]
      constructor
      ·rintro⟨Cz,m,hm,hn⟩
       refine⟨m,hm,fun jl=>?_⟩
       rcases Array.mem_push.1 jl with jl|jl
       ·exact hn jl
       ·apply Cz
        have hj:=(Array.getElem?_eq_some_iff.1 hm).1
        have jH:=h4.2
        have e1:(af.toList.map (·.born))[j]?=some m.born:=by simp[hm]
        have e2:(af.toList.map (·.born))[i]?=some m.born:=by simp[z2,jl]
        have ER:j<(af.toList.map (·.born)).length:=by simpa using hj
        exact(List.getElem?_inj ER jH).1 (e1.trans e2.symm)
      ·rintro⟨m,hm,hn⟩
       refine⟨fun Cz=>?_,m,hm,fun jl=>hn (Array.mem_push.2 (.inl jl))⟩
       subst Cz
       rw[z2]at hm;cases hm
       exact hn (Array.mem_push.2 (.inr rfl))
     ·cases iq
      exact⟨e,z2,by simp⟩
    ·exact .inl ⟨hn,er⟩
   ·have xK:=bQ.1.mono (iG.trans le)
    have xL:=bQ.2.mono (iG.trans le)
    match i,a,b with
    | 0,a,b=>simp at a b;subst a;subst b;exact .bool _
    | 1,a,b=>simp at a b;subst a;subst b;exact xK
    | 2,a,b=>simp at a b;subst a;subst b;exact xL
    | i+3,a,b=>simp at a
theorem u5 {b bi c:Nat}{v:Value}{es:List (T×T)}{ix:List Nat}{e:T×T}(h:SR w0 g H w)(hx:VR g w (.ptr bi 0) v)(hb:H[b]?=some (.cr es ix bi (some c)))(he:es[c]?=some e) :
  aG P w0 g H w (Instr.entry v) (.bl [e.1,e.2]) H:=by
 obtain⟨r,o,q,hφ,h1,af,cl,h2,h3,h4,ri,q',seen,h5,h6,h7,h8,h9,DT⟩:=h.dv b _ hb
 cases hx with
 | @ptr _ _ r2 o2 q2 n7 =>
  rw[h5]at n7;cases n7
  obtain⟨m,hm,hs⟩:=DT c rfl
  have bQ:=h3.2 c e m he hm
  have CA:m∈af.toList:=by have:=Array.mem_of_getElem? hm;simpa using this
  have hf:af.find? (·.born==m.born)=some m:=by rw[←Array.find?_toList];exact find_born m af.toList h4.2 CA
  refine aG.same h (v:=.tuple #[m.key,m.val]) ?_ (.bl rfl fun i t v a b=>?_)
  ·simp[Instr.entry,getObj,Sem.run,h7,h2,hs,hf]
  ·match i,a,b with
   | 0,a,b=>simp at a b;subst a;subst b;exact bQ.1
   | 1,a,b=>simp at a b;subst a;subst b;exact bQ.2
   | i+2,a,b=>simp at a
theorem u6 {ty rt elem:TypeId}{ei:TypeInfo}{zv:Value}{z:List T}{v:Value}{b off len:Nat}{cs:List T}(hu:P.underlying ty=some (.slice elem))(hi:P.info? elem=some ei)(hz:ei.zero=some zv)(qF:bN zv.cells.toList=some z)
  (h:SR w0 g H w) (hx:VR g w (.aO b off len ei.size) v) (hb:H[b]?=some (.cells cs)) (lJ:z.length=ei.size) (hle:off+len*ei.size≤cs.length) :
  aG P w0 g H w (Builtin.clear_ #[ty] rt #[v]) (.bl []) (H.set b (.cells (cs.take off++(List.replicate len z).flatten++cs.drop (off+len*ei.size)))):=by
 cases hx with
 | @aO _ _ _ _ r o q cap hφ hc hq =>
  obtain⟨h1,h2,h3⟩:=h.dv b _ hb r o q hφ
  obtain⟨ph,pY⟩:=bp (g:=g) (w:=w) _ _ qF
  have bQ:=eG ph lJ len
  have DV:=dD pY len
  have hlen:(List.replicate len z).flatten.length=len*ei.size:=by simp[List.length_flatten,lJ]
  have uO:zv.cells.size=ei.size:=by have:=ph.1;simp at this;omega
  have xZ:ax g w (List.replicate len z).flatten (Builtin.zeroCells zv.cells len).toList:=by
   simpa[Builtin.zeroCells,uO]using bQ
  obtain⟨le,sr⟩:=h.store hb hφ (by rw[hlen];exact hle) xZ DV
  rw[hlen]at sr
  refine⟨.tuple #[],_,g,?_,le,sr,.bl rfl (by simp),by simp,fun b' y' a _ d=>⟨bB a (by rintro rfl;rw[hφ]at d;cases d),d⟩⟩
  have hl:=xZ.1
  rw[hlen]at hl
  cases len with
  | zero =>
   have e:(Builtin.zeroCells zv.cells 0).toList=[]:=List.eq_nil_of_length_eq_zero (by rw[←hl];simp)
   rw[e]
   simp[Builtin.clear_,run_underlying hu,World.setCells]
  | succ len =>
   have aK:=run_storeCells_cells (P:=P) r (o+off) (Builtin.zeroCells zv.cells (len+1)).toList 0 w (fun j hj=>(h2 _ (by omega) (by omega)).2.2) (fun j hj=>(h2 (o+off+0+j) (by omega) (by omega)).2.1 _) (xZ.dp DV)
   have ES:(zeroValue elem).run P w=.ok zv w:=by simp[zeroValue,al hi,hz]
   simp only[Nat.add_zero]at aK
   simp[Builtin.clear_,run_underlying hu,ES,aK]
theorem SR.shrink {b:Nat}{cs:List T}(k:Nat)(h:SR w0 g H w)(hb:H[b]?=some (.cells cs))(hφ:∃x,g.φ b=some x):SR w0 g (H.set b (.cells (cs.take k))) w∧Fr g H g (H.set b (.cells (cs.take k))):=by
 have fu:b<H.length:=(List.getElem?_eq_some_iff.1 hb).1
 obtain⟨y,hy⟩:=hφ
 refine⟨?_,by simp,fun b' x a _ d=>⟨bB a (by rintro rfl;rw[hy]at d;cases d),d⟩⟩
 refine h.step (fun b'=>b'=b) (Tr.refl w) (.refl _ _) (fun _ _ hs=>hs.elim) (fun _ hm=>hm.elim) h.fresh (fun b' x hx=>by rw[List.length_set];exact h.gZ b' x hx) (fun t e x hx=>by rw[List.length_set];exact h.cu t e x hx) (fun _ _ _=>rfl) (fun _ _ _ _=>⟨id,id⟩) (fun _ _ _ _=>rfl) (fun b' x hx=>?_)
 rcases bf fu hx with⟨rfl,rfl⟩|⟨hn,er⟩
 ·refine .inr fun r o q hφ=>?_
  obtain⟨h1,h2,h3⟩:=h.dv b' _ hb r o q hφ
  refine⟨by simp;omega,h2,fun i t hi=>h3 i t ?_⟩
  rw[List.getElem?_take]at hi
  split at hi
  ·exact hi
  ·cases hi
 ·exact .inl ⟨hn,er⟩
end
end Go.Rmp
end

section
namespace Go.Rmp
def ai:Operand→Option X
 | .tmp t=>some (.r t)
 | .const v=>(fq v).map .c
 | .func f=>some (.c (.fn f []))
 | .global _=>none
def cd:List Operand→Option (List X)
 | []=>some []
 | x :: xs=>match ai x,cd xs with
  | some y,some ys=>some (y :: ys)
  | _,_=>none
def dU:Option Operand→Option (Option X)
 | none=>some none
 | some x=>(ai x).map some
def fw:List (Nat×Operand)→Option (List (Nat×X))
 | []=>some []
 | (i,x) :: xs=>match ai x,fw xs with
  | some y,some ys=>some ((i,y) :: ys)
  | _,_=>none
def DW:TypeDesc→Option kZ
 | .int _=>some .int
 | .string=>some .str
 | .bool=>some .bool
 | _=>none
def kinds (P:Program):List Field→Option (List kZ)
 | []=>some []
 | f :: fs=>match (P.underlying f.type).bind DW,kinds P fs with
  | some k,some ks=>some (k :: ks)
  | _,_=>none
def kJ (P:Program)(ty:TypeId):Option KT :=
 match P.underlying ty with
 | some (.struct fs)=>(kinds P fs.toList).map .st
 | some d=>(DW d).map .sc
 | none=>none
def zeroOf (P:Program)(ty:TypeId):Option (List T) :=
 match P.info? ty with
 | some i=>match i.zero with
  | some zv=>bN zv.cells.toList
  | none=>none
 | none=>none
def isEq:BinOp→Option Bool
 | .eql=>some false
 | .neq=>some true
 | _=>none
def cls:TypeDesc→Option uc
 | .pointer _=>some .ptr
 | .slice _=>some .slice
 | .map _ _=>some .map
 | .func _ _ _=>some .func
 | _=>none
def qL (P:Program)(op:BinOp)(ty:TypeId)(x y:X):Option Bo :=
 match P.underlying ty with
 | some (.int _)|some .string=>some (.bin op x y)
 | some .bool=>(isEq op).map fun n=>.beq n x y
 | some (.struct fs)=>match isEq op,kinds P fs.toList with
  | some n,some ks=>if flat P fs.toList 0 ks&&!P.stoodInHeld ty&&!P.eqGuardType P.depth ty then some (.eqs n ks x y)else none
  | _,_=>none
 | some d=>match isEq op,cls d with
  | some n,some c=>some (.gV n c x y)
  | _,_=>none
 | none=>none
def jI (P:Program)(ty:TypeId)(x:X):Option Bo :=
 match P.underlying ty,P.info? ty with
 | some d,some i=>some (.ld (if bz d then i.size else 1) (bz d) x)
 | _,_=>none
def fx (P:Program)(ty:TypeId)(x:X)(f:Nat)(ad:Bool):Option Bo :=
 match P.underlying ty with
 | some (.struct fs)=>match fs[f]? with
  | some f=>match P.underlying f.type,P.info? f.type with
   | some d,some i=>if ad then(if i.size=0 then none else some (.pU f.offset x))else some (.BF f.offset i.size (bz d) x)
   | _,_=>none
  | none=>none
 | _=>none
def nj (P:Program)(ty:TypeId)(x i:X)(ad:Bool):Option Bo :=
 match P.underlying ty,ad with
 | some (.slice e),true=>(P.info? e).map fun ei=>.nT ei.size x i
 | some (.array n e),true=>(P.info? e).map fun ei=>.zu n ei.size x i
 | some .string,false=>some (.zw x i)
 | some (.array n e),false=>match P.info? e,P.underlying e with
  | some ei,some d=>some (.BG n ei.size (bz d) x i)
  | _,_=>none
 | _,_=>none
def gx (P:Program)(ty:TypeId)(x:X)(lo hi mx:Option X):Option Bo :=
 match P.underlying ty with
 | some .string=>if mx.isSome then none else some (.xr x lo hi)
 | some (.slice e)=>match P.info? e with
  | some ei=>if mx.isSome&&hi.isNone then none else some (.tN ei.size x lo hi mx)
  | none=>none
 | _=>none
def pn (P:Program)(ty:TypeId)(x:X)(lo hi mx:Option X):Option Bo :=
 match P.underlying ty,lo,hi,mx with
 | some (.slice e),none,some hi,none=>(P.info? e).map fun ei=>.BK ei.size x hi
 | _,_,_,_=>none
def jJ (P:Program)(src dst:TypeId)(x:X):Option Bo :=
 match P.underlying src,P.underlying dst with
 | some (.int _),some (.int k)=>some (.pT k x)
 | some .string,some .string=>none
 | some .string,some (.slice e)=>match P.underlying e with
  | some (.int .u8)=>some (.wo false x)
  | _=>none
 | some (.slice e),some .string=>match P.underlying e with
  | some (.int .u8)=>some (.p3 x)
  | _=>none
 | some (.slice _),some (.slice e)=>if src==dst then(match P.underlying e with
  | some (.int .u8)=>some (.wo true x)
  | _=>none)else none
 | _,_=>none
def qM:TypeDesc→Bool
 | .int _=>false
 | _=>true
def eS (P:Program)(mu:Bool)(dq:List TypeId)(as:List X):Option Bo :=
 match dq,as with
 | [sT,xT],[x,y]=>match P.underlying sT,P.underlying xT with
  | some (.slice e),some d=>match P.info? e with
   | some ei=>match ei.zero with
    | some zv=>if qM d&&zv.cells.size==ei.size&&ei.bytes != 0 then some (.app ei.size ei.bytes mu x y)else none
    | none=>none
   | none=>none
  | _,_=>none
 | _,_=>none
def lL (P:Program)(dq:List TypeId)(as:List X):Option Bo :=
 match dq,as with
 | [sT,xT],[x,k]=>match P.underlying sT,P.underlying xT with
  | some (.slice e),some (.int _)=>match P.info? e,zeroOf P e with
   | some ei,some z=>if ei.bytes != 0 then some (.BJ ei.size ei.bytes z x k)else none
   | _,_=>none
  | _,_=>none
 | _,_=>none
def dE (P:Program)(mu:Bool)(b:Builtin)(dq:List TypeId)(as:List X):Option Bo :=
 match b,dq,as with
 | .append,dq,as=>match lL P dq as with
  | some b=>some b
  | none=>eS P mu dq as
 | .cap,[t],[x]=>match P.underlying t with
  | some (.slice _)=>some (.cap x)
  | _=>none
 | .copy,[dT,_],[x,y]=>match P.underlying dT with
  | some (.slice e)=>(P.info? e).map fun ei=>.BI ei.size x y
  | _=>none
 | .len,[t],[x]=>match P.underlying t with
  | some .string=>some (.len .str x)
  | some (.slice _)=>some (.len .sl x)
  | some (.map _ _)=>some (.len .map x)
  | _=>none
 | .clear,[t],[x]=>match P.underlying t with
  | some (.slice e)=>match P.info? e,zeroOf P e with
   | some ei,some z=>some (.zy ei.size z x)
   | _,_=>none
  | _=>none
 | .min,_,[x,y]=>some (.mn x y)
 | .max,_,[x,y]=>some (.mx x y)
 | .delete,[t,_],[m,k]=>match P.underlying t with
  | some (.map key _)=>match kJ P key with
   | some kt=>if ft P key kt then some (.del kt m k)else none
   | none=>none
  | _=>none
 | _,_,_=>none
def nk (P:Program)(ty:TypeId)(m k:X):Option (Nat×KT×T) :=
 match P.underlying ty with
 | some (.map key e)=>match kJ P key,P.info? e with
  | some kt,some ei=>match ei.zero with
   | some zv=>match fq zv with
    | some z=>if ft P key kt then some (e,kt,z)else none
    | none=>none
   | none=>none
  | _,_=>none
 | _=>none
def lM (P:Program)(fs:List Field):Bool:=fs.all fun f=>(P.info? f.type).isSome
def gy (P:Program)(ty:TypeId)(ps:List (Nat×X)):Option Bo :=
 match P.underlying ty,zeroOf P ty with
 | some (.struct fs),some z=>if lM P fs.toList&&ps.all (fun p=>p.1<fs.size)then
   some (.build z (ps.map fun p=>((((placesOf P fs.toList)[p.1]?).getD (0,0)).1,(((placesOf P fs.toList)[p.1]?).getD (0,0)).2,p.2)))else none
 | _,_=>none
def po (P:Program)(mu:Bool)(ty:TypeId)(n:Nat)(ps:List (Nat×X)):Option Bo :=
 match P.underlying ty with
 | some (.slice e)=>match P.info? e,zeroOf P e with
  | some ei,some z=>if z.length==ei.size&&decide (n*ei.size≤16777216)then some (if mu then .yZ n z ps else .oX n z ps)else none
  | _,_=>none
 | _=>none
def pq (P:Program)(mu:Bool)(ty:TypeId)(l c:X):Option Bo :=
 match P.underlying ty with
 | some (.slice e)=>match P.info? e,zeroOf P e with
  | some ei,some z=>if z.length==ei.size&&ei.size != 0 then some (.BH mu ei.bytes z l c)else none
  | _,_=>none
 | _=>none
def wD (n:String):Bool:=(Extern.allGenericRows.lookup n).isNone&&(Extern.allTypedRows.lookup n).isNone&&(Extern.allRows.lookup n).isNone
def n8 (P:Program)(f:FuncId):Option Nat :=
 match P.funcs[f]? with
 | some fn=>match fn.params[0]? with
  | some t=>match P.underlying t with
   | some (.slice e)=>match P.info? e with
    | some ei=>if fn.name != "runtime.NumGoroutine"&&fn.body.isNone&&(Extern.findNext fn).isNone&&fn.origin=="slices.overlaps"&&wD fn.name then some ei.size else none
    | none=>none
   | _=>none
  | none=>none
 | none=>none
def aB (P:Program)(mu:Bool):Op→Option Bo
 | .move x | .assign x=>(ai x).map .aP
 | .pick c a b=>match ai c,ai a,ai b with
  | some c,some a,some b=>some (.pick c a b)
  | _,_,_=>none
 | .binOp op ty x y _=>match ai x,ai y with
  | some x,some y=>qL P op ty x y
  | _,_=>none
 | .unOp op _ x=>(ai x).map (.un op)
 | .convert s d x=>(ai x).bind (jJ P s d)
 | .alloc ty=>(zeroOf P ty).map .alloc
 | .box _ x=>(ai x).map .box
 | .build ty ps=>(fw ps.toList).bind (gy P ty)
 | .buildSlice ty n ps=>(fw ps.toList).bind (po P mu ty n)
 | .load ty x=>(ai x).bind (jI P ty)
 | .store ty a v=>match P.info? ty,ai a,ai v with
  | some i,some a,some v=>some (.st i.size a v)
  | _,_,_=>none
 | .fieldAddr ty x f=>(ai x).bind fun x=>fx P ty x f true
 | .field ty x f=>(ai x).bind fun x=>fx P ty x f false
 | .indexAddr ty x i=>match ai x,ai i with
  | some x,some i=>nj P ty x i true
  | _,_=>none
 | .index ty x i=>match ai x,ai i with
  | some x,some i=>nj P ty x i false
  | _,_=>none
 | .slice ty x lo hi mx=>match ai x,dU lo,dU hi,dU mx with
  | some x,some lo,some hi,some mx=>if mu then pn P ty x lo hi mx else gx P ty x lo hi mx
  | _,_,_,_=>none
 | .makeMap _ none=>some .mS
 | .lookup ty m k ok=>match ai m,ai k with
  | some m,some k=>(nk P ty m k).map fun (_,kt,z)=>.p4 kt z ok m k
  | _,_=>none
 | .mapUpdate ty m k v | .insert ty m k v=>match ai m,ai k,ai v with
  | some m,some k,some v=>(nk P ty m k).map fun (_,kt,_)=>.wq kt m k v
  | _,_,_=>none
 | .makeSlice ty l c=>match ai l,ai c with
  | some l,some c=>pq P mu ty l c
  | _,_=>none
 | .makeFunc (.func f) first ew=>if first.size=0 then(cd ew.toList).map (.yW f)else none
 | .extract x i=>(ai x).map (.ext i)
 | .nilCheck x=>(ai x).map .mT
 | .range ty m=>match P.underlying ty with
  | some (.map _ _)=>(ai m).map .yX
  | _=>none
 | .next it false=>(ai it).map .gW
 | .entry it=>(ai it).map .yY
 | .call { callee:=.value (.func f),args,.. }=>match n8 P f,cd args.toList with
  | some n,some [x,y]=>some (.zx n x y)
  | _,_=>none
 | .call { callee:=.builtin b,args,argTypes }=>(cd args.toList).bind (dE P mu b argTypes.toList)
 | _=>none
def tX (P:Program)(w0:World)(g:Ctx)(H:aa)(w:World)(s:Sem Next)(t:T)(H':aa):Prop :=
 ∃nx v w' g',s.run P w=.ok nx w'∧(nx=.value v∨(nx=.skip∧v=undef))∧Le g w g' w'∧SR w0 g' H' w'∧VR g' w' t v∧Fr g H g' H'
theorem aG.fy {P:Program}{w0 w:World}{g:Ctx}{H H':aa}{s:Sem Value}{t:T}(h:aG P w0 g H w s t H'):tX P w0 g H w (do pure (.value (←s))) t H':=by
 obtain⟨v,w',g',h1,h2⟩:=h
 exact⟨.value v,v,w',g',by simp[h1],.inl rfl,h2⟩
theorem da {g:Ctx}{w:World}:VR g w ar undef:=.bl rfl (by simp)
section
variable {P:Program} {w0 w:World} {g:Ctx} {H:aa} {R:ah} {ρ:Operand→Value}
def RV (g:Ctx)(w:World)(R:ah)(ρ:Operand→Value)(xs:List Operand):Prop:=∀x∈xs,∀y,ai x=some y→VR g w (y.ev R) (ρ x)
theorem cf:∀(xs:List Operand) (ys:List X),cd xs=some ys→RV g w R ρ xs→ax g w (ys.map (X.ev R)) (xs.map ρ)
 | [],ys,h,_=>by simp[cd]at h;subst h;exact ax.nil
 | x :: xs,ys,h,hv=>by
  simp only[cd]at h
  cases h1:ai x with
  | none=>simp[h1]at h
  | some y =>
   cases h2:cd xs with
   | none=>simp[h1,h2]at h
   | some ET =>
    simp[h1,h2]at h;subst h
    exact ax.cons (hv x (by simp) y h1) (cf xs ET h2 (fun z hz=>hv z (by simp[hz])))
theorem gz:∀(ps:List (Nat×Operand)) (qs:List (Nat×X)),fw ps=some qs→RV g w R ρ (ps.map (·.2))→PV g w R qs (ps.map fun p=>(p.1,ρ p.2))
 | [],qs,h,_=>by simp[fw]at h;subst h;exact .nil
 | (i,x) :: ps,qs,h,hv=>by
  simp only[fw]at h
  cases h1:ai x with
  | none=>simp[h1]at h
  | some y =>
   cases h2:fw ps with
   | none=>simp[h1,h2]at h
   | some EU =>
    simp[h1,h2]at h;subst h
    exact .cons (hv x (by simp) y h1) (gz ps EU h2 (fun z hz=>hv z (by simp at hz ⊢;exact .inr hz)))
end
end Go.Rmp
end
