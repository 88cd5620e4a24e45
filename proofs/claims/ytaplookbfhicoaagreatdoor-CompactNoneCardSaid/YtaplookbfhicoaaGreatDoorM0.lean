/- Part of a proof of a law of this seat: the machine of plain values, its simulation, and the contracts of the functions that the law reaches. Conditions: none beyond the given row. -/
import Derived.OrdersIn
import Derived.RangeFuncIn
import Derived.Laws.Sem
import Derived.Laws.World
import Derived.Laws.IdiomCopy
import Derived.ChangeKeysEq
import Derived.Laws.StructEq
import Derived.Laws.BytesString
import Derived.IntWalk
import Derived.Lib.AppendZerosOnto
import Derived.Lib.Overlaps
import Derived.Maps.RangeRun
import Derived.RangeFuncRecord
open Int renaming reduceLT → q3, reduceLE → q4, reduceBEq → q5, reduceBNe → q6, reduceEq → q7
open Nat renaming reduceAdd → q8, reduceLeDiff → q9, reduceLT → j1, reduceEqDiff → j2
set_option linter.unusedSimpArgs false
set_option linter.unusedVariables false
set_option linter.unnecessarySimpa false
set_option maxHeartbeats 4000000
section
namespace Go.Rmp
inductive SK where
 | nil|arg|full|own (t e:Nat)
 deriving DecidableEq
inductive T where
 | int (k:IntKind) (n:Int)
 | bool (b:Bool)
 | str (s:ByteArray)
 | aE
 | ptr (b off:Nat)
 | cC (cs:List T)
 | b6
 | map (b:Nat)
 | sl (k:SK) (es:List (List T))
 | aP (b off len n:Nat)
 | bT (b off len n c:Nat)
 | dh
 | fn (f:Nat) (ep:List T)
 | gV (b:Nat)
 | cD
 | agg (cs:List T)
 | bg (vs:List T)
abbrev ai:=Nat→T
def av:T:=.bg []
def T.one:T→Bool
 | .agg _ | .bg _=>false
 | _=>true
def T.cells?:T→Option (List T)
 | .agg cs=>some cs
 | .bg _=>none
 | v=>some [v]
def T.erase:T→T
 | .sl _ es=>.sl .arg es
 | v=>v
inductive X where
 | r (t:Nat)
 | c (v:T)
def X.ev (R:ai):X→T
 | .r t=>R t
 | .c v=>v
def iZ (R:ai)(d:Nat)(v:T):ai:=fun t=>if t=d then v else R t
def ay (R:ai)(d:Option Nat)(v:T):ai:=match d with|some d=>iZ R d v|none=>R
inductive tw where|ptr|slice|map|func
 deriving DecidableEq
inductive Lc where|str|sl|map
inductive kK where|int|str|bool
 deriving DecidableEq
inductive KT where
 | sc (t:kK)
 | st (l:List kK)
def T.mE:kK→T→Bool
 | .int,.int _ _ | .str,.str _ | .bool,.bool _=>true
 | _,_=>false
def hasAll:List kK→List T→Bool
 | [],[]=>true
 | t :: ts,v :: vs=>v.mE t&&hasAll ts vs
 | _,_=>false
def T.dr:KT→T→Bool
 | .sc t,v=>v.mE t
 | .st l,.agg cs=>hasAll l cs
 | _,_=>false
inductive Bo where
 | al (x:X)
 | pick (c a b:X)
 | bin (op:BinOp) (x y:X)
 | eK (neg:Bool) (c:tw) (x y:X)
 | beq (neg:Bool) (x y:X)
 | eqs (neg:Bool) (ks:List kK) (x y:X)
 | un (op:UnOp) (x:X)
 | fy (k:IntKind) (x:X)
 | vQ (x:X)
 /-- a text's bytes;or (m) a literal's bytes,told to be a text's -/
 | vR (m:Bool) (x:X)
 | len (k:Lc) (x:X)
 | alloc (z:List T)
 | box (x:X)
 | build (z:List T) (ps:List (Nat×Nat×X))
 | kL (n:Nat) (z:List T) (ps:List (Nat×X))
 | ld (n:Nat) (ag:Bool) (x:X)
 | st (n:Nat) (a v:X)
 | ny (off:Nat) (x:X)
 | y9 (off n:Nat) (ag:Bool) (x:X)
 | ja (st:Nat) (x i:X)
 | vS (n st:Nat) (x i:X)
 | za (x i:X)
 | BX (n st:Nat) (ag:Bool) (x i:X)
 | xh (x:X) (lo hi:Option X)
 | kM (st:Nat) (x:X) (lo hi mx:Option X)
 | nz
 | gW (kt:KT) (z:T) (ok:Bool) (m k:X)
 | oH (kt:KT) (m k v:X)
 | del (kt:KT) (m k:X)
 | app (st bytes:Nat) (mu:Bool) (x y:X)
 | BZ (mu:Bool) (bytes:Nat) (z:List T) (l c:X)
 | vT (f:Nat) (ep:List X)
 | ext (i:Nat) (x:X)
 | mn (x y:X)
 | mx (x y:X)
 | ka (x:X)
 | cap (x:X)
 | tz (n:Nat) (x y:X)
 | yN (n:Nat) (x y:X)
 | vU (x:X)
 | gL (x:X)
 | vV (x:X)
 | zb (n:Nat) (z:List T) (x:X)
 | zd (n bytes:Nat) (z:List T) (x k:X)
 | xi (n:Nat) (z:List T) (ps:List (Nat×X))
 | B0 (n:Nat) (x hi:X)
abbrev Gd:=Option (Nat×Bool)
structure Rd where
 d:Nat
 op:Bo
 g:Gd
inductive td where
 | b (op:Bo)
 | call (f:Nat) (as:List X)
 | a6 (f:X) (as:List X)
structure O where
 d:Option Nat
 op:td
 g:Gd
 gM:List Rd
inductive C where
 | skip
 | ops (l:List O)
 | seq (a b:C)
 | cond (x:X) (a b:C)
 | block (id:Nat) (a:C)
 | loop (a:C)
 | exit (id:Nat)
 | ret
 | bo (n:Nat) (x:X) (ps:List Nat) (bf body:C)
inductive Ex where
 | normal|exit (id:Nat)|ret
inductive pM where
 | ready|busy|done
 deriving DecidableEq
inductive B where
 | cells (cs:List T)
 | map (es:List (T×T))
 | tok (e:Nat)
 | loop (st:pM) (bz:Option Ex) (n:Nat) (R:Nat→T) (ps:List Nat) (bf body:C)
 | kS
 | dead
 /-- a map that is ranged over: the places still to come;the range's block;the place last told -/
 | cm (es:List (T×T)) (ix:List Nat) (bi:Nat) (cur:Option Nat)
 | pE (b:Nat)
 /-- written cells that stand still from here on: they may be read -/
 | fz (cs:List T)
 /-- a row of bytes out of a literal,not yet told to be a text's -/
 | lit (cs:List T)
abbrev aa:=List B
def di (a b:ByteArray):Bool:=a.toList==b.toList
def strLt (a b:ByteArray):Bool:=Op.bytesLess a.toList b.toList
def aN (op:BinOp):T→T→Option T
 | .int k a,.int k' b =>
  match op with
  | .shl=>if b<0 then none else some (.int k (k.wrap (a*2^(min b.toNat k.bits))))
  | .shr=>if b<0 then none else some (.int k (a.fdiv (2^(min b.toNat k.bits))))
  | op =>
   if k=k' then
    match op with
    | .add=>some (.int k (k.wrap (a+b)))
    | .sub=>some (.int k (k.wrap (a-b)))
    | .mul=>some (.int k (k.wrap (a*b)))
    | .quo=>if b=0 then none else some (.int k (k.wrap (a.tdiv b)))
    | .rem=>if b=0 then none else some (.int k (a.tmod b))
    | .and=>some (.int k (k.wrap (BitVec.ofInt k.bits a &&& BitVec.ofInt k.bits b).toNat))
    | .or=>some (.int k (k.wrap (BitVec.ofInt k.bits a ||| BitVec.ofInt k.bits b).toNat))
    | .xor=>some (.int k (k.wrap (BitVec.ofInt k.bits a ^^^ BitVec.ofInt k.bits b).toNat))
    | .andNot=>some (.int k (k.wrap (BitVec.ofInt k.bits a &&& ~~~ BitVec.ofInt k.bits b).toNat))
    | .eql=>some (.bool (a==b))
    | .neq=>some (.bool (a != b))
    | .lss=>some (.bool (a<b))
    | .leq=>some (.bool (a≤b))
    | .gtr=>some (.bool (a>b))
    | .geq=>some (.bool (a≥b))
    | _=>none
   else none
 | .str a,.str b =>
  match op with
  | .add=>if a.size+b.size≤9223372036854775807 then some (.str (a++b))else none
  | .eql=>some (.bool (di a b))
  | .neq=>some (.bool (!di a b))
  | .lss=>some (.bool (strLt a b))
  | .leq=>some (.bool (strLt a b||di a b))
  | .gtr=>some (.bool (!(strLt a b||di a b)))
  | .geq=>some (.bool (!strLt a b))
  | _=>none
 | _,_=>none
def yO (op:UnOp):T→Option T
 | .int k n =>
  match op with
  | .neg=>some (.int k (k.wrap (0-n)))
  | .xor=>some (.int k (k.wrap (BitVec.ofInt k.bits (if k.signed then -1 else k.max) ^^^ BitVec.ofInt k.bits n).toNat))
  | _=>none
 | .bool b=>match op with | .not=>some (.bool !b)|_=>none
 | _=>none
def kT:tw→T→Option Bool
 | .ptr,.aE=>some true
 | .ptr,.ptr _ _ | .ptr,.cC _=>some false
 | .slice,.sl .nil []=>some true
 | .slice,.sl .full _ | .slice,.sl (.own _ _) _ | .slice,.sl .arg (_ :: _) | .slice,.aP _ _ _ _=>some false
 | .map,.b6=>some true
 | .map,.map _=>some false
 | .func,.dh=>some true
 | .func,.fn _ _=>some false
 | _,_=>none
def kV (c:tw)(x y:T):Option Bool :=
 match kT c x,kT c y with
 | some true,some b=>some b
 | some b,some true=>some b
 | _,_=>none
def dy:T→T→Option Bool
 | .int k a,.int k' b=>if k=k' then some (a==b)else none
 | .str a,.str b=>some (di a b)
 | .bool a,.bool b=>some (a==b)
 | _,_=>none
def aL:List T→List T→Option Bool
 | [],[]=>some true
 | a :: as,b :: bs=>match dy a b,aL as bs with
  | some x,some y=>some (x&&y)
  | _,_=>none
 | _,_=>none
def dj:T→T→Option Bool
 | .agg as,.agg bs=>aL as bs
 | a,b=>dy a b
def bl (k:T):List (T×T)→Option (Option Nat)
 | []=>some none
 | e :: es=>match dj k e.1 with
  | some true=>some (some 0)
  | some false=>(bl k es).map (Option.map (·+1))
  | none=>none
def cn (H:aa):T→Option (List (T×T))
 | .b6=>some []
 | .map b=>match H[b]? with|some (.map es)=>some es|some (.cm es _ _ _)=>some es|_=>none
 | _=>none
def eV (cells:List T):List (Nat×List T)→Option (List T)
 | []=>some cells
 | (off,vs) :: rest=>if off+vs.length≤cells.length then eV (cells.take off++vs++cells.drop (off+vs.length)) rest else none
def bU (R:ai):List (Nat×Nat×X)→Option (List (Nat×List T))
 | []=>some []
 | (off,n,x) :: rest=>match (x.ev R).cells?,bU R rest with
  | some cs,some l=>if cs.length=n then some ((off,cs) :: l)else none
  | _,_=>none
def dz (n:Nat)(es:List (List T))(R:ai):List (Nat×X)→Option (List (List T))
 | []=>some es
 | (i,x) :: rest=>match (x.ev R).cells? with
  | some cs=>if cs.length=n∧i<es.length then dz n (es.set i (cs.map T.erase)) R rest else none
  | none=>none
def dA (n:Nat)(es:List (List T))(R:ai):List (Nat×X)→Option (List (List T))
 | []=>some es
 | (i,x) :: rest=>match (x.ev R).cells? with
  | some cs=>if cs.length=n∧i<es.length then dA n (es.set i cs) R rest else none
  | none=>none
def gD (H:aa)(n:Nat):T→Option (List T)
 | .ptr b off=>match H[b]? with
  | some (.cells cs)=>if off+n≤cs.length then some ((cs.drop off).take n)else none
  | some (.fz cs)=>if off+n≤cs.length then some ((cs.drop off).take n)else none
  | _=>none
 | .cC cs=>if n≤cs.length then some (cs.take n)else none
 | _=>none
def valOf (ag:Bool)(cs:List T):Option T :=
 if ag then some (.agg cs)else match cs with | [v]=>some v|_=>none
def tC (H:aa)(vs:List T):T→Option aa
 | .ptr b off=>match H[b]? with
  | some (.cells cs)=>if off+vs.length≤cs.length then some (H.set b (.cells (cs.take off++vs++cs.drop (off+vs.length))))else none
  | _=>none
 | _=>none
def kb (off:Nat):T→Option T
 | .ptr b o=>some (.ptr b (o+off))
 | .cC cs=>if off<cs.length then some (.cC (cs.drop off))else none
 | _=>none
def tD (n i:Nat):T→Option T
 | .sl _ es=>match es[i]? with
  | some c=>if c.length=n∧n≠0 then some (.cC c)else none
  | none=>none
 | .aP b off len n'=>if n'=n∧i<len∧n≠0 then some (.ptr b (off+i*n))else none
 | _=>none
def aH (H:aa)(n:Nat):T→Option (List (List T))
 | .sl _ es=>if es.all (·.length==n)then some es else none
 | .aP b off len n'=>match H[b]? with
  | some (.cells cs)=>if n'=n∧off+len*n≤cs.length then some ((List.range len).map fun i=>(cs.drop (off+i*n)).take n)else none
  | some (.fz cs)=>if n'=n∧off+len*n≤cs.length then some ((List.range len).map fun i=>(cs.drop (off+i*n)).take n)else none
  | _=>none
 | .str s=>if n=1 then some (s.data.toList.map fun c=>[.int .u8 c.toNat])else none
 | _=>none
def bytesOf:List (List T)→Option (List UInt8)
 | []=>some []
 | [.int .u8 n] :: es=>(bytesOf es).map (UInt8.ofNat n.toNat :: ·)
 | _=>none
def dB (H:aa):Lc→T→Option Nat
 | .str,.str s=>some s.size
 | .sl,.sl _ es=>some es.length
 | .sl,.aP _ _ len _=>some len
 | .sl,.bT _ _ len _ _=>some len
 | .map,.b6=>some 0
 | .map,.map b=>match H[b]? with
  | some (.map es)=>some es.length
  | some (.cm es _ _ _)=>some es.length
  | _=>none
 | _,_=>none
def aQ:T→Option Nat
 | .int _ n=>if 0≤n then some n.toNat else none
 | _=>none
def cT (R:ai)(d:Nat):Option X→Option Nat
 | none=>some d
 | some x=>aQ (x.ev R)
def SK.cut (k:SK)(len lo hi:Nat):SK :=
 match k with
 | .nil=>.nil
 | .arg=>.arg
 | .full=>if hi=len then .full else .arg
 | .own t e=>if hi=len∧lo<len then .own t e else .arg
def dL (dM bytes:Nat):Bool:=(dM+dM/4+512)*bytes≤281474976710656
def mF (H:aa)(bytes:Nat)(k:SK)(es new:List (List T)):Option (T×aa) :=
 match new with
 | []=>some (.sl k es,H)
 | _ =>
  if dL (es.length+new.length) bytes then
   match k with
   | .nil | .full=>some (.sl (.own H.length (es.length+new.length)) (es++new.map (·.map T.erase)),H++[.tok (es.length+new.length)])
   | .own t e=>match H[t]? with
    | some (.tok e')=>if e=e' then some (.sl (.own t (e+new.length)) (es++new.map (·.map T.erase)),H.set t (.tok (e+new.length)))else none
    | _=>none
   | .arg=>none
  else none
def pN:T→Bool
 | .sl _ _ | .aP _ _ _ _=>true
 | _=>false
def oI (H:aa)(n bytes:Nat)(x:T)(new:List (List T)):Option (T×aa) :=
 match new with
 | []=>if pN x then some (x,H)else none
 | _ =>
  match x with
  | .sl .nil es | .sl .full es =>
   if dL (es.length+new.length) bytes∧es=[]then some (.aP H.length 0 new.length n,H++[.cells new.flatten])else none
  | .aP b off len n'=>match H[b]? with
   | some (.cells cs) =>
    if n'=n∧off=0∧len*n=cs.length∧dL (len+new.length) bytes then
     some (.aP H.length 0 (len+new.length) n,H.set b .dead++[.cells (cs++new.flatten)])else none
   | _=>none
  | _=>none
def yP:T→T
 | .bT b off len n _=>.aP b off len n
 | t=>t
def fe (H:aa)(n k:Nat):T→Option (List (List T))
 | .aP b off _ n' | .bT b off _ n' _=>match H[b]? with
  | some (.cells cs)=>if n'=n∧off+k*n≤cs.length then some ((List.range k).map fun i=>(cs.drop (off+i*n)).take n)else none
  | _=>none
 | _=>none
def tE:T→Option Nat
 | .aP _ _ len _ | .bT _ _ len _ _=>some len
 | _=>none
def pO (H:aa)(n:Nat)(x y:T):Option (T×aa) :=
 match x,tE y with
 | .aP b off len n',some ly | .bT b off len n' _,some ly =>
  match H[b]?,fe H n (min ly len) y with
  | some (.cells cs),some new =>
   if n'=n∧n≠0∧off≤cs.length then some (.int .i64 (min ly len:Nat),H.set b (.cells (cs.take off++new.flatten++cs.drop (off+(min ly len)*n))))else none
  | _,_=>none
 | _,_=>none
def pP (H:aa)(b:Nat):Nat:=match H[b]? with
 | some (.cells cs)=>cs.length
 | some (.fz cs)=>cs.length
 | _=>0
def tF (H:aa)(n bytes:Nat)(z:List T)(x:T)(k:Nat):Option (T×aa) :=
 match x with
 | .bT b off len n' c=>match fe H n len x with
  | some es=>if n'=n∧n≠0∧0<k∧c<len+k∧z.length=n∧dL (len+k) bytes then some (.aP H.length 0 (len+k) n,H++[.cells (es.flatten++(List.replicate k z).flatten)])else none
  | none=>none
 | _=>none
def pQ (H:aa)(n:Nat)(x y:T):Option (T×aa) :=
 match x,y with
 | .aP bv _ _ n1,.bT b _ len n2 _ =>
  match H[bv]?,H[b]? with
  | some (.cells _),some (.cells cs)=>if bv≠b∧n1=n∧n2=n∧0<cs.length then some (.bool false,H)else none
  | _,_=>none
 | _,_=>none
def vW (R:ai)(l:List X):List T:=l.map (X.ev R)
def Cz (n:Nat):List T→Bool
 | [.int .u8 _]=>n != 0
 | _=>false
def oJ (n:Nat)(z cs:List T):B:=if Cz n z then .lit cs else .cells cs
def ae (R:ai)(H:aa):Bo→Option (T×aa)
 | .al x=>some (x.ev R,H)
 | .pick c a b=>match c.ev R with
  | .bool t=>some (if t then a.ev R else b.ev R,H)
  | _=>none
 | .bin op x y=>(aN op (x.ev R) (y.ev R)).map (·,H)
 | .eK neg c x y=>(kV c (x.ev R) (y.ev R)).map fun b=>(.bool (if neg then !b else b),H)
 | .beq neg x y=>match x.ev R,y.ev R with
  | .bool a,.bool b=>some (.bool (if neg then !(a==b)else a==b),H)
  | _,_=>none
 | .eqs neg ks x y=>match x.ev R,y.ev R with
  | .agg as,.agg bs=>if hasAll ks as then(aL as bs).map fun b=>(.bool (if neg then !b else b),H)else none
  | _,_=>none
 | .un op x=>(yO op (x.ev R)).map (·,H)
 | .fy k x=>match x.ev R with
  | .int _ n=>some (.int k (k.wrap n),H)
  | _=>none
 | .vQ x=>match aH H 1 (x.ev R)with
  | some es=>match x.ev R with
   | .str _=>none
   | _=>(bytesOf es).map fun l=>(.str ⟨l.toArray⟩,H)
  | none=>none
 | .vR m x=>match x.ev R with
  | .aP b off len n=>match H[b]? with
   | some (.lit cs)=>if m=true∧off=0∧n=1∧len=cs.length then some (.sl .arg (cs.map fun c=>[c]),H.set b .dead)else none
   | _=>none
  | .str s=>if m=false∧s.size≤16777216 then some (.sl .arg (s.data.toList.map fun c=>[.int .u8 c.toNat]),H)else none
  | _=>none
 | .len k x=>(dB H k (x.ev R)).map fun (n:Nat)=>(T.int .i64 (n:Int),H)
 | .alloc z=>some (.ptr H.length 0,H++[.cells z])
 | .box x=>(x.ev R).cells?.map fun cs=>(.ptr H.length 0,H++[.cells cs])
 | .build z ps=>match bU R ps with
  | some l=>(eV z l).map fun cs=>(.agg cs,H)
  | none=>none
 | .kL n z ps=>(dz z.length (List.replicate n z) R ps).map fun es=>(.sl .full es,H)
 | .ld n ag x=>match gD H n (x.ev R)with
  | some cs=>(valOf ag cs).map (·,H)
  | none=>none
 | .st n a v=>match (v.ev R).cells? with
  | some vs=>if vs.length=n then(tC H vs (a.ev R)).map (av,·)else none
  | none=>none
 | .ny off x=>(kb off (x.ev R)).map (·,H)
 | .y9 off n ag x=>match x.ev R with
  | .agg cs=>if off+n≤cs.length then(valOf ag ((cs.drop off).take n)).map (·,H)else none
  | _=>none
 | .ja n x i=>(aQ (i.ev R)).bind fun i=>(tD n i (x.ev R)).map (·,H)
 | .vS len n x i=>match x.ev R,aQ (i.ev R)with
  | .ptr b off,some i=>if i<len then some (.ptr b (off+i*n),H)else none
  | _,_=>none
 | .za x i=>match x.ev R,aQ (i.ev R)with
  | .str s,some i=>(s.data[i]?).map fun c=>(.int .u8 c.toNat,H)
  | _,_=>none
 | .BX len n ag x i=>match x.ev R,aQ (i.ev R)with
  | .agg cs,some i=>if i<len∧i*n+n≤cs.length then(valOf ag ((cs.drop (i*n)).take n)).map (·,H)else none
  | _,_=>none
 | .xh x lo hi=>match x.ev R with
  | .str s=>match cT R 0 lo,cT R s.size hi with
   | some l,some h=>if l≤h∧h≤s.size then some (.str (s.extract l h),H)else none
   | _,_=>none
  | _=>none
 | .kM n x lo hi mx=>match x.ev R with
  | .sl k es=>match cT R 0 lo,cT R es.length hi,mx with
   | some l,some h,none=>if l≤h∧h≤es.length∧es.all (·.length==n)then some (.sl (k.cut es.length l h) ((es.take h).drop l),H)else none
   | some l,some h,some m=>match aQ (m.ev R)with
    | some m =>
     if l≤h∧h≤m∧m≤es.length∧es.all (·.length==n)then
      some (.sl (if k=.nil then .nil else if es=[]∧k=.arg then .arg else if h=m then .full else .arg) ((es.take h).drop l),H)else none
    | none=>none
   | _,_,_=>none
  | .aP b off len n'=>match cT R 0 lo,cT R len hi,mx with
   | some l,some h,none =>
    if n'=n∧l≤h∧h≤len then some (if l=h then(if l=0 then .aP b off 0 n else .sl .arg [])else .aP b (off+l*n) (h-l) n,H)else none
   | _,_,_=>none
  | .bT b off len n' c=>match cT R 0 lo,cT R len hi,mx with
   | some l,some h,none =>
    if n'=n∧l≤h∧h≤c then some (if l<c∨l=0 then .bT b (off+l*n) (h-l) n (c-l)else .sl .arg [],H)else none
   | _,_,_=>none
  | _=>none
 | .nz=>some (.map H.length,H++[.map []])
 | .gW kt z ok m k =>
  if (k.ev R).dr kt then
   match cn H (m.ev R)with
   | some es=>match bl (k.ev R) es with
    | some (some i)=>match es[i]? with
     | some e=>some (if ok then .bg [e.2,.bool true]else e.2,H)
     | none=>none
    | some none=>some (if ok then .bg [z,.bool false]else z,H)
    | none=>none
   | none=>none
  else none
 | .oH kt m k v=>match m.ev R with
  | .map b=>if (k.ev R).dr kt then match H[b]? with
   | some (.map es)=>match bl (k.ev R) es with
    | some (some i)=>some (av,H.set b (.map (es.set i (k.ev R,v.ev R))))
    | some none=>some (av,H.set b (.map (es++[(k.ev R,v.ev R)])))
    | none=>none
   | _=>none else none
  | _=>none
 | .del kt m k=>match m.ev R with
  | .map b=>if (k.ev R).dr kt then match H[b]? with
   | some (.map es)=>match bl (k.ev R) es with
    | some (some i)=>some (.bg [],H.set b (.map (es.eraseIdx i)))
    | some none=>some (.bg [],H)
    | none=>none
   | _=>none else none
  | _=>none
 | .app n bytes mu x y=>match aH H n (y.ev R)with
  | some new=>if mu then oI H n bytes (yP (x.ev R)) new else match x.ev R with
   | .sl k es=>if es.all (·.length==n)then mF H bytes k es new else none
   | _=>none
  | none=>none
 | .BZ mu bytes z l c=>match aQ (l.ev R),aQ (c.ev R)with
  | some l,some c =>
   if l≤c∧c*bytes≤281474976710656∧c≤9223372036854775807 then
    if mu then some (.aP H.length 0 l z.length,H++[.cells (List.replicate l z).flatten])
    else if l=0 then some (.sl .arg [],H)else some (.sl (.own H.length l) (List.replicate l z),H++[.tok l])
   else none
  | _,_=>none
 | .vT f ep=>some (.fn f (vW R ep),H)
 | .ext i x=>match x.ev R with
  | .bg vs=>(vs[i]?).map (·,H)
  | _=>none
 | .mn x y=>match x.ev R,y.ev R with
  | .int k a,.int _ b=>some (.int k (if b<a then b else a),H)
  | _,_=>none
 | .mx x y=>match x.ev R,y.ev R with
  | .int k a,.int _ b=>some (.int k (if b>a then b else a),H)
  | _,_=>none
 | .ka x=>match x.ev R with
  | .aE | .cD | .dh=>none
  | v=>some (v,H)
 | .cap x=>match x.ev R with
  | .bT _ _ _ _ c=>some (.int .i64 (c:Nat),H)
  | _=>none
 | .tz n x y=>pO H n (x.ev R) (y.ev R)
 | .vU x=>match x.ev R with
  | .map b=>(cn H (.map b)).map fun es=>(.ptr H.length 0,H.set b (.cm es (List.range es.length) H.length none)++[.pE b])
  | _=>none
 | .gL _=>none
 | .vV x=>match x.ev R with
  | .ptr bi 0=>match H[bi]? with
   | some (.pE b)=>match H[b]? with
    | some (.cm es _ vX (some c))=>if vX=bi then(es[c]?).map fun e=>(.bg [e.1,e.2],H)else none
    | _=>none
   | _=>none
  | _=>none
 | .zb n z x=>match x.ev R with
  | .aP b off len n'=>match H[b]? with
   | some (.cells cs)=>if n'=n∧z.length=n∧off+len*n≤cs.length then some (av,H.set b (.cells (cs.take off++(List.replicate len z).flatten++cs.drop (off+len*n))))else none
   | _=>none
  | _=>none
 | .yN n x y=>pQ H n (x.ev R) (y.ev R)
 | .zd n bytes z x k=>(aQ (k.ev R)).bind fun k=>tF H n bytes z (x.ev R) k
 | .xi n z ps=>(dA z.length (List.replicate n z) R ps).bind fun es=>if z.length≠0 then some (.aP H.length 0 n z.length,H++[oJ n z es.flatten])else none
 | .B0 n x hi=>match x.ev R,aQ (hi.ev R)with
  | .aP b off _ n',some h=>if n'=n∧n≠0∧0<h∧off+h*n≤pP H b then some (.aP b off h n,H)else none
  | _,_=>none
def au (R:ai):Gd→Bool
 | none=>true
 | some (t,b)=>match R t with
  | .bool c=>c==b
  | _=>false
inductive Rs where
 | t (r:Nat)
 | cl (r n:Nat) (ag:Bool)
structure Fn where
 n:Nat
 np:Nat
 res:List Rs
 body:C
structure Env where
 fn:Nat→Option Fn
 g9:Nat→List T→aa→(T→aa→Prop)→Prop
 mono:∀f az H (Q Q':T→aa→Prop),g9 f az H Q→(∀t H',Q t H'→Q' t H')→g9 f az H Q'
inductive J where
 | code (c:C) (R:ai)
 | ops (l:List O) (R:ai)
 | call (f:Nat) (as:List T)
inductive Out where
 | ex (e:Ex) (R:ai)
 | val (v:T)
def C.eg:C→Bool
 | .seq a b | .cond _ a b=>a.eg||b.eg
 | .block _ a | .loop a=>a.eg
 | .bo _ _ _ _ _=>true
 | _=>false
def fA (R:ai):List Nat→List T→ai
 | p :: ps,v :: vs=>fA (iZ R p v) ps vs
 | _,_=>R
def pR:T→Option Nat
 | .ptr b 0=>some b
 | _=>none
def hC:List T→Option (List Nat)
 | []=>some []
 | t :: ts=>match pR t,hC ts with
  | some b,some bs=>some (b :: bs)
  | _,_=>none
def marks:T→Option (List Nat)
 | .bg ts=>hC ts
 | _=>none
def fB (t:T)(b:Nat):T:=match t with
 | .bg ts=>.bg (.ptr b 0 :: ts)
 | t=>t
def kill (H:aa):List Nat→aa
 | []=>H
 | b :: bs=>kill (H.set b .dead) bs
def kc:Option Ex→Ex
 | none=>.normal
 | some e=>e
def dk (as:List T):ai:=fun t=>as.getD t av
def mG (R:ai)(H:aa):Rs→Option T
 | .t r=>some (R r)
 | .cl r n ag=>match gD H n (R r)with
  | some cs=>valOf ag cs
  | none=>none
def jb (R:ai)(H:aa):List Rs→Option (List T)
 | []=>some []
 | x :: xs=>match mG R H x,jb R H xs with
  | some v,some vs=>some (v :: vs)
  | _,_=>none
def oK:List T→T
 | [v]=>v
 | l=>.bg l
def fC (R:ai)(H:aa)(l:List Rs):Option T:=(jb R H l).map oK
def cE (R:ai)(H:aa)(l:List Rd):Prop:=∀r∈l,au R r.g=true→ae R H r.op=some (R r.d,H)
def dN (cs:List T)(off len n:Nat):List (List T):=(List.range len).map fun i=>(cs.drop (off+i*n)).take n
def tG (b:Nat)(cs:List T):T→T
 | .aP b' off len n=>if b'=b∧off+len*n≤cs.length then .sl .arg (dN cs off len n)else .aP b' off len n
 | t=>t
def mH (b:Nat)(cs:List T):T→T
 | .bg vs=>.bg (vs.map (tG b cs))
 | t=>tG b cs t
def hG (b:Nat):T→Prop
 | .bg vs=>∃off len n,T.aP b off len n∈vs
 | .aP b' _ _ _=>b'=b
 | _=>False
inductive Vw (H:aa):T→T→Prop
 | refl (t:T):Vw H t t
 | ms {b off len n:Nat} {cs:List T} {es:List (List T)} (src:Nat→Nat→T) (hb:H[b]?=some (.fz cs)) (hl:es.length=len) (hn:∀c∈es,c.length=n) (hle:off+len*n≤cs.length)
   (h1:∀(i j:Nat) (c:List T) (t':T),es[i]?=some c→c[j]?=some t'→cs[off+i*n+j]?=some (src i j)∧t'.one=true) (h2:∀(i j:Nat) (c:List T) (t':T),es[i]?=some c→c[j]?=some t'→Vw H (src i j) t'):Vw H (.aP b off len n) (.sl .arg es)
def FN (H:aa)(as:List T)(b:Nat):Prop:=∃(i b' off len n:Nat),as[i]?=some (.aP b' off len n)∧(b'=b∨∃(cs:List T) (j xj xk n':Nat),(H[b']?=some (.cells cs)∨H[b']?=some (.fz cs))∧(cs[j]?:Option T)=some (.aP b xj xk n'))
def fD (H:aa)(b bi:Nat)(es:List (T×T))(ix:List Nat)(t:T)(H':aa):Prop :=
 (ix=[]∧t=.bg [.bool false]∧H'=H.set b (.map es))∨∃i e,i∈ix∧es[i]?=some e∧t=.bg [.bool true,e.1,e.2]∧H'=H.set b (.cm es (ix.erase i) bi (some i))
inductive W (E:Env):J→aa→(Out→aa→Prop)→Prop
 | skip {R H Q} (h:Q (.ex .normal R) H):W E (.code .skip R) H Q
 | exit {id R H Q} (h:Q (.ex (.exit id) R) H):W E (.code (.exit id) R) H Q
 | ret {R H Q} (h:Q (.ex .ret R) H):W E (.code .ret R) H Q
 | ze {l R H Q} (h:W E (.ops l R) H Q):W E (.code (.ops l) R) H Q
 | seq {a b R H Q} (M:Out→aa→Prop) (h1:W E (.code a R) H M) (h2:∀R' H',M (.ex .normal R') H'→W E (.code b R') H' Q)
   (h3:∀o H',M o H'→(∀R',o≠.ex .normal R')→Q o H'):W E (.code (.seq a b) R) H Q
 | cond {x a b R H Q} (t:Bool) (hx:x.ev R=.bool t) (h:W E (.code (if t then a else b) R) H Q):W E (.code (.cond x a b) R) H Q
 | block {id a R H Q} (M:Out→aa→Prop) (h1:W E (.code a R) H M) (h2:∀R' H',M (.ex (.exit id) R') H'→Q (.ex .normal R') H')
   (h3:∀o H',M o H'→(∀R',o≠.ex (.exit id) R')→Q o H'):W E (.code (.block id a) R) H Q
 | loop {a R H Q} (M:Out→aa→Prop) (h1:W E (.code a R) H M) (h2:∀R' H',M (.ex .normal R') H'→W E (.code (.loop a) R') H' Q)
   (h3:∀o H',M o H'→(∀R',o≠.ex .normal R')→Q o H'):W E (.code (.loop a) R) H Q
 | nil {R H Q} (h:Q (.ex .normal R) H):W E (.ops [] R) H Q
 | no {o l R H Q} (hg:au R o.g=false) (h:W E (.ops l (ay R o.d av)) H Q):W E (.ops (o :: l) R) H Q
 | op {d b g s l R H Q v H'} (hg:au R g=true) (he:ae R H b=some (v,H')) (hs:cE R H' s) (h:W E (.ops l (ay R d v)) H' Q):W E (.ops (⟨d,.b b,g,s⟩ :: l) R) H Q
 | call {d f as g s l R H Q} (M:Out→aa→Prop) (hg:au R g=true) (h1:W E (.call f (as.map (X.ev R))) H M)
   (hs:∀v H',M (.val v) H'→cE R H' s) (h2:∀v H',M (.val v) H'→W E (.ops l (ay R d v)) H' Q):W E (.ops (⟨d,.call f as,g,s⟩ :: l) R) H Q
 | a6 {d x f cs as g s l R H Q} (M:Out→aa→Prop) (hg:au R g=true) (hf:x.ev R=.fn f cs) (h1:W E (.call f (as.map (X.ev R)++cs)) H M)
   (hs:∀v H',M (.val v) H'→cE R H' s) (h2:∀v H',M (.val v) H'→W E (.ops l (ay R d v)) H' Q):W E (.ops (⟨d,.a6 x as,g,s⟩ :: l) R) H Q
 | pS {d neg c x y s l R H Q} (hs:s=[]) (h:∀b:Bool,W E (.ops l (ay R d (.bool b))) H Q) (hx:x.ev R=.sl .arg []) (hy:y.ev R=.sl .nil []) (hc:c=.slice) :
   W E (.ops (⟨d,.b (.eK neg c x y),none,s⟩ :: l) R) H Q
 | gV {d x b as g s l R H Q n R0 ps bf body} (M1 M:Out→aa→Prop) (hg:au R g=true) (hf:x.ev R=.gV b) (hb:H[b]?=some (.loop .ready none n R0 ps bf body)) (hn:as.length=ps.length)
   (h1:W E (.code bf (fA R0 ps (as.map (X.ev R)))) H M1) (pT:∀o H',M1 o H'→(∃R1,o=.ex .normal R1)∧H'[b]?=some (.loop .ready none n R0 ps bf body))
   (h2:∀R1 H1,M1 (.ex .normal R1) H1→W E (.code body R1) (H1.set b (.loop .busy none n R0 ps bf body)) M) (mI:∀o H',M o H'→H'[b]?=some (.loop .busy none n R0 ps bf body))
   (B1:∀R' H',M (.ex .normal R') H'→cE R (H'.set b (.loop .ready none n R0 ps bf body)) s)
   (h3:∀R' H',M (.ex .normal R') H'→W E (.ops l (ay R d (.bool true))) (H'.set b (.loop .ready none n R0 ps bf body)) Q)
   (B2:∀e R' H',M (.ex e R') H'→e≠.normal→cE R (H'.set b (.loop .done (some e) n R0 ps bf body)) s)
   (h4:∀e R' H',M (.ex e R') H'→e≠.normal→W E (.ops l (ay R d (.bool false))) (H'.set b (.loop .done (some e) n R0 ps bf body)) Q):W E (.ops (⟨d,.a6 x as,g,s⟩ :: l) R) H Q
 | bo {n x ps bf body R H Q f cs} (M:Out→aa→Prop) (hx:x.ev R=.fn f cs) (h1:W E (.call f (.gV (H.length+1) :: cs)) (H++[.kS,.loop .ready none n R ps bf body]) M)
   (h2:∀v H',M (.val v) H'→∃st bz,st≠.busy∧bz≠some .normal∧H'[H.length+1]?=some (.loop st bz n R ps bf body)∧Q (.ex (kc bz) (iZ R n (fB (R n) H.length))) (H'.set (H.length+1) .dead)) :
   W E (.code (.bo n x ps bf body) R) H Q
 | B3 {f as H Q fn} (M:Out→aa→Prop) (hf:E.fn f=some fn) (hn:as.length=fn.np) (h1:W E (.code fn.body (dk as)) H M)
   (h2:∀o H',M o H'→∃R' bs,(o=.ex .normal R'∨o=.ex .ret R')∧marks (R' fn.n)=some bs∧bs.Nodup∧(∀b∈bs,H'[b]?=some .kS)∧∃v,fC R' (kill H' bs) fn.res=some v∧Q (.val v) (kill H' bs)):W E (.call f as) H Q
 | fn {f as H Q fn} (M:Out→aa→Prop) (hf:E.fn f=some fn) (hr:fn.body.eg=false) (hn:as.length=fn.np) (h1:W E (.code fn.body (dk as)) H M)
   (h2:∀o H',M o H'→∃R',(o=.ex .normal R'∨o=.ex .ret R')∧∃v,fC R' H' fn.res=some v∧Q (.val v) H'):W E (.call f as) H Q
 | xl {f as H Q b off len n} (i:Nat) (M:Out→aa→Prop) (hi:as[i]?=some (.aP b off len n)) (h1:∀c,len≤c→W E (.call f (as.set i (.bT b off len n c))) H M) (h2:∀v H',M (.val v) H'→Q (.val (yP v)) H'):W E (.call f as) H Q
 | pF {f as H Q} (M:Out→aa→Prop) (h1:W E (.call f as) H M) (h2:∀o H',M o H'→∃v b cs,o=.val v∧hG b v∧H'[b]?=some (.cells cs)∧Q (.val (mH b cs v)) (H'.set b .dead)):W E (.call f as) H Q
 | gL {d x g s l R H Q b bi es ix cur} (hg:au R g=true) (hx:x.ev R=.ptr bi 0) (hb:H[b]?=some (.cm es ix bi cur))
   (hs:∀t H',fD H b bi es ix t H'→cE R H' s) (h:∀t H',fD H b bi es ix t H'→W E (.ops l (ay R d t)) H' Q):W E (.ops (⟨d,.b (.gL x),g,s⟩ :: l) R) H Q
 | shr {f as H Q} (M:Out→aa→Prop) (h1:W E (.call f as) H M) (h2:∀o H',M o H'→∃v b cs k,o=.val v∧hG b v∧H'[b]?=some (.cells cs)∧Q (.val v) (H'.set b (.cells (cs.take k)))):W E (.call f as) H Q
 | xm {f as H Q b off len n cs} (i:Nat) (hi:as[i]?=some (.aP b off len n)) (hb:H[b]?=some (.cells cs)) (h:W E (.call f (as.map (mH b cs))) (H.set b .dead) Q):W E (.call f as) H Q
 | CA {f as H Q b cs} (hk:FN H as b) (hb:H[b]?=some (.cells cs)) (h:W E (.call f as) (H.set b (.fz cs)) Q):W E (.call f as) H Q
 | vw {f as te H Q} (hl:te.length=as.length) (hv:∀(i:Nat) (t t':T),as[i]?=some t→te[i]?=some t'→Vw H t t') (h:W E (.call f te) H Q):W E (.call f as) H Q
 | B4 {d n bytes y g s l R H Q b len cs v H' t} (hg:au R g=true) (ht:R t=.aP b 0 len n) (hb:H[b]?=some (.cells cs)) (hlen:len*n=cs.length) (h0:0<len)
   (he:ae (iZ R t (.sl (.own H.length len) (dN cs 0 len n))) (H.set b (.fz cs)++[.tok len]) (.app n bytes false (.r t) y)=some (v,H')) (hs:cE R H' s) (h:W E (.ops l (ay R d v)) H' Q):W E (.ops (⟨d,.b (.app n bytes false (.r t) y),g,s⟩ :: l) R) H Q
 | g9 {f as H Q} (h:E.g9 f as H fun v H'=>Q (.val v) H'):W E (.call f as) H Q
inductive Ow where
 | free|cF|mut (b:Nat)|spare (t:Nat)
 deriving DecidableEq
structure Ctx where
 φ:Nat→Option (Nat×Nat×Nat)
 κ:Nat→Nat→Ow
 π:Nat→Nat→Option (Nat×Nat×Nat)
 ck:Nat→C→Code→Prop
def my (g:Ctx)(w:World)(r o:Nat)(v:Value):Prop:=g.κ r o=.cF∧w.cell? ⟨r,o,none⟩=some v
def oL (g:Ctx)(k:SK)(r o len cap n:Nat):Prop :=
 match k with
 | .nil=>False
 | .arg=>True
 | .full=>cap=len
 | .own t e=>g.π t e=some (r,o+len*n,o+cap*n)∧0<len
inductive VR (g:Ctx)(w:World):T→Value→Prop
 | int (k n):VR g w (.int k n) (.int k n)
 | bool (b):VR g w (.bool b) (.bool b)
 | str (s):VR g w (.str s) (.string s)
 | aE:VR g w .aE (.pointer none)
 | ptr {b off r o q} (h:g.φ b=some (r,o,q)):VR g w (.ptr b off) (.pointer (some ⟨r,o+off,none⟩))
 | cC {cs r o} (a7:Nat→Value) (h1:∀(j:Nat) (t:T),cs[j]?=some t→t.one=true∧my g w r (o+j) (a7 j)) (h2:∀(j:Nat) (t:T),cs[j]?=some t→VR g w t (a7 j)) :
   VR g w (.cC cs) (.pointer (some ⟨r,o,none⟩))
 | b6:VR g w .b6 (.map none)
 | map {b r o q} (h:g.φ b=some (r,o,q)):VR g w (.map b) (.map (some r))
 | slnil:VR g w (.sl .nil []) (.slice none 0 0)
 | dm (a:Option Addr):VR g w (.sl .arg []) (.slice a 0 0)
 | sl {k es r o cap n} (a7:Nat→Nat→Value) (hk:oL g k r o es.length cap n) (hc:es.length≤cap) (hn:∀c∈es,c.length=n)
   (h1:∀(i j:Nat) (c:List T) (t:T),es[i]?=some c→c[j]?=some t→t.one=true∧my g w r (o+i*n+j) (a7 i j))
   (h2:∀(i j:Nat) (c:List T) (t:T),es[i]?=some c→c[j]?=some t→VR g w t (a7 i j)) :
   VR g w (.sl k es) (.slice (some ⟨r,o,none⟩) es.length cap)
 | aP {b off len n r o q cap} (h:g.φ b=some (r,o,q)) (hc:len≤cap) (hq:o+off+cap*n=q):VR g w (.aP b off len n) (.slice (some ⟨r,o+off,none⟩) len cap)
 | bT {b off len n r o q c} (h:g.φ b=some (r,o,q)) (hc:len≤c) (hq:o+off+c*n=q):VR g w (.bT b off len n c) (.slice (some ⟨r,o+off,none⟩) len c)
 | dh:VR g w .dh .nilFunc
 | fn {f ep vs} (hl:vs.size=ep.length) (h:∀(i:Nat) (t:T) (v:Value),ep[i]?=some t→vs[i]?=some v→VR g w t v):VR g w (.fn f ep) (.func (.func f) #[] vs)
 | gV {b r o q} (h:g.φ b=some (r,o,q)):VR g w (.gV b) (.func (.yield r) #[] #[])
 | cD:VR g w .cD .nilIface
 | agg {cs vs} (hl:vs.size=cs.length) (h1:∀t∈cs,t.one=true) (h2:∀(i:Nat) (t:T) (v:Value),cs[i]?=some t→vs[i]?=some v→VR g w t v):VR g w (.agg cs) (.agg vs)
 | bg {cs vs} (hl:vs.size=cs.length) (h2:∀(i:Nat) (t:T) (v:Value),cs[i]?=some t→vs[i]?=some v→VR g w t v):VR g w (.bg cs) (.tuple vs)
structure Le (g:Ctx)(w:World)(g':Ctx)(w':World):Prop where
 φ:∀b x,g.φ b=some x→g'.φ b=some x
 κ:∀r o,g.κ r o=.cF→g'.κ r o=.cF
 π:∀t e x,g.π t e=some x→g'.π t e=some x
 cell:∀r o v,g.κ r o=.cF→w.cell? ⟨r,o,none⟩=some v→w'.cell? ⟨r,o,none⟩=some v
 ck:g'.ck=g.ck
theorem Le.refl (g:Ctx)(w:World):Le g w g w:=⟨fun _ _ h=>h,fun _ _ h=>h,fun _ _ _ h=>h,fun _ _ _ _ h=>h,rfl⟩
theorem Le.trans {g g' zf:Ctx}{w w' zg:World}(h:Le g w g' w')(h':Le g' w' zf zg):Le g w zf zg :=
 ⟨fun b x e=>h'.φ b x (h.φ b x e),fun r o e=>h'.κ r o (h.κ r o e),fun t e x k=>h'.π t e x (h.π t e x k),fun r o v k e=>h'.cell r o v (h.κ r o k) (h.cell r o v k e),h'.ck.trans h.ck⟩
theorem my.mono {g g':Ctx}{w w':World}(le:Le g w g' w'){r o:Nat}{v:Value}(h:my g w r o v):my g' w' r o v:=⟨le.κ _ _ h.1,le.cell _ _ _ h.1 h.2⟩
theorem oL.mono {g g':Ctx}{w w':World}(le:Le g w g' w'){k:SK}{r o len cap n:Nat}(h:oL g k r o len cap n):oL g' k r o len cap n:=by
 cases k with
 | nil=>exact h
 | arg=>exact h
 | full=>exact h
 | own t e=>exact⟨le.π _ _ _ h.1,h.2⟩
theorem VR.mono {g g':Ctx}{w w':World}(le:Le g w g' w'){t:T}{v:Value}(h:VR g w t v):VR g' w' t v:=by
 induction h with
 | int k n=>exact .int k n
 | bool b=>exact .bool b
 | str s=>exact .str s
 | aE=>exact .aE
 | ptr h=>exact .ptr (le.φ _ _ h)
 | cC a7 h1 _ ih=>exact .cC a7 (fun j t e=>⟨(h1 j t e).1,(h1 j t e).2.mono le⟩) ih
 | b6=>exact .b6
 | map h=>exact .map (le.φ _ _ h)
 | slnil=>exact .slnil
 | dm a=>exact .dm a
 | sl a7 hk hc hn h1 _ ih=>exact .sl a7 (hk.mono le) hc hn (fun i j c t a b=>⟨(h1 i j c t a b).1,(h1 i j c t a b).2.mono le⟩) ih
 | aP h hc hq=>exact .aP (le.φ _ _ h) hc hq
 | bT h hc hq=>exact .bT (le.φ _ _ h) hc hq
 | dh=>exact .dh
 | fn hl _ ih=>exact .fn hl ih
 | gV h=>exact .gV (le.φ _ _ h)
 | cD=>exact .cD
 | agg hl h1 _ ih=>exact .agg hl h1 ih
 | bg hl _ ih=>exact .bg hl ih
theorem VR.erase {g:Ctx}{w:World}{t:T}{v:Value}(h:VR g w t v):VR g w t.erase v:=by
 cases h with
 | sl a7 hk hc hn h1 h2=>exact .sl a7 trivial hc hn h1 h2
 | slnil=>exact .dm none
 | dm a=>exact .dm a
 | int k n=>exact .int k n
 | bool b=>exact .bool b
 | str s=>exact .str s
 | aE=>exact .aE
 | ptr h=>exact .ptr h
 | cC a7 h1 h2=>exact .cC a7 h1 h2
 | b6=>exact .b6
 | map h=>exact .map h
 | aP h hc hq=>exact .aP h hc hq
 | bT h hc hq=>exact .bT h hc hq
 | dh=>exact .dh
 | fn hl h=>exact .fn hl h
 | gV h=>exact .gV h
 | cD=>exact .cD
 | agg hl h1 h2=>exact .agg hl h1 h2
 | bg hl h2=>exact .bg hl h2
theorem oM (t:T):t.erase.one=t.one:=by cases t<;>rfl
theorem VR.dn {g:Ctx}{w:World}{t:T}{v:Value}(h:VR g w t v)(ho:t.one=true):v.oneCell'=true:=by
 cases h<;>simp_all [T.one,Value.oneCell']
def gX (g:Ctx)(w:World)(b:Nat)(cs:List T)(r o q:Nat):Prop :=
 o+cs.length≤q∧(∀j,o≤j→j<q→g.κ r j=.mut b∧(∀j0,w.frozen? ⟨r,j0,none⟩=false)∧(w.cell? ⟨r,j,none⟩).isSome=true) ∧
 ∀(i:Nat) (t:T),cs[i]?=some t→t.one=true∧∃v,w.cell? ⟨r,o+i,none⟩=some v∧VR g w t v
def tH (g:Ctx)(w:World)(cs:List T)(r o q:Nat):Prop :=
 o+cs.length≤q∧∀(i:Nat) (t:T),cs[i]?=some t→t.one=true∧∃v,my g w r (o+i) v∧VR g w t v
def bB (g:Ctx)(w:World)(es:List (T×T))(ah:Array MapEntry):Prop :=
 ah.size=es.length∧∀(i:Nat) (e:T×T) (m:MapEntry),es[i]?=some e→ah[i]?=some m→VR g w e.1 m.key∧VR g w e.2 m.val
def bV (ah:Array MapEntry)(clock:Nat):Prop:=(∀m∈ah.toList,m.born<clock)∧(ah.toList.map (·.born)).Nodup
def tI (ah:Array MapEntry)(seen:Array Nat)(ix:List Nat)(cur:Option Nat):Prop :=
 ix.Nodup∧(∀i,i∈ix↔∃m,ah[i]?=some m∧m.born∉seen)∧∀c,cur=some c→∃m,ah[c]?=some m∧seen.back?=some m.born
def zh (g:Ctx)(w:World)(t e:Nat):Prop :=
 ∃r p q,g.π t e=some (r,p,q)∧p≤q∧(∀j,p≤j→j<q→g.κ r j=.spare t∧(∀j0,w.frozen? ⟨r,j0,none⟩=false)∧(w.cell? ⟨r,j,none⟩).isSome=true)∧∀e',e<e'→g.π t e'=none
def pM.real:pM→LoopState
 | .ready=>.ready
 | .busy=>.busy
 | .done=>.done
def kW:Option Ex→Option Code
 | some .ret=>some .ret
 | some (.exit id)=>some (.exit id)
 | _=>none
def kd (g:Ctx)(w:World)(st:pM)(bz:Option Ex)(n:Nat)(R:Nat→T)(ps:List Nat)(bf body:C)(rec:Loop):Prop :=
 rec.state=st.real∧rec.pending=kW bz∧rec.params.toList=ps∧rec.tmps.size=n∧(∀t,t<n→VR g w (R t) (rec.tmps.getD t undef))∧(∀p∈ps,p<n)∧g.ck n bf rec.assign∧g.ck n body rec.body
def kX (g:Ctx)(w:World)(b:Nat):B→Prop
 | .cells cs=>∀r o q,g.φ b=some (r,o,q)→gX g w b cs r o q
 | .map es=>∀r o q,g.φ b=some (r,o,q)→g.κ r 0=.mut b∧∃ah clock,w.heap[r]?=some (.map ah clock)∧bB g w es ah∧bV ah clock
 | .tok e=>zh g w b e
 | .loop st bz n R ps bf body=>∀r o q,g.φ b=some (r,o,q)→g.κ r 0=.mut b∧∃rec,w.heap[r]?=some (.loop rec)∧kd g w st bz n R ps bf body rec
 | .kS=>∀r o q,g.φ b=some (r,o,q)→g.κ r 0=.mut b∧w.heap[r]?=some (.deferred (some []))
 | .dead=>True
 | .cm es ix bi cur=>∃r o q,g.φ b=some (r,o,q)∧g.κ r 0=.mut b∧∃ah clock,w.heap[r]?=some (.map ah clock)∧bB g w es ah∧bV ah clock ∧
   ∃ri q' seen,g.φ bi=some (ri,0,q')∧g.κ ri 0=.mut b∧w.heap[ri]?=some (.mapIter (some r) clock seen clock)∧tI ah seen ix cur
 | .pE _=>True
 | .lit cs=>∃r q,g.φ b=some (r,0,q)∧g.κ r q=.mut b∧(∀j,j≠q→g.κ r j=.cF)∧∃c t,w.heap[r]?=some (.cells c t)∧c.size=q∧cs.length=q ∧
   ∀(i:Nat) (t:T),cs[i]?=some t→t.one=true∧∃v,c[i]?=some v∧VR g w t v
 | .fz cs=>∀r o q,g.φ b=some (r,o,q)→tH g w cs r o q
structure SR (w0:World)(g:Ctx)(H:aa)(w:World):Prop where
 size:w0.heap.size≤w.heap.size
 eo:∀r,r<w0.heap.size→w.heap[r]?=w0.heap[r]?
 oN:∀r o,r<w0.heap.size→g.κ r o=.cF
 fresh:∀r o,w.heap.size≤r→g.κ r o=.free
 gN:∀b x,g.φ b=some x→b<H.length
 cp:∀t e x,g.π t e=some x→t<H.length
 dt:∀b x,H[b]?=some x→kX g w b x
 env:w.os=w0.os∧w.output=w0.output
def cq:Obj→Bool
 | .map _ _ | .loop _ | .deferred _ | .mapIter _ _ _ _=>true
 | _=>false
structure CB (w w':World)(S:Nat→Nat→Prop)(M:Nat→Prop):Prop where
 size:w.heap.size≤w'.heap.size
 cell:∀r j,r<w.heap.size→¬S r j→w'.cell? ⟨r,j,none⟩=w.cell? ⟨r,j,none⟩
 ff:∀r j,r<w.heap.size→(w.cell? ⟨r,j,none⟩).isSome=true→(w'.cell? ⟨r,j,none⟩).isSome=true
 maps:∀r x,¬M r→cq x=true→w.heap[r]?=some x→w'.heap[r]?=some x
 eo:∀r,r<w.heap.size→¬M r→(∀j,¬S r j)→w'.heap[r]?=w.heap[r]?
 env:w'.os=w.os∧w'.output=w.output
structure Tr (w w':World)(S:Nat→Nat→Prop)(M:Nat→Prop):Prop extends CB w w' S M where
 pF:∀r j,r<w.heap.size→w'.frozen? ⟨r,j,none⟩=w.frozen? ⟨r,j,none⟩
theorem dP {w:World}{r j:Nat}{v:Value}(h:w.cell? ⟨r,j,none⟩=some v):r<w.heap.size:=by
 unfold World.cell? at h
 cases hr:w.heap[r]? with
 | none=>simp[hr]at h
 | some x=>exact(Array.getElem?_eq_some_iff.1 hr).1
theorem gX.mono {g g':Ctx}{w w':World}{b:Nat}{cs:List T}{r o q:Nat}(h:gX g w b cs r o q)(le:Le g w g' w')
  (hκ:∀j,o≤j→j<q→g'.κ r j=.mut b) (hf:∀j,o≤j→j<q→(∀j0,w'.frozen? ⟨r,j0,none⟩=w.frozen? ⟨r,j0,none⟩)∧w'.cell? ⟨r,j,none⟩=w.cell? ⟨r,j,none⟩):gX g' w' b cs r o q:=by
 obtain⟨h1,h2,h3⟩:=h
 refine⟨h1,fun j hj hq=>⟨hκ j hj hq,fun j0=>by rw[(hf j hj hq).1];exact(h2 j hj hq).2.1 j0,by rw[(hf j hj hq).2];exact(h2 j hj hq).2.2⟩,fun i t hi=>?_⟩
 have aC:i<cs.length:=(List.getElem?_eq_some_iff.1 hi).1
 obtain⟨h4,v,h5,h6⟩:=h3 i t hi
 exact⟨h4,v,by rw[(hf (o+i) (by omega) (by omega)).2];exact h5,h6.mono le⟩
theorem tH.mono {g g':Ctx}{w w':World}{cs:List T}{r o q:Nat}(h:tH g w cs r o q)(le:Le g w g' w'):tH g' w' cs r o q :=
 ⟨h.1,fun i t hi=>let ⟨a,v,b,c⟩:=h.2 i t hi;⟨a,v,b.mono le,c.mono le⟩⟩
theorem bB.mono {g g':Ctx}{w w':World}{es:List (T×T)}{ah:Array MapEntry}(h:bB g w es ah)(le:Le g w g' w'):bB g' w' es ah :=
 ⟨h.1,fun i e m a b=>⟨(h.2 i e m a b).1.mono le,(h.2 i e m a b).2.mono le⟩⟩
theorem kd.mono {g g':Ctx}{w w':World}{st:pM}{bz:Option Ex}{n:Nat}{R:Nat→T}{ps:List Nat}{bf body:C}{rec:Loop}(h:kd g w st bz n R ps bf body rec)(le:Le g w g' w'):kd g' w' st bz n R ps bf body rec:=by
 obtain⟨h1,h2,h3,h4,h5,h6,h7,h8⟩:=h
 exact⟨h1,h2,h3,h4,fun t ht=>(h5 t ht).mono le,h6,by rw[le.ck];exact h7,by rw[le.ck];exact h8⟩
theorem SR.vY {w0 w w':World}{g g':Ctx}{H H':aa}(h:SR w0 g H w)(kY:Nat→Prop){S:Nat→Nat→Prop}{M:Nat→Prop}(tr:CB w w' S M)
  (B5:∀r j j0 b,r<w.heap.size→¬kY b→g.κ r j=.mut b∨g.κ r j=.spare b→w'.frozen? ⟨r,j0,none⟩=w.frozen? ⟨r,j0,none⟩) (le:Le g w g' w')
  (hS:∀r j,S r j→g.κ r j=.free∨(∃b,g.κ r j=.mut b∧kY b)∨∃b,g.κ r j=.spare b∧kY b) (hM:∀r,M r→∃b,g.κ r 0=.mut b∧kY b)
  (mJ:∀r o,w'.heap.size≤r→g'.κ r o=.free) (xn:∀b x,g'.φ b=some x→b<H'.length) (pU:∀t e x,g'.π t e=some x→t<H'.length)
  (kφ:∀b,b<H.length→¬kY b→g'.φ b=g.φ b) (kκ:∀r j b,¬kY b→(g.κ r j=.mut b→g'.κ r j=.mut b)∧(g.κ r j=.spare b→g'.κ r j=.spare b))
  (kπ:∀t e,t<H.length→¬kY t→g'.π t e=g.π t e)
  (hb:∀b x,H'[b]?=some x→(¬kY b∧H[b]?=some x)∨kX g' w' b x):SR w0 g' H' w':=by
 have nS:∀r j,r<w0.heap.size→¬S r j:=by
  intro r j hr hs
  have:=h.oN r j hr
  rcases hS r j hs with e|⟨b,e,_⟩|⟨b,e,_⟩<;>simp[this]at e
 have nM:∀r,r<w0.heap.size→¬M r:=by
  intro r hr hm
  have:=h.oN r 0 hr
  obtain⟨b,e,_⟩:=hM r hm
  simp[this]at e
 refine⟨Nat.le_trans h.size tr.size,fun r hr=>?_,fun r o hr=>le.κ _ _ (h.oN r o hr),mJ,xn,pU,fun b x hx=>?_,tr.env.1.trans h.env.1,tr.env.2.trans h.env.2⟩
 ·rw[tr.eo r (Nat.lt_of_lt_of_le hr h.size) (nM r hr) (fun j=>nS r j hr)]
  exact h.eo r hr
 ·rcases hb b x hx with⟨nt,E2⟩|kZ
  ·have aC:b<H.length:=(List.getElem?_eq_some_iff.1 E2).1
   have hk:=h.dt b x E2
   have CC:∀r j,g.κ r j=.mut b∨g.κ r j=.spare b→¬S r j:=by
    intro r j hm hs
    rcases hS r j hs with e|⟨b',e,ht⟩|⟨b',e,ht⟩<;>rcases hm with hm|hm<;>simp[hm]at e
    ·exact nt (e▸ht)
    ·exact nt (e▸ht)
   cases x with
   | cells cs =>
    intro r o q hφ
    have dQ:g.φ b=some (r,o,q):=by rw[←kφ b aC nt];exact hφ
    have hc:=hk r o q dQ
    refine hc.mono le (fun j a c=>(kκ r j b nt).1 (hc.2.1 j a c).1) fun j a c=>?_
    have hh:=hc.2.1 j a c
    have hr:r<w.heap.size:=by
     cases hv:w.cell? ⟨r,j,none⟩with
     | none=>simp[hv]at hh
     | some v=>exact dP hv
    exact⟨fun j0=>B5 r j j0 b hr nt (.inl hh.1),tr.cell r j hr (CC r j (.inl hh.1))⟩
   | map es =>
    intro r o q hφ
    have dQ:g.φ b=some (r,o,q):=by rw[←kφ b aC nt];exact hφ
    obtain⟨h1,ah,c,h2,h3⟩:=hk r o q dQ
    refine⟨(kκ r 0 b nt).1 h1,ah,c,tr.maps r _ (fun hm=>?_) rfl h2,h3.1.mono le,h3.2⟩
    obtain⟨b',e,ht⟩:=hM r hm
    rw[h1]at e;cases e;exact nt ht
   | cm es ix bi cur =>
    obtain⟨r,o,q,hφ,h1,ah,c,h2,h3,h4,ri,q',seen,h5,h6,h7,h8⟩:=hk
    refine⟨r,o,q,le.φ _ _ hφ,(kκ r 0 b nt).1 h1,ah,c,tr.maps r _ (fun hm=>?_) rfl h2,h3.mono le,h4,ri,q',seen,le.φ _ _ h5,(kκ ri 0 b nt).1 h6,tr.maps ri _ (fun hm=>?_) rfl h7,h8⟩
    ·obtain⟨b',e,ht⟩:=hM r hm
     rw[h1]at e;cases e;exact nt ht
    ·obtain⟨b',e,ht⟩:=hM ri hm
     rw[h6]at e;cases e;exact nt ht
   | pE _=>trivial
   | lit cs =>
    obtain⟨r,q,hφ,h1,h2,c,ty,h3,h4,h5,h6⟩:=hk
    have hr:r<w.heap.size:=(Array.getElem?_eq_some_iff.1 h3).1
    have tf:∀j,¬S r j:=by
     intro j hs
     by_cases hj:j=q
     ·subst hj;exact CC r j (.inl h1) hs
     ·have:=h2 j hj
      rcases hS r j hs with e|⟨b',e,_⟩|⟨b',e,_⟩<;>simp[this]at e
    have FO:¬M r:=by
     intro hm
     obtain⟨b',e,ht⟩:=hM r hm
     by_cases hj:0=q
     ·subst hj;rw[h1]at e;cases e;exact nt ht
     ·rw[h2 0 hj]at e;cases e
    exact⟨r,q,le.φ _ _ hφ,(kκ r q b nt).1 h1,fun j hj=>le.κ _ _ (h2 j hj),c,ty,by rw[tr.eo r hr FO tf];exact h3,h4,h5,fun i t hi=>let ⟨a,v,b1,b2⟩:=h6 i t hi;⟨a,v,b1,b2.mono le⟩⟩
   | fz cs =>
    intro r o q hφ
    exact(hk r o q (by rw[←kφ b aC nt];exact hφ)).mono le
   | tok e =>
    obtain⟨r,p,q,h1,h2,h3,h4⟩:=hk
    refine⟨r,p,q,le.π _ _ _ h1,h2,fun j a c=>?_,fun e' he=>by rw[kπ b e' aC nt];exact h4 e' he⟩
    have hh:=h3 j a c
    have hr:r<w.heap.size:=by
     cases hv:w.cell? ⟨r,j,none⟩with
     | none=>simp[hv]at hh
     | some v=>exact dP hv
    exact⟨(kκ r j b nt).2 hh.1,fun j0=>by rw[B5 r j j0 b hr nt (.inr hh.1)];exact hh.2.1 j0,by rw[tr.cell r j hr (CC r j (.inr hh.1))];exact hh.2.2⟩
   | loop st bz n R ps bf body =>
    intro r o q hφ
    have dQ:g.φ b=some (r,o,q):=by rw[←kφ b aC nt];exact hφ
    obtain⟨h1,rec,h2,h3⟩:=hk r o q dQ
    refine⟨(kκ r 0 b nt).1 h1,rec,tr.maps r _ (fun hm=>?_) rfl h2,h3.mono le⟩
    obtain⟨b',e,ht⟩:=hM r hm
    rw[h1]at e;cases e;exact nt ht
   | kS =>
    intro r o q hφ
    have dQ:g.φ b=some (r,o,q):=by rw[←kφ b aC nt];exact hφ
    obtain⟨h1,h2⟩:=hk r o q dQ
    refine⟨(kκ r 0 b nt).1 h1,tr.maps r _ (fun hm=>?_) rfl h2⟩
    obtain⟨b',e,ht⟩:=hM r hm
    rw[h1]at e;cases e;exact nt ht
   | dead=>trivial
  ·exact kZ
theorem SR.step {w0 w w':World}{g g':Ctx}{H H':aa}(h:SR w0 g H w)(kY:Nat→Prop){S:Nat→Nat→Prop}{M:Nat→Prop}(tr:Tr w w' S M)(le:Le g w g' w')
  (hS:∀r j,S r j→g.κ r j=.free∨(∃b,g.κ r j=.mut b∧kY b)∨∃b,g.κ r j=.spare b∧kY b) (hM:∀r,M r→∃b,g.κ r 0=.mut b∧kY b)
  (mJ:∀r o,w'.heap.size≤r→g'.κ r o=.free) (xn:∀b x,g'.φ b=some x→b<H'.length) (pU:∀t e x,g'.π t e=some x→t<H'.length)
  (kφ:∀b,b<H.length→¬kY b→g'.φ b=g.φ b) (kκ:∀r j b,¬kY b→(g.κ r j=.mut b→g'.κ r j=.mut b)∧(g.κ r j=.spare b→g'.κ r j=.spare b))
  (kπ:∀t e,t<H.length→¬kY t→g'.π t e=g.π t e)
  (hb:∀b x,H'[b]?=some x→(¬kY b∧H[b]?=some x)∨kX g' w' b x):SR w0 g' H' w' :=
 h.vY kY ⟨tr.size,tr.cell,tr.ff,tr.maps,tr.eo,tr.env⟩ (fun r _ j0 _ hr _ _=>tr.pF r j0 hr) le hS hM mJ xn pU kφ kκ kπ hb
def Fr (g:Ctx)(H:aa)(g':Ctx)(H':aa):Prop :=
 H.length≤H'.length∧∀b x,H[b]?=some x→(∀e,x≠.tok e)→g.φ b=none→H'[b]?=some x∧g'.φ b=none
theorem Fr.refl (g:Ctx)(H:aa):Fr g H g H:=⟨Nat.le_refl _,fun _ _ h _ k=>⟨h,k⟩⟩
theorem Fr.trans {g g' zf:Ctx}{H H' E3:aa}(h:Fr g H g' H')(h':Fr g' H' zf E3):Fr g H zf E3 :=
 ⟨Nat.le_trans h.1 h'.1,fun b x a c d=>let ⟨e,f⟩:=h.2 b x a c d;h'.2 b x e c f⟩
def aG (P:Program)(w0:World)(g:Ctx)(H:aa)(w:World)(s:Sem Value)(t:T)(H':aa):Prop :=
 ∃v w' g',s.run P w=.ok v w'∧Le g w g' w'∧SR w0 g' H' w'∧VR g' w' t v∧Fr g H g' H'
theorem aG.same {P:Program}{w0:World}{g:Ctx}{H:aa}{w:World}{s:Sem Value}{t:T}{v:Value}(h:SR w0 g H w)(hr:s.run P w=.ok v w)(hv:VR g w t v):aG P w0 g H w s t H :=
 ⟨v,w,g,hr,.refl _ _,h,hv,.refl _ _⟩
def ax (g:Ctx)(w:World)(ts:List T)(vs:List Value):Prop:=ts.length=vs.length∧∀(i:Nat) (t:T) (v:Value),ts[i]?=some t→vs[i]?=some v→VR g w t v
theorem ax.mono {g g':Ctx}{w w':World}(le:Le g w g' w'){ts:List T}{vs:List Value}(h:ax g w ts vs):ax g' w' ts vs:=⟨h.1,fun i t v a b=>(h.2 i t v a b).mono le⟩
theorem ax.nil {g:Ctx}{w:World}:ax g w [] []:=⟨rfl,fun i t v h=>by simp at h⟩
theorem ax.cons {g:Ctx}{w:World}{t:T}{v:Value}{ts:List T}{vs:List Value}(h:VR g w t v)(hs:ax g w ts vs):ax g w (t :: ts) (v :: vs) :=
 ⟨by simp[hs.1],fun i a b ha hb=>by
  cases i with
  | zero=>simp at ha hb;subst ha;subst hb;exact h
  | succ i=>exact hs.2 i a b (by simpa using ha) (by simpa using hb)⟩
theorem ax.head {g:Ctx}{w:World}{t:T}{v:Value}{ts:List T}{vs:List Value}(h:ax g w (t :: ts) (v :: vs)):VR g w t v:=h.2 0 t v rfl rfl
theorem ax.tail {g:Ctx}{w:World}{t:T}{v:Value}{ts:List T}{vs:List Value}(h:ax g w (t :: ts) (v :: vs)):ax g w ts vs :=
 ⟨by have:=h.1;simpa using this,fun i a b ha hb=>h.2 (i+1) a b (by simpa using ha) (by simpa using hb)⟩
theorem ax.append {g:Ctx}{w:World}{ts xo:List T}{vs yQ:List Value}(h:ax g w ts vs)(h':ax g w xo yQ):ax g w (ts++xo) (vs++yQ):=by
 refine⟨by simp[h.1,h'.1],fun i t v ha hb=>?_⟩
 rw[List.getElem?_append]at ha hb
 rw[←h.1]at hb
 split at ha
 ·rename_i hi;rw[if_pos hi]at hb;exact h.2 i t v ha hb
 ·rename_i hi;rw[if_neg hi]at hb;exact h'.2 _ t v ha hb
theorem ax.take {g:Ctx}{w:World}{ts:List T}{vs:List Value}(n:Nat)(h:ax g w ts vs):ax g w (ts.take n) (vs.take n) :=
 ⟨by simp[h.1],fun i t v ha hb=>by
  rw[List.getElem?_take]at ha hb
  split at ha
  ·rename_i hi;rw[if_pos hi]at hb;exact h.2 i t v ha hb
  ·simp at ha⟩
theorem ax.drop {g:Ctx}{w:World}{ts:List T}{vs:List Value}(n:Nat)(h:ax g w ts vs):ax g w (ts.drop n) (vs.drop n) :=
 ⟨by simp[h.1],fun i t v ha hb=>by
  rw[List.getElem?_drop]at ha hb
  exact h.2 _ t v ha hb⟩
def aR (cs:List T):Prop:=∀t∈cs,t.one=true
theorem ax.dn {g:Ctx}{w:World}{ts:List T}{vs:List Value}(h:ax g w ts vs)(ho:aR ts):∀v∈vs,v.oneCell'=true:=by
 intro v hv
 obtain⟨i,hi,rfl⟩:=List.getElem_of_mem hv
 have fV:i<ts.length:=by rw[h.1];exact hi
 exact(h.2 i ts[i] vs[i] (List.getElem?_eq_getElem fV) (List.getElem?_eq_getElem hi)).dn (ho _ (List.getElem_mem fV))
theorem a8 (r o j:Nat):(⟨r,o,none⟩:Addr).add j=⟨r,o+j,none⟩:=by
 unfold Addr.add;split<;>simp_all
theorem hI {w:World}{r o:Nat}:∀(n:Nat) (f:Nat→Value),(∀j,j<n→w.cell? ⟨r,o+j,none⟩=some (f j))→∀(j:Nat) (v:Value),((List.range n).map f)[j]?=some v→w.cell? ⟨r,o+j,none⟩=some v:=by
 intro n f h j v hv
 have hj:j<n:=by
  have:=(List.getElem?_eq_some_iff.1 hv).1
  simpa using this
 rw[h j hj]
 simp[hj]at hv
 rw[hv]
theorem fg {w0 w:World}{g:Ctx}{H:aa}{n:Nat}{p:T}{vp:Value}{cs:List T}(h:SR w0 g H w)(hv:VR g w p vp)(he:gD H n p=some cs) :
  ∃r o vs,vp=.pointer (some ⟨r,o,none⟩)∧vs.length=n∧(∀(j:Nat) (v:Value),vs[j]?=some v→w.cell? ⟨r,o+j,none⟩=some v)∧ax g w cs vs∧aR cs:=by
 cases hv with
 | @ptr b off r o q hφ =>
  have main:∀mz:List T,(∀(i:Nat) (t:T),mz[i]?=some t→t.one=true∧∃v,w.cell? ⟨r,o+i,none⟩=some v∧VR g w t v)→(if off+n≤mz.length then some ((mz.drop off).take n)else none)=some cs →
    ∃r' o' vs,(Value.pointer (some ⟨r,o+off,none⟩))=.pointer (some ⟨r',o',none⟩)∧vs.length=n∧(∀(j:Nat) (v:Value),vs[j]?=some v→w.cell? ⟨r',o'+j,none⟩=some v)∧ax g w cs vs∧aR cs:=by
   intro mz h3 he
   split at he
   ·rename_i hle
    simp at he
    subst he
    have key:∀j,j<n→∃t v,mz[off+j]?=some t∧t.one=true∧w.cell? ⟨r,o+off+j,none⟩=some v∧VR g w t v:=by
     intro j hj
     have aC:off+j<mz.length:=by omega
     obtain⟨a,v,b',c⟩:=h3 (off+j) mz[off+j] (List.getElem?_eq_getElem aC)
     exact⟨_,v,List.getElem?_eq_getElem aC,a,by rw[Nat.add_assoc];exact b',c⟩
    refine⟨r,o+off,(List.range n).map (fun j=>(w.cell? ⟨r,o+off+j,none⟩).getD undef),rfl,by simp,hI n _ (fun j hj=>?_),⟨by simp;omega,fun i t v ha cU=>?_⟩,fun t ht=>?_⟩
    ·obtain⟨t,v,_,_,e,_⟩:=key j hj
     simp[e]
    ·have hi:i<n:=by
      have:=(List.getElem?_eq_some_iff.1 cU).1
      simpa using this
     obtain⟨t',v',e1,e2,e3,e4⟩:=key i hi
     simp[hi]at cU
     rw[e3]at cU;simp at cU
     rw[List.getElem?_take,if_pos hi,List.getElem?_drop,e1]at ha
     simp at ha
     subst ha;subst cU;exact e4
    ·obtain⟨i,hi,rfl⟩:=List.getElem_of_mem ht
     simp at hi
     obtain⟨t',v',e1,e2,_,_⟩:=key i (by omega)
     have FP:=(List.getElem?_eq_some_iff.1 e1).2
     simp[FP,e2]
   ·simp at he
  simp only[gD]at he
  cases hb:H[b]? with
  | none=>simp[hb]at he
  | some x =>
   cases x with
   | cells mz =>
    simp only[hb]at he
    exact main mz (h.dt b _ hb r o q hφ).2.2 he
   | fz mz =>
    simp only[hb]at he
    exact main mz (fun i t hi=>let ⟨a,v,b',c⟩:=(h.dt b _ hb r o q hφ).2 i t hi;⟨a,v,b'.2,c⟩) he
   | map _=>simp[hb]at he
   | tok _=>simp[hb]at he
   | _=>simp[hb]at he
 | @cC mz r o a7 h1 h2 =>
  simp only[gD]at he
  split at he
  ·rename_i hle
   simp at he
   subst he
   have get:∀i,i<n→∃t,mz[i]?=some t:=fun i hi=>⟨mz[i]'(by omega),List.getElem?_eq_getElem _⟩
   refine⟨r,o,(List.range n).map a7,rfl,by simp,hI n _ (fun j hj=>?_),⟨by simp;omega,fun i t v ha hb=>?_⟩,fun t ht=>?_⟩
   ·obtain⟨t,e⟩:=get j hj
    exact(h1 j t e).2.2
   ·have hi:i<n:=by
     have:=(List.getElem?_eq_some_iff.1 hb).1
     simpa using this
    simp[hi]at hb
    rw[List.getElem?_take,if_pos hi]at ha
    rw[←hb];exact h2 i t ha
   ·obtain⟨i,hi,rfl⟩:=List.getElem_of_mem ht
    simp at hi
    have:mz[i]?=some mz[i]:=List.getElem?_eq_getElem _
    simp
    exact(h1 i _ this).1
  ·simp at he
 | _=>simp[gD]at he
theorem ax.agg {g:Ctx}{w:World}{cs:List T}{vs:List Value}(h:ax g w cs vs)(ho:aR cs):VR g w (.agg cs) (.agg vs.toArray) :=
 .agg (by simp[h.1]) ho (fun i t v ha hb=>h.2 i t v ha (by simpa using hb))
theorem ax.bg {g:Ctx}{w:World}{cs:List T}{vs:List Value}(h:ax g w cs vs):VR g w (.bg cs) (.tuple vs.toArray) :=
 .bg (by simp[h.1]) (fun i t v ha hb=>h.2 i t v ha (by simpa using hb))
theorem VR.cf {g:Ctx}{w:World}{cs:List T}{v:Value}(h:VR g w (.agg cs) v):∃vs:List Value,v=.agg vs.toArray∧ax g w cs vs∧aR cs:=by
 cases h with
 | @agg _ vs hl h1 h2=>exact⟨vs.toList,by simp,⟨by simp[hl],fun i t v ha hb=>h2 i t v ha (by simpa using hb)⟩,h1⟩
theorem VR.tJ {g:Ctx}{w:World}{cs:List T}{v:Value}(h:VR g w (.bg cs) v):∃vs:List Value,v=.tuple vs.toArray∧ax g w cs vs:=by
 cases h with
 | @bg _ vs hl h2=>exact⟨vs.toList,by simp,⟨by simp[hl],fun i t v ha hb=>h2 i t v ha (by simpa using hb)⟩⟩
theorem dC {g:Ctx}{w:World}{t:T}{v:Value}{cs:List T}(h:VR g w t v)(hc:t.cells?=some cs):ax g w cs v.cells.toList∧aR cs:=by
 by_cases ha:∃c,t=.agg c
 ·obtain⟨c,rfl⟩:=ha
  simp[T.cells?]at hc;subst hc
  obtain⟨vs,rfl,h1,h2⟩:=h.cf
  exact⟨by simpa[Value.cells]using h1,h2⟩
 ·by_cases ht:∃c,t=.bg c
  ·obtain⟨c,rfl⟩:=ht;simp[T.cells?]at hc
  ·have e:cs=[t]:=by cases t<;>simp_all [T.cells?]
   have o:t.one=true:=by cases t<;>simp_all [T.one]
   have ev:v.cells=#[v]:=by
    have:=h.dn o
    cases v<;>simp_all [Value.cells,Value.oneCell']
   subst e
   rw[ev]
   exact⟨ax.cons h ax.nil,by simpa[aR]using o⟩
theorem hJ {g:Ctx}{w:World}{cs:List T}{vs:List Value}{ag:Bool}{t:T}(h:ax g w cs vs)(ho:aR cs)(hv:valOf ag cs=some t) :
  (ag=true→VR g w t (.agg vs.toArray))∧(ag=false→∃v,vs=[v]∧VR g w t v):=by
 cases ag with
 | true=>simp[valOf]at hv;subst hv;exact⟨fun _=>h.agg ho,by simp⟩
 | false =>
  refine⟨by simp,fun _=>?_⟩
  cases cs with
  | nil=>simp[valOf]at hv
  | cons c cs =>
   cases cs with
   | nil =>
    simp[valOf]at hv;subst hv
    cases vs with
    | nil=>have:=h.1;simp at this
    | cons v vs =>
     cases vs with
     | nil=>exact⟨v,rfl,h.head⟩
     | cons _ _=>have:=h.1;simp at this
   | cons _ _=>simp[valOf]at hv
theorem ar {P:Program}{w:World}{t:TypeId}{i:TypeInfo}(h:P.info? t=some i):(typeInfo t).run P w=.ok i w:=by
 simp[typeInfo,h]
def bC:TypeDesc→Bool
 | .struct _ | .array _ _=>true
 | _=>false
theorem bN {P:Program}{t:TypeId}{d:TypeDesc}(h:P.underlying t=some d)(w:World):(isAgg t).run P w=.ok (bC d) w:=by
 simp only[isAgg,Sem.run_bind,run_underlying h,Result.andThen_ok]
 cases d<;>rfl
theorem xp {P:Program}{w0 w:World}{g:Ctx}{H:aa}{n:Nat}{ag:Bool}{p t:T}{vp:Value}{cs:List T}{ty:TypeId}{d:TypeDesc}{i:TypeInfo}
  (hd:P.underlying ty=some d) (hi:P.info? ty=some i) (pG:bC d=ag) (hn:ag=true→i.size=n)
  (h:SR w0 g H w) (hv:VR g w p vp) (he:gD H n p=some cs) (ht:valOf ag cs=some t):aG P w0 g H w (Instr.loadAt ty vp) t H:=by
 obtain⟨r,o,vs,rfl,h1,h2,h3,h4⟩:=fg h hv he
 obtain⟨ha,hb⟩:=hJ h3 h4 ht
 cases ag with
 | true =>
  refine aG.same h (v:=.agg vs.toArray) ?_ (ha rfl)
  have:=run_loadCells_list (P:=P) w ⟨r,o,none⟩ vs (fun j v hj=>by rw[a8];exact h2 j v hj)
  simp[Instr.loadAt,Instr.sureAddr,loadVar,bN hd,pG,sizeOf,ar hi,hn rfl,←h1,this]
 | false =>
  obtain⟨v,rfl,bR⟩:=hb rfl
  refine aG.same h (v:=v) ?_ bR
  have:=h2 0 v rfl
  simp at this
  simp[Instr.loadAt,Instr.sureAddr,loadVar,bN hd,pG,run_load,this]
theorem tK {P:Program}{w0 w:World}{g:Ctx}{H:aa}{n:Nat}{ag:Bool}{p t:T}{vp:Value}{cs:List T}{ty:TypeId}{d:TypeDesc}{i:TypeInfo}
  (hd:P.underlying ty=some d) (hi:P.info? ty=some i) (pG:bC d=ag) (hn:ag=true→i.size=n)
  (h:SR w0 g H w) (hv:VR g w p vp) (he:gD H n p=some cs) (ht:valOf ag cs=some t):∃v w' g',(Instr.loadAt ty vp).run P w=.ok v w'∧w'=w∧VR g' w t v∧g'=g:=by
 obtain⟨r,o,vs,rfl,h1,h2,h3,h4⟩:=fg h hv he
 obtain⟨ha,hb⟩:=hJ h3 h4 ht
 cases ag with
 | true =>
  refine⟨.agg vs.toArray,w,g,?_,rfl,ha rfl,rfl⟩
  have:=run_loadCells_list (P:=P) w ⟨r,o,none⟩ vs (fun j v hj=>by rw[a8];exact h2 j v hj)
  simp[Instr.loadAt,Instr.sureAddr,loadVar,bN hd,pG,sizeOf,ar hi,hn rfl,←h1,this]
 | false =>
  obtain⟨v,rfl,bR⟩:=hb rfl
  refine⟨v,w,g,?_,rfl,bR,rfl⟩
  have:=h2 0 v rfl
  simp at this
  simp[Instr.loadAt,Instr.sureAddr,loadVar,bN hd,pG,run_load,this]
section
variable {P:Program} {w:World} {op:BinOp} {ty:TypeId} {x y:Operand}
theorem jn {k k':IntKind}{a b:Int}:(eqGuard op ty x y (.int k a) (.int k' b)).run P w=.ok () w:=by cases op<;>rfl
theorem jo {a b:ByteArray}:(eqGuard op ty x y (.string a) (.string b)).run P w=.ok () w:=by cases op<;>rfl
theorem dR {a b:Bool}:(eqGuard op ty x y (.bool a) (.bool b)).run P w=.ok () w:=by cases op<;>rfl
theorem oO {a b:Option Addr}:(eqGuard op ty x y (.pointer a) (.pointer b)).run P w=.ok () w:=by cases op<;>rfl
theorem lg {a b:Option Addr}{c d e f:Nat}:(eqGuard op ty x y (.slice a c d) (.slice b e f)).run P w=.ok () w:=by cases op<;>rfl
theorem oP {a b:Option Nat}:(eqGuard op ty x y (.map a) (.map b)).run P w=.ok () w:=by cases op<;>rfl
theorem pV {f:Go.Fn}{a b:Array Value}:(eqGuard op ty x y (.func f a b) .nilFunc).run P w=.ok () w:=by cases op<;>rfl
theorem pW {f:Go.Fn}{a b:Array Value}:(eqGuard op ty x y .nilFunc (.func f a b)).run P w=.ok () w:=by cases op<;>rfl
theorem pX:(eqGuard op ty x y .nilFunc .nilFunc).run P w=.ok () w:=by cases op<;>rfl
end
section
variable {P:Program} {w:World} {ty:TypeId}
theorem jq (n:Nat)(h:P.underlying ty=some .bool)(a b:Bool):(Op.equalIn (n+1) ty (.bool a) (.bool b)).run P w=.ok (a==b) w:=by
 rw[Op.equalIn];simp only[Sem.run_bind,run_underlying h,Result.andThen_ok];rfl
theorem pY (n:Nat){k:IntKind}(h:P.underlying ty=some (.int k))(a b:Int)(k':IntKind):(Op.equalIn (n+1) ty (.int k' a) (.int k' b)).run P w=.ok (a==b) w:=by
 rw[Op.equalIn];simp only[Sem.run_bind,run_underlying h,Result.andThen_ok];simp
theorem pZ (n:Nat)(h:P.underlying ty=some .string)(a b:ByteArray):(Op.equalIn (n+1) ty (.string a) (.string b)).run P w=.ok (a==b) w:=by
 rw[Op.equalIn];simp only[Sem.run_bind,run_underlying h,Result.andThen_ok];rfl
theorem cr {x y:Value}{b:Bool}(h:∀n,(Op.equalIn (n+1) ty x y).run P w=.ok b w):(Op.equal ty x y).run P w=.ok b w:=h 9999
theorem hN (h:P.underlying ty=some .bool)(a b:Bool):(Op.equal ty (.bool a) (.bool b)).run P w=.ok (a==b) w:=cr fun n=>jq n h a b
end
theorem tL {P:Program}{w0 w:World}{g:Ctx}{H:aa}{op:BinOp}{x y t:T}{vx vy:Value}{ty:TypeId}{ox oy:Operand}
  (h:SR w0 g H w) (hx:VR g w x vx) (hy:VR g w y vy) (he:aN op x y=some t):aG P w0 g H w (do eqGuard op ty ox oy vx vy;binOp op ty vx vy) t H:=by
 cases hx<;>cases hy<;>(try (simp[aN]at he;done))
 case int.int k a k' b =>
  have key:∃v,(binOp op ty (.int k a) (.int k' b)).run P w=.ok v w∧VR g w t v:=by
   cases op<;>simp only[aN]at he<;>(repeat' (split at he))<;>(try (simp at he;done)) <;>
    (simp at he;subst he;first
     | (refine⟨_,?_,.int _ _⟩;simp_all [binOp,Op.shift,Op.intArith,Op.intDiv,Op.intBits,Op.intCmp];done)
     | (refine⟨_,?_,.int _ _⟩;rename_i hs;simp only[binOp,Op.shift,if_neg hs,Sem.run_pure];done)
     | (refine⟨_,?_,.bool _⟩;simp_all [binOp,Op.shift,Op.intArith,Op.intDiv,Op.intBits,Op.intCmp];done))
  obtain⟨v,hr,hv⟩:=key
  refine aG.same h (v:=v) ?_ hv
  simp[jn,jo,dR,hr]
 case str.str a b =>
  have key:∃v,(binOp op ty (.string a) (.string b)).run P w=.ok v w∧VR g w t v:=by
   cases op<;>simp only[aN]at he<;>(repeat' (split at he))<;>(try (simp at he;done)) <;>
    (simp at he;subst he;first
     | (refine⟨_,?_,.str _⟩;rename_i hs;simp[binOp,Op.stringOp,IntKind.max,IntKind.signed,IntKind.bits];omega)
     | (refine⟨_,?_,.bool _⟩;simp[binOp,Op.stringOp,di,strLt];done))
  obtain⟨v,hr,hv⟩:=key
  refine aG.same h (v:=v) ?_ hv
  simp[jn,jo,dR,hr]
theorem tM {P:Program}{w0 w:World}{g:Ctx}{H:aa}{neg:Bool}{a b:Bool}{vx vy:Value}{ty:TypeId}{ox oy:Operand}(hu:P.underlying ty=some .bool)
  (h:SR w0 g H w) (hx:VR g w (.bool a) vx) (hy:VR g w (.bool b) vy) :
  aG P w0 g H w (do eqGuard (if neg then .neq else .eql) ty ox oy vx vy;binOp (if neg then .neq else .eql) ty vx vy) (.bool (if neg then !(a==b)else a==b)) H:=by
 cases hx;cases hy
 cases neg
 ·refine aG.same h (v:=.bool (a==b)) ?_ (.bool _)
  simp only[Bool.false_eq_true,if_false,Sem.run_bind,dR,Result.andThen_ok,binOp,hN hu,Sem.run_pure]
 ·refine aG.same h (v:=.bool (!(a==b))) ?_ (.bool _)
  simp only[if_true,Sem.run_bind,dR,Result.andThen_ok,binOp,hN hu,Sem.run_pure]
def p0:tw→TypeDesc→Bool
 | .ptr,.pointer _ | .slice,.slice _ | .map,.map _ _ | .func,.func _ _ _=>true
 | _,_=>false
theorem lh {g:Ctx}{w:World}{c:tw}{x:T}{vx:Value}{b:Bool}(hx:VR g w x vx)(h:kT c x=some b) :
  match c with
  | .ptr=>∃a:Option Addr,vx=.pointer a∧a.isNone=b
  | .slice=>∃(a:Option Addr) (l p:Nat),vx=.slice a l p∧a.isNone=b
  | .map=>∃r:Option Nat,vx=.map r∧r.isNone=b
  | .func=>(b=true∧vx=.nilFunc)∨(b=false∧∃f vs,vx=.func f #[] vs):=by
 cases c<;>cases hx<;>first
  | (change (none:Option Bool)=some b at h;simp at h;done)
  | (change some true=some b at h;simp at h;subst h;simp;done)
  | (change some false=some b at h;simp at h;subst h;simp;done)
  | skip
 case slice.sl k es r o cap n a7 hk hc hn h1 h2 =>
  have hb:b=false:=by
   cases k
   ·exact hk.elim
   ·cases es with
    | nil=>change (none:Option Bool)=some b at h;simp at h
    | cons _ _=>change some false=some b at h;simpa using h.symm
   ·change some false=some b at h;simpa using h.symm
   ·change some false=some b at h;simpa using h.symm
  subst hb
  exact⟨_,_,_,rfl,rfl⟩
theorem tN {P:Program}{w0 w:World}{g:Ctx}{H:aa}{neg:Bool}{c:tw}{x y:T}{b:Bool}{vx vy:Value}{ty:TypeId}{ox oy:Operand}{d:TypeDesc}
  (hu:P.underlying ty=some d) (hc:p0 c d=true)
  (h:SR w0 g H w) (hx:VR g w x vx) (hy:VR g w y vy) (he:kV c x y=some b) :
  aG P w0 g H w (do eqGuard (if neg then .neq else .eql) ty ox oy vx vy;binOp (if neg then .neq else .eql) ty vx vy) (.bool (if neg then !b else b)) H:=by
 have key:(∀op,(eqGuard op ty ox oy vx vy).run P w=.ok () w)∧(Op.equal ty vx vy).run P w=.ok b w∧∀neg:Bool,(binOp (if neg then .neq else .eql) ty vx vy).run P w=((Op.equal ty vx vy).run P w).andThen fun b w'=>.ok (.bool (if neg then !b else b)) w':=by
  unfold kV at he
  cases xq:kT c x with
  | none=>simp[xq]at he
  | some bx =>
   cases E4:kT c y with
   | none=>cases bx<;>simp[xq,E4]at he
   | some bY =>
    have e:b=(bx&&bY)∧(bx=true∨bY=true):=by
     cases bx<;>cases bY<;>simp_all
    obtain⟨rfl,FQ⟩:=e
    have h1:=lh hx xq
    have h2:=lh hy E4
    cases c with
    | ptr =>
     obtain⟨a,rfl,rfl⟩:=h1
     obtain⟨a',rfl,rfl⟩:=h2
     cases d<;>simp[p0]at hc
     refine⟨fun op=>oO,cr fun n=>?_,fun neg=>by cases neg<;>simp[binOp]⟩
     rw[Op.equalIn];simp only[Sem.run_bind,run_underlying hu,Result.andThen_ok]
     cases a<;>cases a'<;>simp_all
    | slice =>
     obtain⟨a,l,p,rfl,rfl⟩:=h1
     obtain⟨a',l',p',rfl,rfl⟩:=h2
     cases d<;>simp[p0]at hc
     refine⟨fun op=>lg,cr fun n=>?_,fun neg=>by cases neg<;>simp[binOp]⟩
     rw[Op.equalIn];simp only[Sem.run_bind,run_underlying hu,Result.andThen_ok]
     cases a<;>cases a'<;>simp_all
    | map =>
     obtain⟨a,rfl,rfl⟩:=h1
     obtain⟨a',rfl,rfl⟩:=h2
     cases d<;>simp[p0]at hc
     refine⟨fun op=>oP,cr fun n=>?_,fun neg=>by cases neg<;>simp[binOp]⟩
     rw[Op.equalIn];simp only[Sem.run_bind,run_underlying hu,Result.andThen_ok]
     cases a<;>cases a'<;>simp_all
    | func =>
     cases d<;>simp[p0]at hc
     rcases h1 with⟨rfl,rfl⟩|⟨rfl,f,vs,rfl⟩<;>rcases h2 with⟨rfl,rfl⟩|⟨rfl,f',yQ,rfl⟩
     ·refine⟨fun op=>pX,cr fun n=>?_,fun neg=>by cases neg<;>simp[binOp]⟩
      rw[Op.equalIn];simp[run_underlying hu]
     ·refine⟨fun op=>pW,cr fun n=>?_,fun neg=>by cases neg<;>simp[binOp]⟩
      rw[Op.equalIn];simp[run_underlying hu]
     ·refine⟨fun op=>pV,cr fun n=>?_,fun neg=>by cases neg<;>simp[binOp]⟩
      rw[Op.equalIn];simp[run_underlying hu]
     ·simp at FQ
 obtain⟨k1,k2,k3⟩:=key
 refine aG.same h (v:=.bool (if neg then !b else b)) ?_ (.bool _)
 simp only[Sem.run_bind,k1,Result.andThen_ok,k3,k2]
section
variable {P:Program} {w0 w:World} {g:Ctx} {H:aa}
def tg:kK→TypeDesc→Bool
 | .int,.int _ | .str,.string | .bool,.bool=>true
 | _,_=>false
def flat (P:Program):List Field→Nat→List kK→Bool
 | [],_,[]=>true
 | f :: fs,off,k :: ks=>f.offset==off&&f.name != "_"&&(match P.underlying f.type with | some d=>tg k d | none=>false)&&flat P fs (off+1) ks
 | _,_,_=>false
theorem nA {n:Nat}{ty:TypeId}{d:TypeDesc}{k:kK}(hu:P.underlying ty=some d)(hk:tg k d=true){a b:T}{va vb:Value}{r:Bool}(ha:VR g w a va)(hb:VR g w b vb)(h1:a.mE k=true)(he:dy a b=some r) :
  (Op.equalIn (n+1) ty va vb).run P w=.ok r w:=by
 cases k<;>cases d<;>simp[tg]at hk<;>cases ha<;>simp[T.mE]at h1<;>cases hb<;>simp[dy]at he
 ·obtain⟨rfl,rfl⟩:=he
  rw[pY n hu]
 ·subst he
  rw[pZ n hu,beq_toListBytes];rfl
 ·subst he
  rw[jq n hu]
theorem fX {ty:TypeId}{d:TypeDesc}{k:kK}(hu:P.underlying ty=some d)(hk:tg k d=true){xs:Array Value}{off:Nat}{v:Value}(h:xs[off]?=some v):(part ty xs off).run P w=.ok v w:=by
 have:bC d=false:=by cases k<;>cases d<;>simp_all [tg,bC]
 simp[part,bN hu,this,h]
theorem gE {n:Nat}:∀(fs:List Field) (off:Nat) (ks:List kK) (cs ds:List T) (xs ys:Array Value) (r:Bool),flat P fs off ks=true→hasAll ks cs=true →
  (∀(i:Nat) (t:T),cs[i]?=some t→∃v,xs[off+i]?=some v∧VR g w t v)→(∀(i:Nat) (t:T),ds[i]?=some t→∃v,ys[off+i]?=some v∧VR g w t v)→aL cs ds=some r →
  (Op.eqFields (n+1) xs ys fs).run P w=.ok r w
 | [],off,ks,cs,ds,xs,ys,r,hf,hk,hc,hd,he=>by
  cases ks with
  | nil =>
   cases cs with
   | nil=>cases ds<;>simp[aL]at he;subst he;rfl
   | cons _ _=>simp[hasAll]at hk
  | cons _ _=>simp[flat]at hf
 | f :: fs,off,ks,cs,ds,xs,ys,r,hf,hk,hc,hd,he=>by
  cases ks with
  | nil=>simp[flat]at hf
  | cons k ks =>
   cases cs with
   | nil=>simp[hasAll]at hk
   | cons c cs =>
    cases ds with
    | nil=>simp[aL]at he
    | cons d ds =>
     simp only[flat,Bool.and_eq_true,beq_iff_eq,bne_iff_ne]at hf
     obtain⟨⟨⟨oQ,p3⟩,th⟩,bQ⟩:=hf
     simp only[hasAll,Bool.and_eq_true]at hk
     cases hu:P.underlying f.type with
     | none=>simp[hu]at th
     | some de =>
      simp[hu]at th
      obtain⟨va,zi,E5⟩:=hc 0 c rfl
      obtain⟨vb,jr,xr⟩:=hd 0 d rfl
      simp only[Nat.add_zero]at zi jr
      simp only[aL]at he
      cases e1:dy c d with
      | none=>simp[e1]at he
      | some r1 =>
       cases e2:aL cs ds with
       | none=>simp[e1,e2]at he
       | some r2 =>
        simp[e1,e2]at he;subst he
        have ih:=gE (n:=n) fs (off+1) ks cs ds xs ys r2 bQ hk.2 (fun i t hi=>by have:=hc (i+1) t (by simpa using hi);rwa[show off+1+i=off+(i+1) by omega])
         (fun i t hi=>by have:=hd (i+1) t (by simpa using hi);rwa[show off+1+i=off+(i+1) by omega]) e2
        simp only[Op.eqFields,p3,ne_eq,not_false_eq_true,if_true,Sem.run_bind,oQ,fX hu th zi,fX hu th jr,Result.andThen_ok,nA hu th E5 xr hk.1 e1]
        cases r1
        ·simp
        ·simp[ih]
theorem ax.cg {ts:List T}{vs:List Value}(h:ax g w ts vs)(i:Nat)(t:T)(hi:ts[i]?=some t):∃v,vs.toArray[i]?=some v∧VR g w t v:=by
 have aC:i<vs.length:=by rw[←h.1];exact(List.getElem?_eq_some_iff.1 hi).1
 exact⟨vs[i],by simp[aC],h.2 i t _ hi (List.getElem?_eq_getElem aC)⟩
theorem js {ty:TypeId}{fs:Array Field}{ks:List kK}(hu:P.underlying ty=some (.struct fs))(hf:flat P fs.toList 0 ks=true)(hp:P.stoodInHeld ty=false){cs ds:List T}{xs ys:List Value}{r:Bool}
  (hk:hasAll ks cs=true) (hx:ax g w cs xs) (hy:ax g w ds ys) (he:aL cs ds=some r) (n:Nat):(Op.equalIn (n+1+1) ty (.agg xs.toArray) (.agg ys.toArray)).run P w=.ok r w:=by
 have yR:P.fieldsOf ty=fs:=by simp[Program.fieldsOf,hu]
 rw[run_equalIn_struct w (n+1) ty _ _ (by rw[yR];exact hu) hp,yR]
 exact gE _ 0 ks cs ds _ _ r hf hk (fun i t hi=>by simpa using hx.cg i t hi) (fun i t hi=>by simpa using hy.cg i t hi) he
theorem tO {neg:Bool}{ks:List kK}{cs ds:List T}{r:Bool}{vx vy:Value}{ty:TypeId}{ox oy:Operand}{fs:Array Field}
  (hu:P.underlying ty=some (.struct fs)) (hf:flat P fs.toList 0 ks=true) (hp:P.stoodInHeld ty=false) (hg:P.eqGuardType P.depth ty=false)
  (h:SR w0 g H w) (hx:VR g w (.agg cs) vx) (hy:VR g w (.agg ds) vy) (hk:hasAll ks cs=true) (he:aL cs ds=some r) :
  aG P w0 g H w (do eqGuard (if neg then .neq else .eql) ty ox oy vx vy;binOp (if neg then .neq else .eql) ty vx vy) (.bool (if neg then !r else r)) H:=by
 obtain⟨xs,rfl,ti,_⟩:=hx.cf
 obtain⟨ys,rfl,CD,_⟩:=hy.cf
 have e:(Op.equalIn 10000 ty (.agg xs.toArray) (.agg ys.toArray)).run P w=.ok r w:=js hu hf hp hk ti CD he 9998
 refine aG.same h (v:=.bool (if neg then !r else r)) ?_ (.bool _)
 cases neg
 ·simp only[Bool.false_eq_true,if_false,Sem.run_bind,run_eqGuard_agg w _ _ _ _ _ _ hg,Result.andThen_ok,run_eql_struct,e]
 ·simp only[if_true,Sem.run_bind,run_eqGuard_agg w _ _ _ _ _ _ hg,Result.andThen_ok,run_neq_struct,e]
theorem xu {op:UnOp}{x t:T}{vx:Value}(h:SR w0 g H w)(hx:VR g w x vx)(he:yO op x=some t):aG P w0 g H w (Op.unary op vx) t H:=by
 cases hx<;>(try (simp[yO]at he;done))<;>cases op<;>simp[yO]at he<;>subst he
 ·exact aG.same h (by simp[Op.unary,Op.intArith]) (.int _ _)
 ·exact aG.same h (by simp[Op.unary,Op.intBits]) (.int _ _)
 ·exact aG.same h (by simp[Op.unary]) (.bool _)
theorem tP {src dst:TypeId}{ds:TypeDesc}{k k0:IntKind}{n:Int}{vx:Value}(hs:P.underlying src=some ds)(hd:P.underlying dst=some (.int k))(h:SR w0 g H w)(hx:VR g w (.int k0 n) vx) :
  aG P w0 g H w (convert src dst vx) (.int k (k.wrap n)) H:=by
 cases hx
 exact aG.same h (by simp[convert,run_underlying hs,run_underlying hd,Conv.intToInt]) (.int _ _)
theorem p4 {c:Bool}{x y:T}{vc vx vy:Value}(h:SR w0 g H w)(hc:VR g w (.bool c) vc)(hx:VR g w x vx)(hy:VR g w y vy) :
  aG P w0 g H w (do pure (if ←asBool vc then vx else vy)) (if c then x else y) H:=by
 cases hc
 refine aG.same h (v:=if c then vx else vy) (by simp[asBool]) ?_
 cases c<;>simpa
def CE:Lc→TypeDesc→Bool
 | .str,.string | .sl,.slice _ | .map,.map _ _=>true
 | _,_=>false
theorem tQ {ty rt:TypeId}{d:TypeDesc}{k:Lc}{x:T}{vx:Value}{n:Nat}(hu:P.underlying ty=some d)(hd:CE k d=true)
  (h:SR w0 g H w) (hx:VR g w x vx) (he:dB H k x=some n):aG P w0 g H w (Builtin.len_ #[ty] rt #[vx]) (.int .i64 n) H:=by
 refine aG.same h (v:=.int .i64 n) ?_ (.int _ _)
 cases k<;>cases d<;>(first|(simp[CE]at hd;done)|skip)<;>cases hx<;>simp[dB]at he
 ·subst he;simp[Builtin.len_,run_underlying hu,goInt]
 ·subst he;simp[Builtin.len_,run_underlying hu,goInt]
 ·subst he;simp[Builtin.len_,run_underlying hu,goInt]
 ·subst he;simp[Builtin.len_,run_underlying hu,goInt]
 ·subst he;simp[Builtin.len_,run_underlying hu,goInt]
 ·subst he;simp[Builtin.len_,run_underlying hu,goInt]
 ·subst he;simp[Builtin.len_,run_underlying hu,goInt]
 ·rename_i b r o q hφ
  cases hb:H[b]? with
  | none=>simp[hb]at he
  | some y =>
   cases y<;>simp[hb]at he
   ·rename_i es
    obtain⟨_,ah,c,h2,h3,_⟩:=h.dt b _ hb r o q hφ
    subst he
    simp[Builtin.len_,run_underlying hu,goInt,getObj,Sem.run,h2,h3.1]
   ·rename_i es _ _ _
    obtain⟨r',o',q',dQ,_,ah,c,h2,h3,_⟩:=h.dt b _ hb
    rw[hφ]at dQ;cases dQ
    subst he
    simp[Builtin.len_,run_underlying hu,goInt,getObj,Sem.run,h2,h3.1]
theorem fE {n:Nat}{x:T}{vx:Value}{es:List (List T)}(h:SR w0 g H w)(hx:VR g w x vx)(he:aH H n x=some es)(hs:∀s,x≠.str s) :
  ∃(a:Option Addr) (cap:Nat) (vs:List Value),vx=.slice a es.length cap∧es.length≤cap∧(a=none→es=[]∧cap=0)∧(∀a',a=some a'→(es≠[]→a'.spot=none)∧∀(j:Nat) (v:Value),vs[j]?=some v→w.cell? (a'.add j)=some v) ∧
   ax g w es.flatten vs∧vs.length=es.length*n∧aR es.flatten∧∀c∈es,c.length=n:=by
 cases hx with
 | slnil=>simp[aH]at he;subst he;exact⟨none,0,[],rfl,Nat.le_refl _,fun _=>⟨rfl,rfl⟩,(by simp),ax.nil,by simp,by simp[aR],by simp⟩
 | dm a=>simp[aH]at he;subst he;exact⟨a,0,[],rfl,Nat.le_refl _,fun _=>⟨rfl,rfl⟩,(by simp),ax.nil,by simp,by simp[aR],by simp⟩
 | @sl k pH r o cap n' a7 hk hc hn h1 h2 =>
  simp only[aH]at he
  split at he
  ·rename_i er
   simp at he;subst he
   have hO:∀c∈pH,c.length=n:=by simpa using er
   have key:∀(i j:Nat),i<pH.length→j<n→∃c t,pH[i]?=some c∧c[j]?=some t∧t.one=true∧w.cell? ⟨r,o+i*n+j,none⟩=some (a7 i j)∧VR g w t (a7 i j):=by
    intro i j hi hj
    have e1:pH[i]?=some pH[i]:=List.getElem?_eq_getElem hi
    have l1:(pH[i]).length=n:=hO _ (List.getElem_mem hi)
    have l2:(pH[i]).length=n':=hn _ (List.getElem_mem hi)
    have e2:(pH[i])[j]?=some ((pH[i])[j]'(by omega)):=List.getElem?_eq_getElem _
    have a:=h1 i j _ _ e1 e2
    have tR:n'=n:=by omega
    exact⟨_,_,e1,e2,a.1,by rw[←tR];exact a.2.2,h2 i j _ _ e1 e2⟩
   have build:∀(l:List (List T)) (k:Nat),(∀i c,l[i]?=some c→pH[k+i]?=some c)→∃vs:List Value,vs.length=l.length*n∧ax g w l.flatten vs∧aR l.flatten ∧
     ∀(j:Nat) (v:Value),vs[j]?=some v→w.cell? ⟨r,o+k*n+j,none⟩=some v:=by
    intro l
    induction l with
    | nil=>intro k _;exact⟨[],by simp,ax.nil,by simp[aR],by simp⟩
    | cons c l ih =>
     intro k hk
     have mK:=hk 0 c rfl
     simp only[Nat.add_zero]at mK
     have xv:k<pH.length:=(List.getElem?_eq_some_iff.1 mK).1
     have gY:c.length=n:=hO c (List.mem_of_getElem? mK)
     obtain⟨vs,a1,a2,a3,a4⟩:=ih (k+1) (fun i c' hi=>by have:=hk (i+1) c' (by simpa using hi);rwa[show k+1+i=k+(i+1) by omega])
     refine⟨(List.range n).map (a7 k)++vs,by simp[a1,Nat.succ_mul];omega,?_,?_,fun j v hj=>?_⟩
     ·rw[List.flatten_cons]
      refine ax.append ⟨by simp[gY],fun i t v hi hv=>?_⟩ a2
      have aC:i<n:=by have:=(List.getElem?_eq_some_iff.1 hv).1;simpa using this
      obtain⟨c',t',e1,e2,_,_,e5⟩:=key k i xv aC
      rw[mK]at e1;cases e1
      rw[hi]at e2;cases e2
      simp[aC]at hv
      rw[←hv];exact e5
     ·rw[List.flatten_cons]
      intro t ht
      rcases List.mem_append.1 ht with ht|ht
      ·obtain⟨i,hi,rfl⟩:=List.getElem_of_mem ht
       obtain⟨c',t',e1,e2,e3,_,_⟩:=key k i xv (by omega)
       rw[mK]at e1;cases e1
       rw[List.getElem?_eq_getElem hi]at e2;cases e2
       exact e3
      ·exact a3 t ht
     ·rw[List.getElem?_append]at hj
      split at hj
      ·rename_i aC
       simp at aC
       simp[aC]at hj
       obtain⟨c',t',_,_,_,e4,_⟩:=key k j xv aC
       rw[←hj];exact e4
      ·rename_i pI
       simp at pI hj
       have:=a4 _ v hj
       rwa[show o+(k+1)*n+(j-n)=o+k*n+j by rw[Nat.succ_mul];omega]at this
   obtain⟨vs,a1,a2,a3,a4⟩:=build pH 0 (fun i c h=>by simpa using h)
   refine⟨some ⟨r,o,none⟩,cap,vs,rfl,hc,by simp,fun a' ha=>?_,a2,a1,a3,hO⟩
   cases ha
   exact⟨fun _=>rfl,fun j v hj=>by rw[a8];simpa using a4 j v hj⟩
  ·simp at he
 | @aP b off len n' r o q cap hφ hc hq =>
  simp only[aH]at he
  cases hb:H[b]? with
  | none=>simp[hb]at he
  | some y =>
   cases y with
   | cells cs =>
    simp only[hb]at he
    split at he
    ·rename_i aB
     obtain⟨rfl,hle⟩:=aB
     simp at he
     obtain⟨h1,h2,h3⟩:=h.dt b _ hb r o q hφ
     have hlen:es.length=len:=by rw[←he];simp
     have hn:∀c∈es,c.length=n':=by
      rw[←he]
      intro c hP
      obtain⟨i,hi,rfl⟩:=List.mem_map.1 hP
      simp at hi
      have:i*n'+n'≤len*n':=by rw[←Nat.succ_mul];exact Nat.mul_le_mul_right _ hi
      simp;omega
     have gF:∀m,m≤len→((List.range m).map fun i=>(cs.drop (off+i*n')).take n').flatten=(cs.drop off).take (m*n'):=by
      intro m
      induction m with
      | zero=>intro _;simp
      | succ m ih =>
       intro hm
       rw[List.range_succ,List.map_append,List.flatten_append,ih (by omega)]
       simp only[List.map_cons,List.map_nil,List.flatten_cons,List.flatten_nil,List.append_nil]
       rw[Nat.succ_mul,List.take_add,List.drop_drop]
     have lj:es.flatten=(cs.drop off).take (len*n'):=by rw[←he];exact gF len (Nat.le_refl _)
     have hp:gD H (len*n') (.ptr b off)=some ((cs.drop off).take (len*n')):=by simp[gD,hb,hle]
     obtain⟨r',o',vs,e1,e2,e3,e4,e5⟩:=fg h (.ptr hφ) hp
     cases e1
     refine⟨some ⟨r,o+off,none⟩,cap,vs,by rw[hlen],by omega,by simp,fun a' ha=>?_,by rw[lj];exact e4,by rw[e2,hlen],by rw[lj];exact e5,hn⟩
     cases ha
     exact⟨fun _=>rfl,fun j v hj=>by rw[a8];exact e3 j v hj⟩
    ·simp at he
   | fz cs =>
    simp only[hb]at he
    split at he
    ·rename_i aB
     obtain⟨rfl,hle⟩:=aB
     simp at he
     have hlen:es.length=len:=by rw[←he];simp
     have hn:∀c∈es,c.length=n':=by
      rw[←he]
      intro c hP
      obtain⟨i,hi,rfl⟩:=List.mem_map.1 hP
      simp at hi
      have:i*n'+n'≤len*n':=by rw[←Nat.succ_mul];exact Nat.mul_le_mul_right _ hi
      simp;omega
     have gF:∀m,m≤len→((List.range m).map fun i=>(cs.drop (off+i*n')).take n').flatten=(cs.drop off).take (m*n'):=by
      intro m
      induction m with
      | zero=>intro _;simp
      | succ m ih =>
       intro hm
       rw[List.range_succ,List.map_append,List.flatten_append,ih (by omega)]
       simp only[List.map_cons,List.map_nil,List.flatten_cons,List.flatten_nil,List.append_nil]
       rw[Nat.succ_mul,List.take_add,List.drop_drop]
     have lj:es.flatten=(cs.drop off).take (len*n'):=by rw[←he];exact gF len (Nat.le_refl _)
     have hp:gD H (len*n') (.ptr b off)=some ((cs.drop off).take (len*n')):=by simp[gD,hb,hle]
     obtain⟨r',o',vs,e1,e2,e3,e4,e5⟩:=fg h (.ptr hφ) hp
     cases e1
     refine⟨some ⟨r,o+off,none⟩,cap,vs,by rw[hlen],by omega,by simp,fun a' ha=>?_,by rw[lj];exact e4,by rw[e2,hlen],by rw[lj];exact e5,hn⟩
     cases ha
     exact⟨fun _=>rfl,fun j v hj=>by rw[a8];exact e3 j v hj⟩
    ·simp at he
   | map _=>simp[hb]at he
   | tok _=>simp[hb]at he
   | _=>simp[hb]at he
 | str s=>exact absurd rfl (hs s)
 | _=>simp[aH]at he
theorem hU:∀(es:List (List T)) (l:List UInt8),bytesOf es=some l→∃ns:List Int,es=ns.map (fun n=>[T.int .u8 n])∧l=ns.map (fun n=>UInt8.ofNat n.toNat)
 | [],l,h=>⟨[],rfl,by simpa[bytesOf]using h.symm⟩
 | [.int .u8 n] :: es,l,h=>by
  simp only[bytesOf,Option.map_eq_some_iff]at h
  obtain⟨l',h1,rfl⟩:=h
  obtain⟨ns,rfl,rfl⟩:=hU es l' h1
  exact⟨n :: ns,rfl,rfl⟩
 | [] :: es,l,h=>by simp[bytesOf]at h
 | (_ :: _ :: _) :: es,l,h=>by simp[bytesOf]at h
 | [.int .i8 n] :: es,l,h=>by simp[bytesOf]at h
 | [.int .i16 n] :: es,l,h=>by simp[bytesOf]at h
 | [.int .i32 n] :: es,l,h=>by simp[bytesOf]at h
 | [.int .i64 n] :: es,l,h=>by simp[bytesOf]at h
 | [.int .u16 n] :: es,l,h=>by simp[bytesOf]at h
 | [.int .u32 n] :: es,l,h=>by simp[bytesOf]at h
 | [.int .u64 n] :: es,l,h=>by simp[bytesOf]at h
 | [.bool _] :: es,l,h=>by simp[bytesOf]at h
 | [.str _] :: es,l,h=>by simp[bytesOf]at h
 | [.aE] :: es,l,h=>by simp[bytesOf]at h
 | [.ptr _ _] :: es,l,h=>by simp[bytesOf]at h
 | [.cC _] :: es,l,h=>by simp[bytesOf]at h
 | [.b6] :: es,l,h=>by simp[bytesOf]at h
 | [.map _] :: es,l,h=>by simp[bytesOf]at h
 | [.sl _ _] :: es,l,h=>by simp[bytesOf]at h
 | [.aP _ _ _ _] :: es,l,h=>by simp[bytesOf]at h
 | [.dh] :: es,l,h=>by simp[bytesOf]at h
 | [.fn _ _] :: es,l,h=>by simp[bytesOf]at h
 | [.cD] :: es,l,h=>by simp[bytesOf]at h
 | [.agg _] :: es,l,h=>by simp[bytesOf]at h
 | [.bg _] :: es,l,h=>by simp[bytesOf]at h
theorem foldl_push (ns:List Int):∀(b:ByteArray),ns.foldl (fun r n=>r.push (UInt8.ofNat n.toNat)) b=⟨b.data++(ns.map (fun n=>UInt8.ofNat n.toNat)).toArray⟩:=by
 induction ns with
 | nil=>intro b;simp
 | cons n ns ih=>intro b;rw[List.foldl_cons,ih];cases b;simp[ByteArray.push]
theorem zj (ns:List Int):(ns.map fun n=>[T.int .u8 n]).flatten=ns.map (T.int .u8):=by
 induction ns with
 | nil=>rfl
 | cons n ns ih=>simp only[List.map_cons,List.flatten_cons,ih];rfl
theorem tT {src dst e:TypeId}{x:T}{vx:Value}{es:List (List T)}{l:List UInt8}(hs:P.underlying src=some (.slice e))(hb:P.underlying e=some (.int .u8))(hd:P.underlying dst=some .string)
  (h:SR w0 g H w) (hx:VR g w x vx) (he:aH H 1 x=some es) (hn:∀s,x≠.str s) (hl:bytesOf es=some l):aG P w0 g H w (convert src dst vx) (.str ⟨l.toArray⟩) H:=by
 obtain⟨a,cap,vs,rfl,_,h1,h2,h3,h4,h5,_⟩:=fE h hx he hn
 obtain⟨ns,rfl,rfl⟩:=hU es l hl
 refine aG.same h ?_ (.str _)
 rw[run_convert_bytes_string w src dst e a _ cap hs hb hd]
 cases a with
 | none =>
  have:=h1 rfl
  have tf:ns=[]:=by simpa using this.1
  subst tf
  simp[Conv.bytesToString];rfl
 | some a =>
  obtain⟨_,h6⟩:=h2 a rfl
  have fW:vs=ns.map (Value.int .u8):=by
   apply List.ext_getElem?
   intro i
   have hlen:vs.length=ns.length:=by simpa using h4
   by_cases hi:i<ns.length
   ·have hv:vs[i]?=some vs[i]:=List.getElem?_eq_getElem (by omega)
    have ht:((ns.map fun n=>[T.int .u8 n]).flatten)[i]?=some (T.int .u8 ns[i]):=by
     rw[zj];simp[hi]
    have:=h3.2 i _ _ ht hv
    rw[hv]
    simp only[List.getElem?_map,List.getElem?_eq_getElem hi,Option.map_some]
    congr 1
    generalize vs[i]=vv at this
    cases this;rfl
   ·rw[List.getElem?_eq_none (by omega),List.getElem?_eq_none (by simpa using hi)]
  have:=run_loadCells_list (P:=P) w a vs h6
  rw[h4]at this
  have hl:(ns.map fun n=>[T.int .u8 n]).length*1=(ns.map fun n=>[T.int .u8 n]).length:=Nat.mul_one _
  rw[hl]at this
  rw[run_bytesToString w a _ cap ns (by rw[this,fW]),foldl_push]
  show Result.ok (Value.string ⟨#[]++_⟩) w=_
  simp
end
section
variable {P:Program} {w0 w:World} {g:Ctx} {H:aa}
def hY:Value→Option T
 | .int k n=>some (.int k n)
 | .bool b=>some (.bool b)
 | .string s=>some (.str s)
 | .pointer none=>some .aE
 | .slice none 0 0=>some (.sl .nil [])
 | .map none=>some .b6
 | .nilFunc=>some .dh
 | .nilIface=>some .cD
 | _=>none
def bO:List Value→Option (List T)
 | []=>some []
 | v :: vs=>match hY v,bO vs with
  | some t,some ts=>some (t :: ts)
  | _,_=>none
def fh:Value→Option T
 | .agg cs=>(bO cs.toList).map .agg
 | .tuple cs=>if cs.size=0 then some (.bg [])else none
 | v=>hY v
theorem jt {v:Value}{t:T}(h:hY v=some t):VR g w t v∧t.one=true:=by
 unfold hY at h
 split at h<;>simp at h<;>subst h
 ·exact⟨.int _ _,rfl⟩
 ·exact⟨.bool _,rfl⟩
 ·exact⟨.str _,rfl⟩
 ·exact⟨.aE,rfl⟩
 ·exact⟨.slnil,rfl⟩
 ·exact⟨.b6,rfl⟩
 ·exact⟨.dh,rfl⟩
 ·exact⟨.cD,rfl⟩
theorem bu:∀(vs:List Value) (ts:List T),bO vs=some ts→ax g w ts vs∧aR ts
 | [],ts,h=>by simp[bO]at h;subst h;exact⟨ax.nil,by simp[aR]⟩
 | v :: vs,ts,h=>by
  simp only[bO]at h
  cases h1:hY v with
  | none=>simp[h1]at h
  | some t =>
   cases h2:bO vs with
   | none=>simp[h1,h2]at h
   | some xo =>
    simp[h1,h2]at h;subst h
    obtain⟨a,b⟩:=jt (g:=g) (w:=w) h1
    obtain⟨c,d⟩:=bu vs xo h2
    exact⟨ax.cons a c,by intro x hx;rcases List.mem_cons.1 hx with rfl|hx;exact b;exact d x hx⟩
theorem eL {v:Value}{t:T}(h:fh v=some t):VR g w t v:=by
 unfold fh at h
 split at h
 ·rename_i cs
  simp only[Option.map_eq_some_iff]at h
  obtain⟨ts,h1,rfl⟩:=h
  obtain⟨a,b⟩:=bu (g:=g) (w:=w) _ _ h1
  have:=a.agg b
  simpa using this
 ·rename_i cs
  split at h
  ·rename_i hs
   simp at h;subst h
   have:cs=#[]:=Array.eq_empty_of_size_eq_zero hs
   subst this
   exact .bg rfl (by simp)
  ·simp at h
 ·exact(jt h).1
theorem bD {x:T}{vx:Value}{i:Nat}(hx:VR g w x vx)(h:aQ x=some i):∃(k:IntKind) (n:Int),vx=.int k n∧0≤n∧n.toNat=i:=by
 cases hx<;>simp[aQ]at h
 exact⟨_,_,rfl,h.1,h.2⟩
theorem oS {cs:List T}{r o off:Nat}(h:VR g w (.cC cs) (.pointer (some ⟨r,o,none⟩))):VR g w (.cC (cs.drop off)) (.pointer (some ⟨r,o+off,none⟩)):=by
 cases h with
 | cC a7 h1 h2 =>
  refine .cC (fun j=>a7 (off+j)) (fun j t e=>?_) (fun j t e=>?_)
  ·rw[List.getElem?_drop]at e
   have:=h1 (off+j) t e
   exact⟨this.1,by rw[Nat.add_assoc];exact this.2⟩
  ·rw[List.getElem?_drop]at e
   exact h2 (off+j) t e
theorem tU {ty:TypeId}{fs:Array Field}{i:Nat}{f:Field}{fi:TypeInfo}{x t:T}{vx:Value}(hu:P.underlying ty=some (.struct fs))(hf:fs[i]?=some f)(hi:P.info? f.type=some fi)(hz:fi.size≠0)
  (h:SR w0 g H w) (hx:VR g w x vx) (he:kb f.offset x=some t) :
  aG P w0 g H w (Instr.fieldAt ty vx i) t H:=by
 cases hx<;>simp[kb]at he
 case ptr b off r o q hφ =>
  subst he
  refine aG.same h (v:=.pointer (some ⟨r,o+(off+f.offset),none⟩)) ?_ (.ptr hφ)
  simp[Instr.fieldAt,Instr.sureAddr,run_underlying hu,hf,fieldPlace,sizeOf,ar hi,hz,a8,Nat.add_assoc]
 case cC cs r o a7 h1 h2 =>
  obtain⟨_,rfl⟩:=he
  refine aG.same h (v:=.pointer (some ⟨r,o+f.offset,none⟩)) ?_ (oS (.cC a7 h1 h2))
  simp[Instr.fieldAt,Instr.sureAddr,run_underlying hu,hf,fieldPlace,sizeOf,ar hi,hz,a8]
theorem ll {ty:TypeId}{d:TypeDesc}{i:TypeInfo}{ag:Bool}{n off:Nat}{cs:List T}{vs:List Value}{t:T}(hd:P.underlying ty=some d)(hi:P.info? ty=some i)(pG:bC d=ag)(hn:i.size=n)
  (hv:ax g w cs vs) (ho:aR cs) (hle:off+n≤cs.length) (he:valOf ag ((cs.drop off).take n)=some t):∃v,(part ty vs.toArray off).run P w=.ok v w∧VR g w t v:=by
 have h1:=(hv.drop off).take n
 have h2:aR ((cs.drop off).take n):=fun x hx=>ho x (List.mem_of_mem_drop (List.mem_of_mem_take hx))
 obtain⟨ha,hb⟩:=hJ h1 h2 he
 cases ag with
 | true =>
  refine⟨_,?_,ha rfl⟩
  simp[part,bN hd,pG,sizeOf,ar hi,hn]
 | false =>
  obtain⟨v,h3,h4⟩:=hb rfl
  refine⟨v,?_,h4⟩
  have h5:vs[off]?=some v:=by
   have:((vs.drop off).take n)[0]?=some v:=by rw[h3];rfl
   rw[List.getElem?_take]at this
   split at this
   ·rw[List.getElem?_drop]at this;simpa using this
   ·simp at this
  simp[part,bN hd,pG,h5]
theorem tV {ty:TypeId}{fs:Array Field}{i:Nat}{f:Field}{fi:TypeInfo}{d:TypeDesc}{cs:List T}{t:T}{vx:Value}{ag:Bool}(hu:P.underlying ty=some (.struct fs))(hf:fs[i]?=some f)(hd:P.underlying f.type=some d)(hi:P.info? f.type=some fi)
  (pG:bC d=ag) (h:SR w0 g H w) (hx:VR g w (.agg cs) vx) (hle:f.offset+fi.size≤cs.length) (he:valOf ag ((cs.drop f.offset).take fi.size)=some t):aG P w0 g H w (Instr.field ty vx i) t H:=by
 obtain⟨vs,rfl,h1,h2⟩:=hx.cf
 obtain⟨v,hr,hv⟩:=ll (P:=P) hd hi pG rfl h1 h2 hle he
 exact aG.same h (by simp[Instr.field,run_underlying hu,hf,asAgg,hr]) hv
theorem tW {ty elem:TypeId}{ei:TypeInfo}{x ix t:T}{i:Nat}{vx vi:Value}(hu:P.underlying ty=some (.slice elem))(hi:P.info? elem=some ei)
  (h:SR w0 g H w) (hx:VR g w x vx) (p5:VR g w ix vi) (hn:aQ ix=some i) (he:tD ei.size i x=some t):aG P w0 g H w (Instr.indexAt ty vx vi) t H:=by
 obtain⟨k,m,rfl,oT,vZ⟩:=bD p5 hn
 cases hx<;>simp[tD]at he
 case sl k' es r o cap n a7 hk hc v3 h1 h2 =>
  cases eW:es[i]? with
  | none=>simp[eW]at he
  | some c =>
   simp[eW]at he
   obtain⟨⟨gY,aF⟩,rfl⟩:=he
   have aC:i<es.length:=(List.getElem?_eq_some_iff.1 eW).1
   have Ik:c.length=n:=v3 c (List.mem_of_getElem? eW)
   have tR:n=ei.size:=by omega
   subst tR
   refine aG.same h (v:=.pointer (some ⟨r,o+i*ei.size,none⟩)) ?_ (.cC (a7 i) (fun j t e=>h1 i j c t eW e) (fun j t e=>h2 i j c t eW e))
   have mL:m<es.length:=by omega
   simp[Instr.indexAt,asIntOf,run_underlying hu,oT,mL,sizeOf,ar hi,a8,vZ]
 case aP b off len n r o q cap hφ hc hq =>
  obtain⟨⟨rfl,aC,aF⟩,rfl⟩:=he
  refine aG.same h (v:=.pointer (some ⟨r,o+(off+i*ei.size),none⟩)) ?_ (.ptr hφ)
  have mL:m<len:=by omega
  simp[Instr.indexAt,asIntOf,run_underlying hu,oT,mL,sizeOf,ar hi,a8,vZ,Nat.add_assoc]
theorem tX {ty elem:TypeId}{len:Nat}{ei:TypeInfo}{ix:T}{b off i:Nat}{vx vi:Value}(hu:P.underlying ty=some (.array len elem))(hi:P.info? elem=some ei)
  (h:SR w0 g H w) (hx:VR g w (.ptr b off) vx) (p5:VR g w ix vi) (hn:aQ ix=some i) (aC:i<len):aG P w0 g H w (Instr.indexAt ty vx vi) (.ptr b (off+i*ei.size)) H:=by
 obtain⟨k,m,rfl,oT,vZ⟩:=bD p5 hn
 cases hx with
 | @ptr _ _ r o q hφ =>
  refine aG.same h (v:=.pointer (some ⟨r,o+(off+i*ei.size),none⟩)) ?_ (.ptr hφ)
  have mL:m<len:=by omega
  simp[Instr.indexAt,Instr.sureAddr,asIntOf,run_underlying hu,oT,mL,sizeOf,ar hi,a8,vZ,Nat.add_assoc]
theorem tY {ty:TypeId}{ix:T}{s:ByteArray}{i:Nat}{c:UInt8}{vx vi:Value}(hu:P.underlying ty=some .string)
  (h:SR w0 g H w) (hx:VR g w (.str s) vx) (p5:VR g w ix vi) (hn:aQ ix=some i) (hc:s.data[i]?=some c):aG P w0 g H w (Instr.index ty vx vi) (.int .u8 c.toNat) H:=by
 obtain⟨k,m,rfl,oT,vZ⟩:=bD p5 hn
 cases hx
 refine aG.same h ?_ (.int _ _)
 have hP:s[i]?=some c:=by
  have aC:i<s.data.size:=(Array.getElem?_eq_some_iff.1 hc).1
  have h2:=(Array.getElem?_eq_some_iff.1 hc).2
  have CF:i<s.size:=aC
  rw[getElem?_pos s i CF]
  exact congrArg some h2
 simp[Instr.index,asIntOf,run_underlying hu,oT,vZ,hP]
theorem tZ {ty elem:TypeId}{len i:Nat}{ei:TypeInfo}{d:TypeDesc}{ag:Bool}{ix t:T}{cs:List T}{vx vi:Value}(hu:P.underlying ty=some (.array len elem))(hd:P.underlying elem=some d)(hi:P.info? elem=some ei)(pG:bC d=ag)
  (h:SR w0 g H w) (hx:VR g w (.agg cs) vx) (p5:VR g w ix vi) (hn:aQ ix=some i) (aC:i<len) (hle:i*ei.size+ei.size≤cs.length) (he:valOf ag ((cs.drop (i*ei.size)).take ei.size)=some t):aG P w0 g H w (Instr.index ty vx vi) t H:=by
 obtain⟨k,m,rfl,oT,vZ⟩:=bD p5 hn
 obtain⟨vs,rfl,h1,h2⟩:=hx.cf
 obtain⟨v,hr,hv⟩:=ll (P:=P) hd hi pG rfl h1 h2 hle he
 have mL:m<len:=by omega
 exact aG.same h (by simp[Instr.index,asIntOf,run_underlying hu,oT,mL,sizeOf,ar hi,vZ,hr]) hv
def OV (g:Ctx)(w:World)(R:ai):Option X→Option Value→Prop
 | none,none=>True
 | some x,some v=>VR g w (x.ev R) v
 | _,_=>False
def xw (l:Nat):Option Value→Prop
 | none=>l=0
 | some v=>∃k n,v=.int k n∧0≤n∧n.toNat=l
theorem run_sliceBound {k:IntKind}{n:Int}{y:Nat}{c:BoundsCode}(h0:0≤n)(hy:n.toNat≤y):(Instr.sliceBound (.int k n) y c).run P w=.ok n.toNat w:=by
 have:n≤y:=by omega
 simp[Instr.sliceBound,asIntOf,h0,this]
theorem b7 {R:ai}{p6:Bool}{len cap d l hh:Nat}{lo hi:Option X}{dJ eb:Option Value}(iT:OV g w R lo dJ)
  (lp:OV g w R hi eb) (hl:cT R 0 lo=some l) (ke:cT R d hi=some hh) (hd:hi=none→d=len) (h1:l≤hh) (h2:hh≤cap) :
  (Instr.sliceBounds p6 len cap dJ eb none).run P w=.ok (l,hh,cap) w:=by
 have eh:∀c,(match eb with|some v=>Instr.sliceBound v cap c|none=>pure len:Sem Nat).run P w=.ok hh w:=by
  intro c
  cases hi with
  | none =>
   cases eb with
   | none=>simp[cT]at ke;simp[←ke,hd rfl]
   | some _=>exact lp.elim
  | some x =>
   cases eb with
   | none=>exact lp.elim
   | some v =>
    obtain⟨k,n,rfl,a,b⟩:=bD lp ke
    subst b
    exact run_sliceBound a h2
 have el:∀c,(match dJ with|some v=>Instr.sliceBound v hh c|none=>pure 0:Sem Nat).run P w=.ok l w:=by
  intro c
  cases lo with
  | none =>
   cases dJ with
   | none=>simp[cT]at hl;simp[←hl]
   | some _=>exact iT.elim
  | some x =>
   cases dJ with
   | none=>exact iT.elim
   | some v =>
    obtain⟨k,n,rfl,a,b⟩:=bD iT hl
    subst b
    exact run_sliceBound a h1
 have Il:=eh (if p6 then .sliceAcap else .sliceAlen)
 have Im:=el .sliceB
 cases eb<;>cases dJ<;>simp_all [Instr.sliceBounds]
theorem ua {R:ai}{ty:TypeId}{s:ByteArray}{l hh:Nat}{lo hi:Option X}{dJ eb:Option Value}{vx:Value}(hu:P.underlying ty=some .string)
  (h:SR w0 g H w) (hx:VR g w (.str s) vx) (iT:OV g w R lo dJ)
  (lp:OV g w R hi eb) (hl:cT R 0 lo=some l) (ke:cT R s.size hi=some hh) (h1:l≤hh) (h2:hh≤s.size) :
  aG P w0 g H w (Instr.sliceAt ty vx dJ eb none) (.str (s.extract l hh)) H:=by
 cases hx
 refine aG.same h ?_ (.str _)
 have:=b7 (P:=P) (p6:=false) iT lp hl ke (fun _=>rfl) h1 h2
 simp[Instr.sliceAt,run_underlying hu,Instr.slice,this]
theorem nB {k k':SK}{es:List (List T)}{r o cap kf n l m:Nat}{a:Option Addr}(a7:Nat→Nat→Value)(hn:∀c∈es,c.length=n)
  (h1:∀(i j:Nat) (c:List T) (t:T),es[i]?=some c→c[j]?=some t→t.one=true∧my g w r (o+i*n+j) (a7 i j))
  (h2:∀(i j:Nat) (c:List T) (t:T),es[i]?=some c→c[j]?=some t→VR g w t (a7 i j))
  (Ip:l≤m) (hm:m≤es.length) (fF:m-l≤kf) (hk:oL g k' r (o+l*n) (m-l) kf n) :
  VR g w (.sl k' ((es.take m).drop l)) (.slice (some ⟨r,o+l*n,none⟩) (m-l) kf):=by
 have hlen:((es.take m).drop l).length=m-l:=by simp;omega
 have get:∀i c,((es.take m).drop l)[i]?=some c→es[l+i]?=some c:=by
  intro i c hi
  rw[List.getElem?_drop,List.getElem?_take]at hi
  split at hi
  ·exact hi
  ·simp at hi
 have:=VR.sl (g:=g) (w:=w) (k:=k') (es:=(es.take m).drop l) (r:=r) (o:=o+l*n) (cap:=kf) (n:=n) (fun i j=>a7 (l+i) j) (by rw[hlen];exact hk) (by omega)
  (fun c hc=>hn c (List.mem_of_mem_take (List.mem_of_mem_drop hc)))
  (fun i j c t a b=>⟨(h1 (l+i) j c t (get i c a) b).1,by
   have:=(h1 (l+i) j c t (get i c a) b).2
   rwa[show o+l*n+i*n+j=o+(l+i)*n+j by rw[Nat.add_mul];omega]⟩)
  (fun i j c t a b=>h2 (l+i) j c t (get i c a) b)
 rwa[hlen]at this
theorem ub {R : ai}{ty elem : TypeId}{ei : TypeInfo}{k : SK}{es : List (List T)}{l hh : Nat}{lo hi : Option X}{dJ eb : Option Value}{vx : Value}(hu : P.underlying ty = some (.slice elem))(fV : P.info? elem = some ei)
    (h : SR w0 g H w) (hx : VR g w (.sl k es) vx) (iT : OV g w R lo dJ)
    (lp : OV g w R hi eb) (hl : cT R 0 lo = some l) (ke : cT R es.length hi = some hh) (h1 : l ≤ hh) (h2 : hh ≤ es.length) (er : es.all (·.length == ei.size) = true) :
    aG P w0 g H w (Instr.sliceAt ty vx dJ eb none) (.sl (k.cut es.length l hh) ((es.take hh).drop l)) H := by
  have hO : ∀c ∈ es, c.length = ei.size := by simpa using er
  cases hx with
  | slnil =>
    simp at h2; subst h2
    have yS : l = 0 := by omega
    subst yS
    have := b7 (P := P) (w := w) (g := g) (p6 := true) (cap := 0) iT lp hl ke (fun _ => rfl) h1 (Nat.le_refl _)
    simp only[List.length_nil]at this
    exact aG.same h (v := .slice none 0 0) (by simp[Instr.sliceAt, run_underlying hu, Instr.slice, this, sizeOf, ar fV]) (by simpa[SK.cut]using VR.slnil)
  | dm a =>
    simp at h2; subst h2
    have yS : l = 0 := by omega
    subst yS
    have := b7 (P := P) (w := w) (g := g) (p6 := true) (cap := 0) iT lp hl ke (fun _ => rfl) h1 (Nat.le_refl _)
    simp only[List.length_nil]at this
    exact aG.same h (v := .slice a 0 0) (by cases a<;>simp[Instr.sliceAt, run_underlying hu, Instr.slice, this, sizeOf, ar fV]) (by simpa[SK.cut]using VR.dm a)
  | @sl _ _ r o cap n a7 hk hc hn h3 h4 =>
    have := b7 (P := P) (w := w) (g := g) (p6 := true) (cap := cap) iT lp hl ke (fun _ => rfl) h1 (by omega)
    have hr : (Instr.sliceAt ty (.slice (some ⟨r, o, none⟩) es.length cap) dJ eb none).run P w = .ok (.slice (some (if cap = l then⟨r, o, none⟩else⟨r, o + l * ei.size, none⟩)) (hh - l) (cap - l)) w := by
      simp[Instr.sliceAt, run_underlying hu, Instr.slice, this, sizeOf, ar fV, a8]
      split<;>rfl
    by_cases he : l<hh
    · -- yT is left
      have gY : cap ≠ l := by omega
      simp only[gY, if_false]at hr
      have tR : n = ei.size := by
        cases es with
        | nil => simp at h2; omega
        | cons c es => have a := hn c (by simp); have b := hO c (by simp); omega
      subst tR
      refine aG.same h hr (nB (k := k) (cap := cap) (a := none) a7 hn h3 h4 h1 h2 (by omega) ?_)
      cases k with
      | nil => exact hk.elim
      | arg => trivial
      | full =>
        simp only[SK.cut]; split
        · rename_i e; simp only[oL]at hk ⊢; omega
        · trivial
      | own t e =>
        simp only[SK.cut]; split
        · rename_i e'
          simp only[oL]at hk ⊢
          refine⟨?_, by omega⟩
          rw[hk.1]
          have e1 : o + l * ei.size + (hh - l) * ei.size = o + es.length * ei.size := by
            rw[Nat.add_assoc, ←Nat.add_mul]; congr 2; omega
          have e2 : o + l * ei.size + (cap - l) * ei.size = o + cap * ei.size := by
            rw[Nat.add_assoc, ←Nat.add_mul]; congr 2; omega
          rw[e1, e2]
        · trivial
    · have hle : l = hh := by omega
      subst hle
      have hd : (es.take l).drop l = [] := by simp
      rw[hd]
      have vr : ∀a : Addr, a.spot = none → VR g w (.sl .arg []) (.slice (some a) 0 (cap - l)) := by
        intro a ha
        obtain⟨ab, ao, as⟩ := a
        simp at ha; subst ha
        exact .sl (n := 0) (fun _ _ => .nilIface) trivial (by simp) (by simp) (by simp) (by simp)
      have ju : k.cut es.length l l = .arg ∨ (k.cut es.length l l = .full ∧ cap = l) := by
        cases k with
        | nil => exact hk.elim
        | arg => exact .inl rfl
        | full => simp only[SK.cut]; split
                  · rename_i e; right; simp only[oL]at hk; exact⟨rfl, by omega⟩
                  · exact .inl rfl
        | own t e => simp only[SK.cut]; split
                     · omega
                     · exact .inl rfl
      rcases ju with e|⟨e, gY⟩
      · rw[e]
        refine aG.same h hr ?_
        rw[Nat.sub_self]
        exact vr _ (by split<;>rfl)
      · rw[e]
        refine aG.same h hr ?_
        rw[Nat.sub_self, gY, Nat.sub_self]
        have mA : ∀a : Addr, a.spot = none → VR g w (.sl .full []) (.slice (some a) 0 0) := by
          intro a ha
          obtain⟨ab, ao, as⟩ := a
          simp at ha; subst ha
          exact .sl (n := 0) (fun _ _ => .nilIface) rfl (by simp) (by simp) (by simp) (by simp)
        exact mA _ (by split<;>rfl)
theorem fY {p6:Bool}{len cap l hh m:Nat}{dJ:Option Value}{k:IntKind}{nm:Int}{vh:Value}
  (oT:0≤nm) (CG:nm.toNat=m) (E6:m≤cap) (ke:∃k n,vh=.int k n∧0≤n∧n.toNat=hh) (h2:hh≤m)
  (hl:xw l dJ) (h1:l≤hh) :
  (Instr.sliceBounds p6 len cap dJ (some vh) (some (.int k nm))).run P w=.ok (l,hh,m) w:=by
 subst CG
 obtain⟨kh,nh,rfl,a,b⟩:=ke
 subst b
 cases dJ with
 | none=>simp only[xw]at hl;subst hl;simp[Instr.sliceBounds,run_sliceBound oT E6,run_sliceBound a h2]
 | some v =>
  obtain⟨kl,nl,rfl,c,d⟩:=hl
  subst d
  simp[Instr.sliceBounds,run_sliceBound oT E6,run_sliceBound a h2,run_sliceBound c h1]
theorem p7 {R:ai}{ty elem:TypeId}{ei:TypeInfo}{k:SK}{es:List (List T)}{l hh m:Nat}{lo:Option X}{hi mx:X}{dJ:Option Value}{eb vm:Value}{vx:Value}(hu:P.underlying ty=some (.slice elem))(fV:P.info? elem=some ei)
  (h:SR w0 g H w) (hx:VR g w (.sl k es) vx) (iT:OV g w R lo dJ)
  (lp:VR g w (hi.ev R) eb) (FR:VR g w (mx.ev R) vm) (hl:cT R 0 lo=some l) (ke:aQ (hi.ev R)=some hh) (hm:aQ (mx.ev R)=some m) (h1:l≤hh) (h2:hh≤m) (zk:m≤es.length) (er:es.all (·.length==ei.size)=true) :
  aG P w0 g H w (Instr.sliceAt ty vx dJ (some eb) (some vm)) (.sl (if k=.nil then .nil else if es=[]∧k=.arg then .arg else if hh=m then .full else .arg) ((es.take hh).drop l)) H:=by
 have hO:∀c∈es,c.length=ei.size:=by simpa using er
 have uc:xw l dJ:=by
  cases lo<;>cases dJ
  ·simp[cT]at hl;exact hl.symm
  ·exact iT.elim
  ·exact iT.elim
  ·exact bD iT hl
 obtain⟨km,nm,rfl,oT,CG⟩:=bD FR hm
 have hb:∀cap,m≤cap→(Instr.sliceBounds true es.length cap dJ (some eb) (some (.int km nm))).run P w=.ok (l,hh,m) w :=
  fun cap hc=>fY oT CG hc (bD lp ke) h2 uc h1
 cases hx with
 | slnil =>
  simp at zk;subst zk
  obtain rfl:hh=0:=by omega
  obtain rfl:l=0:=by omega
  have:=hb 0 (Nat.le_refl _)
  simp only[List.length_nil]at this
  exact aG.same h (v:=.slice none 0 0) (by simp[Instr.sliceAt,run_underlying hu,Instr.slice,this,sizeOf,ar fV]) (by simpa using VR.slnil)
 | dm a =>
  simp at zk;subst zk
  obtain rfl:hh=0:=by omega
  obtain rfl:l=0:=by omega
  have:=hb 0 (Nat.le_refl _)
  simp only[List.length_nil]at this
  exact aG.same h (v:=.slice a 0 0) (by cases a<;>simp[Instr.sliceAt,run_underlying hu,Instr.slice,this,sizeOf,ar fV]) (by simpa using VR.dm a)
 | @sl _ _ r o cap n a7 hk hc hn h3 h4 =>
  have zl:k≠.nil:=by rintro rfl;exact hk.elim
  simp only[zl,if_false]
  have hr:(Instr.sliceAt ty (.slice (some ⟨r,o,none⟩) es.length cap) dJ (some eb) (some (.int km nm))).run P w=.ok (.slice (some (if m=l then⟨r,o,none⟩else⟨r,o+l*ei.size,none⟩)) (hh-l) (m-l)) w:=by
   simp[Instr.sliceAt,run_underlying hu,Instr.slice,hb cap (by omega),sizeOf,ar fV,a8]
   split<;>rfl
  by_cases he:l<hh
  ·have gY:m≠l:=by omega
   simp only[gY,if_false]at hr
   have aF:es≠[]:=by rintro rfl;simp at zk;omega
   have tR:n=ei.size:=by
    cases es with
    | nil=>exact absurd rfl aF
    | cons c es=>have a:=hn c (by simp);have b:=hO c (by simp);omega
   subst tR
   simp only[aF,false_and,if_false]
   refine aG.same h hr (nB (k:=k) (cap:=cap) (a:=none) a7 hn h3 h4 h1 (by omega) (by omega) ?_)
   split
   ·rename_i e;simp only[oL];omega
   ·trivial
  ·obtain rfl:l=hh:=by omega
   have hd:(es.take l).drop l=[]:=by simp
   rw[hd]
   have mA:∀(a:Addr) (c:Nat) (k':SK),a.spot=none→(k'=.arg∨(k'=.full∧c=0))→VR g w (.sl k' []) (.slice (some a) 0 c):=by
    intro a c k' ha nC
    obtain⟨ab,ao,as⟩:=a
    simp at ha;subst ha
    refine .sl (n:=0) (fun _ _=>.nilIface) ?_ (by simp) (by simp) (by simp) (by simp)
    rcases nC with rfl|⟨rfl,rfl⟩
    ·trivial
    ·rfl
   refine aG.same h hr ?_
   rw[Nat.sub_self]
   refine mA _ _ _ (by split<;>rfl) ?_
   split
   ·exact .inl rfl
   ·split
    ·exact .inr ⟨rfl,by omega⟩
    ·exact .inl rfl
theorem p8 {R:ai}{ty elem:TypeId}{ei:TypeInfo}{b off len l hh:Nat}{lo hi:Option X}{dJ eb:Option Value}{vx:Value}(hu:P.underlying ty=some (.slice elem))(fV:P.info? elem=some ei)
  (h:SR w0 g H w) (hx:VR g w (.aP b off len ei.size) vx) (iT:OV g w R lo dJ)
  (lp:OV g w R hi eb) (hl:cT R 0 lo=some l) (ke:cT R len hi=some hh) (h1:l≤hh) (h2:hh≤len) :
  aG P w0 g H w (Instr.sliceAt ty vx dJ eb none) (if l=hh then(if l=0 then .aP b off 0 ei.size else .sl .arg [])else .aP b (off+l*ei.size) (hh-l) ei.size) H:=by
 cases hx with
 | @aP _ _ _ _ r o q cap hφ hc hq =>
  have:=b7 (P:=P) (w:=w) (g:=g) (p6:=true) (cap:=cap) iT lp hl ke (fun _=>rfl) h1 (by omega)
  have hr:(Instr.sliceAt ty (.slice (some ⟨r,o+off,none⟩) len cap) dJ eb none).run P w=.ok (.slice (some (if cap=l then⟨r,o+off,none⟩else⟨r,o+off+l*ei.size,none⟩)) (hh-l) (cap-l)) w:=by
   simp[Instr.sliceAt,run_underlying hu,Instr.slice,this,sizeOf,ar fV,a8]
   split<;>rfl
  refine aG.same h hr ?_
  have key:∀a:Addr,a=⟨r,o+(off+l*ei.size),none⟩→(cap≠l∨l=0)→VR g w (.aP b (off+l*ei.size) (hh-l) ei.size) (.slice (some a) (hh-l) (cap-l)):=by
   rintro a rfl gY
   refine .aP hφ (by omega) ?_
   rw[←hq]
   have:l*ei.size+(cap-l)*ei.size=cap*ei.size:=by rw[←Nat.add_mul];congr 1;omega
   omega
  split
  ·rename_i e;subst e
   split
   ·rename_i e;subst e
    have:=key (if cap=0 then⟨r,o+off,none⟩else⟨r,o+off+0*ei.size,none⟩) (by split<;>simp) (.inr rfl)
    simpa using this
   ·rw[Nat.sub_self]
    have mA:∀(a:Addr) (c:Nat),a.spot=none→VR g w (.sl .arg []) (.slice (some a) 0 c):=by
     intro a c ha
     obtain⟨ab,ao,as⟩:=a
     simp at ha;subst ha
     exact .sl (n:=0) (fun _ _=>.nilIface) trivial (by simp) (by simp) (by simp) (by simp)
    exact mA _ _ (by split<;>rfl)
  ·have gY:cap≠l:=by omega
   exact key _ (by rw[if_neg gY,Nat.add_assoc]) (.inl gY)
theorem ud {R:ai}{ty elem:TypeId}{ei:TypeInfo}{b off len hh:Nat}{hi:X}{eb:Value}{vx:Value}(hu:P.underlying ty=some (.slice elem))(fV:P.info? elem=some ei)
  (h:SR w0 g H w) (hx:VR g w (.aP b off len ei.size) vx)
  (lp:OV g w R (some hi) (some eb)) (ke:aQ (hi.ev R)=some hh) (hn:ei.size≠0) (h0:0<hh) (hr:off+hh*ei.size≤pP H b) :
  aG P w0 g H w (Instr.sliceAt ty vx none (some eb) none) (.aP b off hh ei.size) H:=by
 cases hx with
 | @aP _ _ _ _ r o q cap hφ hc hq =>
  have kN:o+(off+hh*ei.size)≤q:=by
   unfold pP at hr
   split at hr
   ·rename_i cs hb
    have:=(h.dt _ _ hb r o q hφ).1;omega
   ·rename_i cs hb
    have:=(h.dt _ _ hb r o q hφ).1;omega
   ·have:0<hh*ei.size:=Nat.mul_pos h0 (Nat.pos_of_ne_zero hn)
    omega
  have fF:hh≤cap:=by
   have h1:hh*ei.size≤cap*ei.size:=by omega
   exact Nat.le_of_mul_le_mul_right h1 (Nat.pos_of_ne_zero hn)
  have:=b7 (P:=P) (w:=w) (g:=g) (R:=R) (p6:=true) (d:=len) (len:=len) (cap:=cap) (lo:=none) (dJ:=none) (l:=0) trivial lp rfl ke (fun _=>rfl) (Nat.zero_le _) fF
  have hr:(Instr.sliceAt ty (.slice (some ⟨r,o+off,none⟩) len cap) none (some eb) none).run P w=.ok (.slice (some (if cap=0 then⟨r,o+off,none⟩else⟨r,o+off+0*ei.size,none⟩)) (hh-0) (cap-0)) w:=by
   simp[Instr.sliceAt,run_underlying hu,Instr.slice,this,sizeOf,ar fV,a8]
  refine aG.same h hr ?_
  have:VR g w (.aP b off hh ei.size) (.slice (some ⟨r,o+off,none⟩) hh cap):=.aP hφ fF hq
  simpa using this
theorem p9 {R:ai}{ty elem:TypeId}{ei:TypeInfo}{b off len c l hh:Nat}{lo hi:Option X}{dJ eb:Option Value}{vx:Value}(hu:P.underlying ty=some (.slice elem))(fV:P.info? elem=some ei)
  (h:SR w0 g H w) (hx:VR g w (.bT b off len ei.size c) vx) (iT:OV g w R lo dJ)
  (lp:OV g w R hi eb) (hl:cT R 0 lo=some l) (ke:cT R len hi=some hh) (h1:l≤hh) (h2:hh≤c) :
  aG P w0 g H w (Instr.sliceAt ty vx dJ eb none) (if l<c∨l=0 then .bT b (off+l*ei.size) (hh-l) ei.size (c-l)else .sl .arg []) H:=by
 cases hx with
 | @bT _ _ _ _ r o q cap hφ hc hq =>
  have:=b7 (P:=P) (w:=w) (g:=g) (p6:=true) (cap:=c) iT lp hl ke (fun _=>rfl) h1 (by omega)
  have hr:(Instr.sliceAt ty (.slice (some ⟨r,o+off,none⟩) len c) dJ eb none).run P w=.ok (.slice (some (if c=l then⟨r,o+off,none⟩else⟨r,o+off+l*ei.size,none⟩)) (hh-l) (c-l)) w:=by
   simp[Instr.sliceAt,run_underlying hu,Instr.slice,this,sizeOf,ar fV,a8]
   split<;>rfl
  refine aG.same h hr ?_
  by_cases h3:l<c∨l=0
  case neg =>
   rw[if_neg h3]
   have e0:hh-l=0:=by omega
   have mA:∀(a:Addr) (c:Nat),a.spot=none→VR g w (.sl .arg []) (.slice (some a) 0 c):=by
    intro a c ha
    obtain⟨ab,ao,as⟩:=a
    simp at ha;subst ha
    exact .sl (n:=0) (fun _ _=>.nilIface) trivial (by simp) (by simp) (by simp) (by simp)
   rw[e0]
   exact mA _ _ (by split<;>rfl)
  rw[if_pos h3]
  have e:(if c=l then(⟨r,o+off,none⟩:Addr)else⟨r,o+off+l*ei.size,none⟩)=⟨r,o+(off+l*ei.size),none⟩:=by
   split
   ·have:l=0:=by omega
    subst this;simp
   ·simp[Nat.add_assoc]
  rw[e]
  refine .bT hφ (by omega) ?_
  rw[←hq]
  have:l*ei.size+(c-l)*ei.size=c*ei.size:=by rw[←Nat.add_mul];congr 1;omega
  omega
end
section
variable {P:Program} {w0 w:World} {g:Ctx} {H:aa}
def fj (P:Program)(ty:TypeId):KT→Bool
 | .sc t=>match P.underlying ty with|some d=>tg t d|none=>false
 | .st ks=>match P.underlying ty with|some (.struct fs)=>flat P fs.toList 0 ks&&!P.stoodInHeld ty|_=>false
theorem qa {e:Bool}{n:Nat}{ty:TypeId}{d:TypeDesc}{k:kK}{v:Value}(hu:P.underlying ty=some d)(hk:tg k d=true):(Instr.checkKey e (n+1) ty v).run P w=.ok () w:=by
 rw[Instr.checkKey];simp only[Sem.run_bind,run_underlying hu,Result.andThen_ok]
 cases k<;>cases d<;>simp[tg]at hk<;>cases v<;>rfl
theorem fG {e:Bool}{n:Nat}:∀(fs:List Field) (off:Nat) (ks:List kK) (cs:List T) (xs:Array Value),flat P fs off ks=true→cs.length=ks.length →
  (∀(i:Nat) (t:T),cs[i]?=some t→∃v,xs[off+i]?=some v∧VR g w t v) →
  (forIn fs PUnit.unit (fun f _=>if f.name≠"_" then (do let x ← part f.type xs f.offset;Instr.checkKey e (n+1) f.type x;pure (ForInStep.yield PUnit.unit))
   else pure (ForInStep.yield PUnit.unit)):Sem PUnit).run P w=.ok PUnit.unit w
 | [],off,ks,cs,xs,hf,hl,hc=>by simp
 | f :: fs,off,ks,cs,xs,hf,hl,hc=>by
  cases ks with
  | nil=>simp[flat]at hf
  | cons k ks =>
   cases cs with
   | nil=>simp at hl
   | cons c cs =>
    simp only[flat,Bool.and_eq_true,beq_iff_eq,bne_iff_ne]at hf
    obtain⟨⟨⟨oQ,p3⟩,th⟩,bQ⟩:=hf
    cases hu:P.underlying f.type with
    | none=>simp[hu]at th
    | some de =>
     simp[hu]at th
     obtain⟨va,zi,E5⟩:=hc 0 c rfl
     simp only[Nat.add_zero]at zi
     have ih:=fG (e:=e) (n:=n) fs (off+1) ks cs xs bQ (by simpa using hl) (fun i t hi=>by have:=hc (i+1) t (by simpa using hi);rwa[show off+1+i=off+(i+1) by omega])
     simp only[List.forIn_cons,Sem.run_bind,p3,ne_eq,not_false_eq_true,if_true,oQ,fX hu th zi,Result.andThen_ok,qa hu th,Sem.run_pure]
     exact ih
theorem hZ:∀(ks:List kK) (cs:List T),hasAll ks cs=true→cs.length=ks.length
 | [],[],_=>rfl
 | _ :: ks,_ :: cs,h=>by simp[hasAll]at h;simp[hZ ks cs h.2]
 | [],_ :: _,h=>by simp[hasAll]at h
 | _ :: _,[],h=>by simp[hasAll]at h
theorem et {e:Bool}{ty:TypeId}{kt:KT}{k:T}{vk:Value}(dS:fj P ty kt=true)(hk:VR g w k vk)(h:k.dr kt=true):(Instr.checkKey e 10000 ty vk).run P w=.ok () w:=by
 cases kt with
 | sc t =>
  simp only[fj]at dS
  cases hu:P.underlying ty with
  | none=>simp[hu]at dS
  | some d=>simp[hu]at dS;exact qa (n:=9999) hu dS
 | st ks =>
  simp only[fj]at dS
  cases hu:P.underlying ty with
  | none=>simp[hu]at dS
  | some d =>
   cases d<;>simp[hu]at dS
   rename_i fs
   cases k<;>simp[T.dr]at h
   rename_i cs
   obtain⟨xs,rfl,ti,_⟩:=hk.cf
   show(Instr.checkKey e (9998+1+1) ty _).run P w=_
   rw[Instr.checkKey];simp only[Sem.run_bind,run_underlying hu,Result.andThen_ok]
   rw[←Array.forIn_toList]
   rw[fG (g:=g) (e:=e) (n:=9998) fs.toList 0 ks cs xs.toArray dS.1 (hZ _ _ h) (fun i t hi=>by simpa using ti.cg i t hi)]
   rfl
theorem qb {n:Nat}{ty:TypeId}{kt:KT}{a b:T}{va vb:Value}{r:Bool}(dS:fj P ty kt=true)(ha:VR g w a va)(hb:VR g w b vb)(hk:a.dr kt=true)(he:dj a b=some r) :
  (Op.equalIn (n+1+1) ty va vb).run P w=.ok r w:=by
 cases kt with
 | sc t =>
  simp only[fj]at dS
  cases hu:P.underlying ty with
  | none=>simp[hu]at dS
  | some d =>
   simp[hu]at dS
   have v5:dy a b=some r:=by
    cases a<;>simp[T.dr]at hk<;>(first|exact he|(cases t<;>simp[T.mE]at hk))
   exact nA hu dS ha hb hk v5
 | st ks =>
  simp only[fj]at dS
  cases hu:P.underlying ty with
  | none=>simp[hu]at dS
  | some d =>
   cases d<;>simp[hu]at dS
   rename_i fs
   cases a<;>simp[T.dr]at hk
   rename_i cs
   cases b<;>simp[dj,dy]at he
   rename_i ds
   obtain⟨xs,rfl,ti,_⟩:=ha.cf
   obtain⟨ys,rfl,CD,_⟩:=hb.cf
   exact js hu dS.1 (by simpa using dS.2) hk ti CD he n
theorem mM {t:kK}{d:TypeDesc}{a b:T}{va vb:Value}{r:Bool}(hd:tg t d=true)(ha:VR g w a va)(hb:VR g w b vb)(hk:a.mE t=true)(he:dj a b=some r):Instr.sameNow d va vb=some r:=by
 cases t<;>cases d<;>simp[tg]at hd<;>cases ha<;>simp[T.mE]at hk<;>cases hb<;>simp[dj,dy]at he
 ·obtain⟨rfl,rfl⟩:=he;simp[Instr.sameNow]
 ·subst he;simp[Instr.sameNow,di,beq_toListBytes]
 ·subst he;simp[Instr.sameNow]
theorem kg {ty:TypeId}{kt:KT}{k:T}{vk:Value}(dS:fj P ty kt=true)(hk:VR g w k vk)(h:k.dr kt=true)(es:List (T×T))(ah:List MapEntry)(hl:ah.length=es.length)
  (hh:∀(i:Nat) (e:T×T) (m:MapEntry),es[i]?=some e→ah[i]?=some m→VR g w e.1 m.key∧VR g w e.2 m.val) {r:Option Nat} (hr:bl k es=some r) :
  (Instr.findKey ty vk ah).run P w=.ok (r.bind fun i=>(ah[i]?).map fun m=>(i,m.val)) w:=by
 cases kt with
 | sc t =>
  simp only[fj]at dS
  cases hu:P.underlying ty with
  | none=>simp[hu]at dS
  | some d =>
   simp[hu]at dS
   have key:∀(es:List (T×T)) (ah:List MapEntry) (j:Nat) (r:Option Nat),ah.length=es.length→(∀(i:Nat) (e:T×T) (m:MapEntry),es[i]?=some e→ah[i]?=some m→VR g w e.1 m.key∧VR g w e.2 m.val) →
     bl k es=some r→Instr.findNow d vk ah j=some (r.bind fun i=>(ah[i]?).map fun m=>(j+i,m.val)):=by
    intro es
    induction es with
    | nil =>
     intro ah j r hl _ hr
     simp[bl]at hr;subst hr
     cases ah with
     | nil=>rfl
     | cons _ _=>simp at hl
    | cons e es ih =>
     intro ah j r hl hh hr
     cases ah with
     | nil=>simp at hl
     | cons m ah =>
      have h0:=hh 0 e m rfl rfl
      simp only[bl]at hr
      cases he:dj k e.1 with
      | none=>simp[he]at hr
      | some b =>
       have hs:=mM dS hk h0.1 h he
       cases b with
       | true=>simp[he]at hr;subst hr;simp[Instr.findNow,hs]
       | false =>
        simp only[he,Option.map_eq_some_iff]at hr
        obtain⟨r',h1,rfl⟩:=hr
        simp only[Instr.findNow,hs]
        rw[ih ah (j+1) r' (by simpa using hl) (fun i e' m' a b=>hh (i+1) e' m' (by simpa using a) (by simpa using b)) h1]
        cases r' with
        | none=>rfl
        | some i=>simp;cases ah[i]?<;>simp;omega
   have:=key es ah 0 r hl hh hr
   simp only[Instr.findKey,Sem.run_bind,run_underlying hu,Result.andThen_ok,this,Sem.run_pure]
   simp
 | st ks =>
  have CH:=dS
  simp only[fj]at dS
  cases hu:P.underlying ty with
  | none=>simp[hu]at dS
  | some d =>
   cases d<;>simp[hu]at dS
   rename_i fs
   have key:∀(es:List (T×T)) (ah:List MapEntry) (j:Nat) (r:Option Nat),ah.length=es.length→(∀(i:Nat) (e:T×T) (m:MapEntry),es[i]?=some e→ah[i]?=some m→VR g w e.1 m.key∧VR g w e.2 m.val) →
     bl k es=some r→(Instr.findAsking ty vk ah j).run P w=.ok (r.bind fun i=>(ah[i]?).map fun m=>(j+i,m.val)) w:=by
    intro es
    induction es with
    | nil =>
     intro ah j r hl _ hr
     simp[bl]at hr;subst hr
     cases ah with
     | nil=>rfl
     | cons _ _=>simp at hl
    | cons e es ih =>
     intro ah j r hl hh hr
     cases ah with
     | nil=>simp at hl
     | cons m ah =>
      have h0:=hh 0 e m rfl rfl
      simp only[bl]at hr
      cases he:dj k e.1 with
      | none=>simp[he]at hr
      | some b =>
       have hs:(Op.equal ty vk m.key).run P w=.ok b w:=qb (n:=9998) CH hk h0.1 h he
       cases b with
       | true=>simp[he]at hr;subst hr;simp[Instr.findAsking,hs]
       | false =>
        simp only[he,Option.map_eq_some_iff]at hr
        obtain⟨r',h1,rfl⟩:=hr
        simp only[Instr.findAsking,Sem.run_bind,hs,Result.andThen_ok,Bool.false_eq_true,if_false]
        rw[ih ah (j+1) r' (by simpa using hl) (fun i e' m' a b=>hh (i+1) e' m' (by simpa using a) (by simpa using b)) h1]
        cases r' with
        | none=>rfl
        | some i=>simp;cases ah[i]?<;>simp;omega
   have nC:=key es ah 0 r hl hh hr
   cases ah with
   | nil =>
    simp only[Instr.findKey,Sem.run_bind,run_underlying hu,Result.andThen_ok,Instr.findNow,Sem.run_pure]
    exact nC
   | cons m ah =>
    have:Instr.findNow (.struct fs) vk (m :: ah) 0=none:=by simp[Instr.findNow,Instr.sameNow]
    simp only[Instr.findKey,Sem.run_bind,run_underlying hu,Result.andThen_ok,this]
    simpa using nC
def qc (w:World)(vm:Value)(ah:Array MapEntry):Prop:=(vm=.map none∧ah=#[])∨∃r c,vm=.map (some r)∧w.heap[r]?=some (.map ah c)
theorem oU {m:T}{vm:Value}{es:List (T×T)}(h:SR w0 g H w)(hm:VR g w m vm)(eW:cn H m=some es):∃ah,qc w vm ah∧bB g w es ah:=by
 cases hm<;>simp[cn]at eW
 ·subst eW;exact⟨#[],.inl ⟨rfl,rfl⟩,⟨rfl,by simp⟩⟩
 ·rename_i b r' o q hφ
  cases hb:H[b]? with
  | none=>simp[hb]at eW
  | some y =>
   cases y<;>simp[hb]at eW
   ·subst eW
    obtain⟨_,ah,c,h2,h3,_⟩:=h.dt b _ hb r' o q hφ
    exact⟨ah,.inr ⟨r',c,rfl,h2⟩,h3⟩
   ·subst eW
    obtain⟨r2,o',q',dQ,_,ah,c,h2,h3,_⟩:=h.dt b _ hb
    rw[hφ]at dQ;cases dQ
    exact⟨ah,.inr ⟨r',c,rfl,h2⟩,h3⟩
theorem ib {ty key elem:TypeId}{ei:TypeInfo}{zv vm vk:Value}{ok:Bool}{ah:Array MapEntry}{r:Option (Nat×Value)}(hu:P.underlying ty=some (.map key elem))(hi:P.info? elem=some ei)(hz:ei.zero=some zv)
  (he:qc w vm ah) (hc:(Instr.checkKey ah.isEmpty 10000 key vk).run P w=.ok () w) (hf:(Instr.findKey key vk ah.toList).run P w=.ok r w) :
  (Instr.lookup ty vm vk ok).run P w=.ok (match r with|some (_,v)=>if ok then .tuple #[v,.bool true]else v|none=>if ok then .tuple #[zv,.bool false]else zv) w:=by
 rcases he with⟨rfl,rfl⟩|⟨rr,c,rfl,h2⟩
 ·have B6:(Instr.findKey key vk []).run P w=.ok r w:=hf
  have hP:(Instr.checkKey true 10000 key vk).run P w=.ok () w:=hc
  simp only[Instr.lookup,Sem.run_bind,run_underlying hu,Result.andThen_ok]
  cases r with
  | none=>simp[hP,B6,zeroValue,ar hi,hz]
  | some x=>obtain⟨i,v⟩:=x;simp[hP,B6]
 ·simp only[Instr.lookup,Sem.run_bind,run_underlying hu,Result.andThen_ok]
  cases r with
  | none=>simp[getObj,Sem.run,h2,hc,hf,zeroValue,ar hi,hz]
  | some x=>obtain⟨i,v⟩:=x;simp[getObj,Sem.run,h2,hc,hf]
theorem nD {ty key elem:TypeId}{ei:TypeInfo}{zv:Value}{kt:KT}{z m k t:T}{ok:Bool}{vm vk:Value}{es:List (T×T)}{r:Option Nat}(hu:P.underlying ty=some (.map key elem))(hi:P.info? elem=some ei)(hz:ei.zero=some zv)(iU:fh zv=some z)
  (dS:fj P key kt=true) (h:SR w0 g H w) (hm:VR g w m vm) (hk:VR g w k vk) (mN:k.dr kt=true)
  (eW:cn H m=some es) (hr:bl k es=some r)
  (ht:(match r with|some i=>(es[i]?).map fun e=>if ok then T.bg [e.2,.bool true]else e.2|none=>some (if ok then .bg [z,.bool false]else z))=some t):aG P w0 g H w (Instr.lookup ty vm vk ok) t H:=by
 obtain⟨ah,E7,hE⟩:=oU h hm eW
 have hf:=kg dS hk mN es ah.toList (by simpa using hE.1) (fun i e m a b=>hE.2 i e m a (by simpa using b)) hr
 have hc:=et (e:=ah.isEmpty) dS hk mN
 have E8:VR g w z zv:=eL iU
 cases r with
 | none =>
  simp only[Option.some.injEq]at ht
  subst ht
  refine aG.same h (ib hu hi hz E7 hc hf) ?_
  cases ok
  ·exact E8
  ·exact ax.bg (ax.cons E8 (ax.cons (.bool _) ax.nil))
 | some i =>
  cases he:es[i]? with
  | none=>simp[he]at ht
  | some e =>
   have aC:i<ah.size:=by rw[hE.1];exact(List.getElem?_eq_some_iff.1 he).1
   have xy:ah[i]?=some ah[i]:=Array.getElem?_eq_getElem aC
   have hv:=(hE.2 i e _ he xy).2
   simp only[he,Option.map_some,Option.some.injEq]at ht
   subst ht
   have hx:((some i:Option Nat).bind fun i=>(ah.toList[i]?).map fun m=>(i,m.val))=some (i,ah[i].val):=by simp[aC]
   rw[hx]at hf
   refine aG.same h (ib hu hi hz E7 hc hf) ?_
   cases ok
   ·exact hv
   ·exact ax.bg (ax.cons hv (ax.cons (.bool _) ax.nil))
theorem ue {vs:List T}{i:Nat}{t:T}{vx:Value}(h:SR w0 g H w)(hx:VR g w (.bg vs) vx)(he:vs[i]?=some t):aG P w0 g H w (Instr.extract vx i) t H:=by
 obtain⟨xs,rfl,ti⟩:=hx.tJ
 obtain⟨v,h1,h2⟩:=ti.cg i t he
 exact aG.same h (by simp at h1;simp[Instr.extract,h1]) h2
theorem xz {rt:TypeId}{dp:Array TypeId}{k k':IntKind}{a b:Int}{vx vy:Value}(h:SR w0 g H w)(hx:VR g w (.int k a) vx)(hy:VR g w (.int k' b) vy):aG P w0 g H w (Builtin.min_ dp rt #[vx,vy]) (.int k (if b<a then b else a)) H:=by
 cases hx;cases hy
 exact aG.same h (by simp[Builtin.min_,Builtin.min2]) (.int _ _)
theorem xA {rt:TypeId}{dp:Array TypeId}{k k':IntKind}{a b:Int}{vx vy:Value}(h:SR w0 g H w)(hx:VR g w (.int k a) vx)(hy:VR g w (.int k' b) vy):aG P w0 g H w (Builtin.max_ dp rt #[vx,vy]) (.int k (if b>a then b else a)) H:=by
 cases hx;cases hy
 exact aG.same h (by simp[Builtin.max_,Builtin.max2]) (.int _ _)
end
section
variable {P:Program} {w0 w:World} {g:Ctx} {H:aa}
def ct:Nat→Nat→Prop:=fun _ _=>False
def cV:Nat→Prop:=fun _=>False
theorem Tr.drew (w:World):Tr w w.drew ct cV:=⟨⟨Nat.le_refl _,fun _ _ _ _=>rfl,fun _ _ _ h=>h,fun _ _ _ _ h=>h,fun _ _ _ _=>rfl,rfl,rfl⟩,fun _ _ _=>rfl⟩
theorem Tr.refl (w:World):Tr w w ct cV:=⟨⟨Nat.le_refl _,fun _ _ _ _=>rfl,fun _ _ _ h=>h,fun _ _ _ _ h=>h,fun _ _ _ _=>rfl,rfl,rfl⟩,fun _ _ _=>rfl⟩
theorem Tr.alloc (w:World)(o:Obj):Tr w (w.alloc o) ct cV where
 size:=by simp
 cell r j hr _:=World.cell?_alloc_lt w o ⟨r,j,none⟩ hr
 pF r j hr:=World.frozen?_alloc_old w o ⟨r,j,none⟩ (Nat.ne_of_lt hr)
 ff r j hr h:=by rw[World.cell?_alloc_lt w o ⟨r,j,none⟩ hr];exact h
 maps r x _ _ h:=by
  have hr:r<w.heap.size:=(Array.getElem?_eq_some_iff.1 h).1
  simp only[World.alloc,Array.getElem?_push];rw[if_neg (by omega)];exact h
 eo r hr _ _:=by simp only[World.alloc,Array.getElem?_push];rw[if_neg (by omega)]
 env:=⟨rfl,rfl⟩
theorem Tr.trans {w w' zg:World}{S:Nat→Nat→Prop}{M:Nat→Prop}(h:Tr w w' S M)(h':Tr w' zg S M):Tr w zg S M where
 size:=Nat.le_trans h.size h'.size
 cell r j hr hs:=(h'.cell r j (Nat.lt_of_lt_of_le hr h.size) hs).trans (h.cell r j hr hs)
 pF r j hr:=(h'.pF r j (Nat.lt_of_lt_of_le hr h.size)).trans (h.pF r j hr)
 ff r j hr hs:=h'.ff r j (Nat.lt_of_lt_of_le hr h.size) (h.ff r j hr hs)
 maps r x hm hs h1:=h'.maps r x hm hs (h.maps r x hm hs h1)
 eo r hr hm hs:=(h'.eo r (Nat.lt_of_lt_of_le hr h.size) hm hs).trans (h.eo r hr hm hs)
 env:=⟨h'.env.1.trans h.env.1,h'.env.2.trans h.env.2⟩
theorem aV (r:Nat):∀(vs:List Value) (o:Nat) (w:World) (r' j:Nat),¬(r'=r∧o≤j∧j<o+vs.length)→(w.setCells r o vs).cell? ⟨r',j,none⟩=w.cell? ⟨r',j,none⟩
 | [],_,_,_,_,_=>rfl
 | v :: vs,o,w,r',j,h=>by
  rw[World.setCells,aV r vs (o+1) _ r' j (by simp at h ⊢;omega),World.cell?_setCell_other]
  intro e
  simp at e
  exact h ⟨e.1.symm,by omega,by simp;omega⟩
theorem aX (r:Nat):∀(vs:List Value) (o:Nat) (w:World),(∀j,o≤j→j<o+vs.length→(w.cell? ⟨r,j,none⟩).isSome=true)→∀(i:Nat) (v:Value),vs[i]?=some v→(w.setCells r o vs).cell? ⟨r,o+i,none⟩=some v
 | [],_,_,_,i,v,h=>by simp at h
 | u :: vs,o,w,hs,i,v,h=>by
  rw[World.setCells]
  cases i with
  | zero =>
   simp at h;subst h
   rw[aV r vs (o+1) _ r _ (by omega)]
   obtain⟨x,hx⟩:=Option.isSome_iff_exists.1 (hs o (Nat.le_refl _) (by simp))
   exact World.cell?_setCell_same w ⟨r,o,none⟩ u hx
  | succ i =>
   have:=aX r vs (o+1) (w.setCell ⟨r,o,none⟩ u) (fun j h1 h2=>by
    rw[World.cell?_setCell_other _ _ _ _ (by simp;omega)]
    exact hs j (by omega) (by simp;omega)) i v (by simpa using h)
   rwa[show o+(i+1)=o+1+i by omega]
theorem bw (r:Nat):∀(vs:List Value) (o:Nat) (w:World),(w.setCells r o vs).heap.size=w.heap.size
 | [],_,_=>rfl
 | v :: vs,o,w=>by rw[World.setCells,bw r vs,World.size_setCell]
theorem eX (r:Nat):∀(vs:List Value) (o:Nat) (w:World) (r':Nat),r'≠r→(w.setCells r o vs).heap[r']?=w.heap[r']?
 | [],_,_,_,_=>rfl
 | v :: vs,o,w,r',h=>by
  rw[World.setCells,eX r vs _ _ r' h]
  simp only[World.setCell,Array.getElem?_modify];rw[if_neg (fun e=>h e.symm)]
theorem fH (r:Nat):∀(vs:List Value) (o:Nat) (w:World) (r':Nat) (x:Obj),cq x=true→w.heap[r']?=some x→(w.setCells r o vs).heap[r']?=some x
 | [],_,_,_,_,_,h=>h
 | v :: vs,o,w,r',x,hs,h=>by
  rw[World.setCells]
  refine fH r vs _ _ r' x hs ?_
  simp only[World.setCell,Array.getElem?_modify]
  split
  ·rename_i e;rw[h];cases x<;>simp[cq]at hs<;>rfl
  ·exact h
theorem fI (r:Nat):∀(vs:List Value) (o:Nat) (w:World),(w.setCells r o vs).os=w.os∧(w.setCells r o vs).output=w.output
 | [],_,_=>⟨rfl,rfl⟩
 | v :: vs,o,w=>by rw[World.setCells];exact fI r vs _ _
def lq (r o n:Nat):Nat→Nat→Prop:=fun r' j=>r'=r∧o≤j∧j<o+n
theorem Tr.setCells (w:World)(r o:Nat)(vs:List Value)(hs:∀j,o≤j→j<o+vs.length→(w.cell? ⟨r,j,none⟩).isSome=true):Tr w (w.setCells r o vs) (lq r o vs.length) cV where
 size:=by rw[bw];exact Nat.le_refl _
 cell r' j _ h:=aV r vs o w r' j h
 pF r' j _:=World.frozen?_setCells r vs o w _
 ff r' j _ h:=by
  by_cases e:r'=r∧o≤j∧j<o+vs.length
  ·obtain⟨rfl,e1,e2⟩:=e
   have hi:j-o<vs.length:=by omega
   have:=aX r' vs o w hs (j-o) _ (List.getElem?_eq_getElem hi)
   rw[show o+(j-o)=j by omega]at this
   rw[this];rfl
  ·rw[aV r vs o w r' j e];exact h
 maps r' x _ hs h:=fH r vs o w r' x hs h
 eo r' _ _ h:=by
  by_cases e:r'=r
  ·cases vs with
   | nil=>rfl
   | cons v vs=>exact absurd ⟨e,Nat.le_refl _,by simp⟩ (h o)
  ·exact eX r vs o w r' e
 env:=fI r vs o w
def Ctx.row (g:Ctx)(r:Nat)(f:Nat→Ow):Ctx:={ g with κ:=fun r' j=>if r'=r then f j else g.κ r' j }
def Ctx.at (g:Ctx)(b:Nat)(x:Nat×Nat×Nat):Ctx:={ g with φ:=fun b'=>if b'=b then some x else g.φ b' }
def Ctx.tok (g:Ctx)(t e:Nat)(x:Nat×Nat×Nat):Ctx:={ g with π:=fun t' e'=>if t'=t∧e'=e then some x else g.π t' e' }
theorem Le.cI {w':World}{g':Ctx}{S:Nat→Nat→Prop}{M:Nat→Prop}(tr:Tr w w' S M)(hφ:∀b x,g.φ b=some x→g'.φ b=some x)(hκ:∀r o,g.κ r o=.cF→g'.κ r o=.cF)(hπ:∀t e x,g.π t e=some x→g'.π t e=some x)
  (hS:∀r j,S r j→g.κ r j≠.cF) (FT:g'.ck=g.ck:=by rfl):Le g w g' w' :=
 ⟨hφ,hκ,hπ,fun r o v hk hc=>by rw[tr.cell r o (dP hc) (fun hs=>hS r o hs hk)];exact hc,FT⟩
theorem SR.zm {c:Array Value}{ty:TypeId}{fr:Nat×Nat}{w1:World}(h:SR w0 g H w)(tr:Tr w w1 ct cV)(hz:w1.heap.size=w.heap.size) :
  Le g w (g.row w.heap.size fun _=>.cF) (w1.alloc (.cells c ty fr))∧SR w0 (g.row w.heap.size fun _=>.cF) H (w1.alloc (.cells c ty fr))∧Fr g H (g.row w.heap.size fun _=>.cF) H ∧
  ∀(j:Nat) (v:Value),c[j]?=some v→my (g.row w.heap.size fun _=>.cF) (w1.alloc (.cells c ty fr)) w.heap.size j v:=by
 have jv:=tr.trans (Tr.alloc w1 (.cells c ty fr))
 have le:Le g w (g.row w.heap.size fun _=>.cF) (w1.alloc (.cells c ty fr)):=Le.cI jv (fun _ _ h=>h) (fun r o hk=>by simp only[Ctx.row];split;rfl;exact hk) (fun _ _ _ h=>h) (fun _ _ hs=>hs.elim)
 refine⟨le,?_,⟨Nat.le_refl _,fun _ _ a _ b=>⟨a,b⟩⟩,fun j v hj=>⟨by simp[Ctx.row],?_⟩⟩
 ·refine h.step (fun _=>False) jv le (fun _ _ hs=>hs.elim) (fun _ hm=>hm.elim) (fun r o hr=>?_) h.gN h.cp (fun _ _ _=>rfl) (fun r j b _=>?_) (fun _ _ _ _=>rfl) (fun b x hx=>.inl ⟨fun hf=>hf,hx⟩)
  ·simp at hr
   simp only[Ctx.row];rw[if_neg (by omega)];exact h.fresh r o (by omega)
  ·have aF:∀ow,g.κ r j=ow→ow≠.free→r≠w.heap.size:=by rintro ow e hn rfl;exact hn (e▸h.fresh _ j (Nat.le_refl _))
   constructor<;>intro e<;>simp only[Ctx.row]<;>rw[if_neg (aF _ e (by simp))]<;>exact e
 ·rw[←hz]
  have:(w1.alloc (.cells c ty fr)).heap[w1.heap.size]?=some (.cells c ty fr):=by
   show(w1.heap.push (.cells c ty fr))[w1.heap.size]?=_
   simp
  unfold World.cell?
  rw[this]
  exact hj
theorem SR.cF {c:Array Value}{ty:TypeId}{w1:World}(h:SR w0 g H w)(tr:Tr w w1 ct cV)(hz:w1.heap.size=w.heap.size) :
  Le g w (g.row w.heap.size fun _=>.cF) (w1.alloc (.cells c ty))∧SR w0 (g.row w.heap.size fun _=>.cF) H (w1.alloc (.cells c ty))∧Fr g H (g.row w.heap.size fun _=>.cF) H ∧
  ∀(j:Nat) (v:Value),c[j]?=some v→my (g.row w.heap.size fun _=>.cF) (w1.alloc (.cells c ty)) w.heap.size j v:=h.zm tr hz
theorem SR.mut {c:Array Value}{ty:TypeId}{w1:World}{H':aa}{b:Nat}{cs:List T}(h:SR w0 g H w)(tr:Tr w w1 ct cV)(hz:w1.heap.size=w.heap.size)
  (hb:H'[b]?=some (.cells cs)) (hn:g.φ b=none) (hH:∀b' x,b'≠b→H'[b']?=some x→H[b']?=some x∨x=.dead) (hl:H.length≤H'.length) (yU:∀b' x,H[b']?=some x→(∀e,x≠.tok e)→g.φ b'=none→b'≠b→H'[b']?=some x)
  (hc:∀(i:Nat) (t:T),cs[i]?=some t→t.one=true∧∃v,c[i]?=some v∧VR g w t v) :
  Le g w ((g.row w.heap.size fun _=>.mut b).at b (w.heap.size,0,c.size)) (w1.alloc (.cells c ty))∧SR w0 ((g.row w.heap.size fun _=>.mut b).at b (w.heap.size,0,c.size)) H' (w1.alloc (.cells c ty)) ∧
  (∀b' x,H[b']?=some x→(∀e,x≠.tok e)→g.φ b'=none→b'≠b→H'[b']?=some x∧((g.row w.heap.size fun _=>.mut b).at b (w.heap.size,0,c.size)).φ b'=none):=by
 have jv:=tr.trans (Tr.alloc w1 (.cells c ty))
 have aF:∀r j ow,g.κ r j=ow→ow≠.free→r≠w.heap.size:=by rintro r j ow e hn rfl;exact hn (e▸h.fresh _ j (Nat.le_refl _))
 have le:Le g w ((g.row w.heap.size fun _=>.mut b).at b (w.heap.size,0,c.size)) (w1.alloc (.cells c ty)):=Le.cI jv
  (fun b' x hx=>by simp only[Ctx.at,Ctx.row];split;rename_i e;subst e;rw[hn]at hx;simp at hx;exact hx)
  (fun r o hk=>by simp only[Ctx.row,Ctx.at];rw[if_neg (aF r o _ hk (by simp))];exact hk) (fun _ _ _ h=>h) (fun _ _ hs=>hs.elim)
 refine⟨le,?_,fun b' x a a' d e=>⟨yU b' x a a' d e,by simp only[Ctx.at,Ctx.row];rw[if_neg e];exact d⟩⟩
 refine h.step (fun b'=>b'=b) jv le (fun _ _ hs=>hs.elim) (fun _ hm=>hm.elim) (fun r o hr=>?_) (fun b' x hx=>?_) (fun t e x hx=>Nat.lt_of_lt_of_le (h.cp t e x hx) hl) (fun b' _ cU=>?_) (fun r j b' cU=>?_) (fun _ _ _ _=>rfl) (fun b' x hx=>?_)
 ·simp at hr
  simp only[Ctx.row,Ctx.at];rw[if_neg (by omega)];exact h.fresh r o (by omega)
 ·simp only[Ctx.at,Ctx.row]at hx
  split at hx
  ·rename_i e;subst e;exact(List.getElem?_eq_some_iff.1 hb).1
  ·exact Nat.lt_of_lt_of_le (h.gN b' x hx) hl
 ·simp only[Ctx.at,Ctx.row];rw[if_neg cU]
 ·constructor<;>intro e<;>simp only[Ctx.row,Ctx.at]<;>rw[if_neg (aF r j _ e (by simp))]<;>exact e
 ·by_cases e:b'=b
  ·subst e
   right
   rw[hb]at hx;cases hx
   intro r o q hq
   simp only[Ctx.at,if_true,Option.some.injEq,Prod.mk.injEq]at hq
   obtain⟨rfl,rfl,rfl⟩:=hq
   have kN:∀i,i<cs.length→i<c.size:=fun i hi=>by
    obtain⟨_,v,hv,_⟩:=hc i _ (List.getElem?_eq_getElem hi)
    exact(Array.getElem?_eq_some_iff.1 hv).1
   refine⟨?_,fun j _ hj=>⟨by simp[Ctx.row,Ctx.at],fun j0=>by rw[←hz];simp,by rw[←hz,World.cell?_alloc_new,Array.getElem?_eq_getElem hj];rfl⟩,fun i t hi=>?_⟩
   ·cases gY:cs.length with
    | zero=>omega
    | succ n=>have:=kN n (by omega);omega
   ·obtain⟨h1,v,h2,h3⟩:=hc i t hi
    exact⟨h1,v,by rw[←hz,World.cell?_alloc_new,Nat.zero_add];exact h2,h3.mono le⟩
  ·rcases hH b' x e hx with ej|rfl
   ·exact .inl ⟨e,ej⟩
   ·right;trivial
theorem bm (H:aa)(x:B):(H++[x])[H.length]?=some x:=by simp
theorem aM {H:aa}{x y:B}{b:Nat}(hb:b≠H.length)(h:(H++[x])[b]?=some y):H[b]?=some y:=by
 rw[List.getElem?_append]at h
 split at h
 ·exact h
 ·rename_i aC
  have:b-H.length≠0:=by omega
  cases hk:b-H.length with
  | zero=>omega
  | succ n=>simp[hk]at h
theorem bh {H:aa}{x y:B}{b:Nat}(h:H[b]?=some y):(H++[x])[b]?=some y:=by
 rw[List.getElem?_append_left (List.getElem?_eq_some_iff.1 h).1];exact h
theorem SR.tj (h:SR w0 g H w){b:Nat}(hb:H.length≤b):g.φ b=none:=by
 cases e:g.φ b with
 | none=>rfl
 | some x=>have:=h.gN b x e;omega
theorem SR.CI (h:SR w0 g H w){t e:Nat}(hb:H.length≤t):g.π t e=none:=by
 cases e':g.π t e with
 | none=>rfl
 | some x=>have:=h.cp t e x e';omega
theorem SR.cP {c:Array Value}{ty:TypeId}{w1:World}{cs:List T}(h:SR w0 g H w)(tr:Tr w w1 ct cV)(hz:w1.heap.size=w.heap.size)
  (hc:∀(i:Nat) (t:T),cs[i]?=some t→t.one=true∧∃v,c[i]?=some v∧VR g w t v) :
  ∃g',Le g w g' (w1.alloc (.cells c ty))∧SR w0 g' (H++[.cells cs]) (w1.alloc (.cells c ty))∧Fr g H g' (H++[.cells cs])∧g'.φ H.length=some (w.heap.size,0,c.size):=by
 obtain⟨le,sr,fr⟩:=h.mut (H':=H++[.cells cs]) (b:=H.length) (ty:=ty) tr hz (bm _ _) (h.tj (Nat.le_refl _)) (fun b' x e hx=>.inl (aM e hx)) (by simp) (fun b' x hx _ _ _=>bh hx) hc
 exact⟨_,le,sr,⟨by simp,fun b x a a' d=>fr b x a a' d (by have:=(List.getElem?_eq_some_iff.1 a).1;omega)⟩,by simp[Ctx.at]⟩
theorem ax.xB {cs:List T}{vs:List Value}(h:ax g w cs vs)(ho:aR cs):∀(i:Nat) (t:T),cs[i]?=some t→t.one=true∧∃v,vs.toArray[i]?=some v∧VR g w t v :=
 fun i t hi=>⟨ho t (List.mem_of_getElem? hi),h.cg i t hi⟩
theorem oV {ty:TypeId}{i:TypeInfo}{zv:Value}{z:List T}(hi:P.info? ty=some i)(hz:i.zero=some zv)(hc:bO zv.cells.toList=some z)(h:SR w0 g H w) :
  aG P w0 g H w (Instr.alloc ty true (.tuple #[])) (.ptr H.length 0) (H++[.cells z]):=by
 obtain⟨hv,ho⟩:=bu (g:=g) (w:=w) _ _ hc
 obtain⟨g',le,sr,fr,hφ⟩:=h.cP (c:=zv.cells) (ty:=ty) (w1:=w) (Tr.refl w) rfl (by simpa using hv.xB ho)
 refine⟨.pointer (some ⟨w.heap.size,0,none⟩),_,g',?_,le,sr,.ptr hφ,fr⟩
 simp[Instr.alloc,zeroValue,ar hi,hz,newVar,newRow]
theorem uf {ty:TypeId}{x:T}{cs:List T}{vx:Value}(h:SR w0 g H w)(hx:VR g w x vx)(hc:x.cells?=some cs) :
  aG P w0 g H w (Instr.box ty vx) (.ptr H.length 0) (H++[.cells cs]):=by
 obtain⟨hv,ho⟩:=dC hx hc
 obtain⟨g',le,sr,fr,hφ⟩:=h.cP (c:=vx.cells) (ty:=ty) (w1:=w) (Tr.refl w) rfl (by simpa using hv.xB ho)
 refine⟨.pointer (some ⟨w.heap.size,0,none⟩),_,g',?_,le,sr,.ptr hφ,fr⟩
 simp[Instr.box,newVar,newRow]
theorem SR.qd {b:Nat}{H':aa}(h:SR w0 g H w)(hb:H'[b]?=some (.map []))(hn:g.φ b=none)(hH:∀b' x,b'≠b→H'[b']?=some x→H[b']?=some x)(hl:H.length≤H'.length) :
  Le g w ((g.row w.heap.size fun _=>.mut b).at b (w.heap.size,0,0)) (w.alloc (.map #[] 0))∧SR w0 ((g.row w.heap.size fun _=>.mut b).at b (w.heap.size,0,0)) H' (w.alloc (.map #[] 0)):=by
 have jv:=Tr.alloc w (.map #[] 0)
 have aF:∀r j ow,g.κ r j=ow→ow≠.free→r≠w.heap.size:=by rintro r j ow e hn rfl;exact hn (e▸h.fresh _ j (Nat.le_refl _))
 have le:Le g w ((g.row w.heap.size fun _=>.mut b).at b (w.heap.size,0,0)) (w.alloc (.map #[] 0)):=Le.cI jv
  (fun b' x hx=>by simp only[Ctx.at,Ctx.row];split;rename_i e;subst e;rw[hn]at hx;simp at hx;exact hx)
  (fun r o hk=>by simp only[Ctx.row,Ctx.at];rw[if_neg (aF r o _ hk (by simp))];exact hk) (fun _ _ _ h=>h) (fun _ _ hs=>hs.elim)
 refine⟨le,?_⟩
 refine h.step (fun b'=>b'=b) jv le (fun _ _ hs=>hs.elim) (fun _ hm=>hm.elim) (fun r o hr=>?_) (fun b' x hx=>?_) (fun t e x hx=>Nat.lt_of_lt_of_le (h.cp t e x hx) hl) (fun b' _ cU=>?_) (fun r j b' cU=>?_) (fun _ _ _ _=>rfl) (fun b' x hx=>?_)
 ·simp at hr
  simp only[Ctx.row,Ctx.at];rw[if_neg (by omega)];exact h.fresh r o (by omega)
 ·simp only[Ctx.at,Ctx.row]at hx
  split at hx
  ·rename_i e;subst e;exact(List.getElem?_eq_some_iff.1 hb).1
  ·exact Nat.lt_of_lt_of_le (h.gN b' x hx) hl
 ·simp only[Ctx.at,Ctx.row];rw[if_neg cU]
 ·constructor<;>intro e<;>simp only[Ctx.row,Ctx.at]<;>rw[if_neg (aF r j _ e (by simp))]<;>exact e
 ·by_cases e:b'=b
  ·subst e
   right
   rw[hb]at hx;cases hx
   intro r o q hq
   simp only[Ctx.at,if_true,Option.some.injEq,Prod.mk.injEq]at hq
   obtain⟨rfl,rfl,rfl⟩:=hq
   exact⟨by simp[Ctx.row,Ctx.at],#[],0,by show(w.heap.push _)[w.heap.size]?=_;simp,⟨rfl,by simp⟩,by simp[bV]⟩
  ·exact .inl ⟨e,hH b' x e hx⟩
theorem ug {ty:TypeId}(h:SR w0 g H w):aG P w0 g H w (Instr.makeMap ty none) (.map H.length) (H++[.map []]):=by
 obtain⟨le,sr⟩:=h.qd (H':=H++[.map []]) (b:=H.length) (bm _ _) (h.tj (Nat.le_refl _)) (fun b' x e hx=>aM e hx) (by simp)
 refine⟨.map (some w.heap.size),_,_,?_,le,sr,.map (r:=w.heap.size) (o:=0) (q:=0) (by simp[Ctx.at]),by simp,fun b x a _ d=>⟨bh a,?_⟩⟩
 ·simp[Instr.makeMap]
 ·have:=(List.getElem?_eq_some_iff.1 a).1
  simp only[Ctx.at,Ctx.row];rw[if_neg (by omega)];exact d
end
section
variable {P:Program} {w0 w:World} {g:Ctx} {H:aa}
theorem bj {H:aa}{b b':Nat}{x y:B}(aC:b<H.length)(h:(H.set b x)[b']?=some y):(b'=b∧y=x)∨(b'≠b∧H[b']?=some y):=by
 rw[List.getElem?_set]at h
 split at h
 ·rename_i e;subst e;simp[aC]at h;exact .inl ⟨rfl,h.symm⟩
 ·rename_i e;exact .inr ⟨fun e'=>e e'.symm,h⟩
theorem bE {H:aa}{b b':Nat}{x y:B}(h:H[b']?=some y)(aF:b'≠b):(H.set b x)[b']?=some y:=by
 rw[List.getElem?_set,if_neg (fun e=>aF e.symm)];exact h
theorem SR.store {b off r o q:Nat}{cs ts:List T}{vs:List Value}(h:SR w0 g H w)(hb:H[b]?=some (.cells cs))(hφ:g.φ b=some (r,o,q))(hle:off+ts.length≤cs.length)(hv:ax g w ts vs)(ho:aR ts) :
  Le g w g (w.setCells r (o+off) vs)∧SR w0 g (H.set b (.cells (cs.take off++ts++cs.drop (off+ts.length)))) (w.setCells r (o+off) vs):=by
 have fk:b<H.length:=(List.getElem?_eq_some_iff.1 hb).1
 obtain⟨h1,h2,h3⟩:=h.dt b _ hb r o q hφ
 have hl:=hv.1
 have hs:∀j,o+off≤j→j<o+off+vs.length→(w.cell? ⟨r,j,none⟩).isSome=true:=fun j a c=>(h2 j (by omega) (by omega)).2.2
 have tr:=Tr.setCells w r (o+off) vs hs
 have hS:∀r' j,lq r (o+off) vs.length r' j→g.κ r' j=.mut b:=by
  rintro r' j⟨rfl,a,c⟩;exact(h2 j (by omega) (by omega)).1
 have le:Le g w g (w.setCells r (o+off) vs):=Le.cI tr (fun _ _ h=>h) (fun _ _ h=>h) (fun _ _ _ h=>h) (fun r' j gO e=>by rw[hS r' j gO]at e;cases e)
 refine⟨le,h.step (fun b'=>b'=b) tr le (fun r' j gO=>.inr (.inl ⟨b,hS r' j gO,rfl⟩)) (fun _ hm=>hm.elim) (fun r' j hr=>h.fresh r' j (by rwa[bw]at hr)) (fun b' x hx=>by rw[List.length_set];exact h.gN b' x hx)
  (fun t e x hx=>by rw[List.length_set];exact h.cp t e x hx) (fun _ _ _=>rfl) (fun _ _ _ _=>⟨id,id⟩) (fun _ _ _ _=>rfl) (fun b' x hx=>?_)⟩
 rcases bj fk hx with⟨rfl,rfl⟩|⟨aF,ej⟩
 ·right
  intro r' o' q' dQ
  rw[hφ]at dQ;cases dQ
  have hlen:(cs.take off++ts++cs.drop (off+ts.length)).length=cs.length:=by simp;omega
  refine⟨by rw[hlen];exact h1,fun j a c=>⟨(h2 j a c).1,fun j0=>by rw[World.frozen?_setCells];exact(h2 j a c).2.1 j0,tr.ff r j ?_ (h2 j a c).2.2⟩,fun i t hi=>?_⟩
  ·obtain⟨x,hx⟩:=Option.isSome_iff_exists.1 (h2 j a c).2.2;exact dP hx
  ·have fV:i<cs.length:=by rw[←hlen];exact(List.getElem?_eq_some_iff.1 hi).1
   by_cases jc:off≤i∧i<off+ts.length
   ·have ht:ts[i-off]?=some t:=by
     rw[List.append_assoc,List.getElem?_append_right (by simp;omega),List.getElem?_append_left (by simp;omega)]at hi
     rw[←hi];congr 1;simp;omega
    have aC:i-off<vs.length:=by omega
    refine⟨ho t (List.mem_of_getElem? ht),vs[i-off],?_,(hv.2 _ t _ ht (List.getElem?_eq_getElem aC)).mono le⟩
    have:=aX r vs (o+off) w hs (i-off) _ (List.getElem?_eq_getElem aC)
    rwa[show o+off+(i-off)=o+i by omega]at this
   ·have ht:cs[i]?=some t:=by
     by_cases aC:i<off
     ·rw[List.append_assoc,List.getElem?_append_left (by simp;omega),List.getElem?_take,if_pos aC]at hi;exact hi
     ·rw[List.getElem?_append_right (by simp;omega),List.getElem?_drop]at hi
      rw[←hi];congr 1;simp;omega
    obtain⟨a,v,xC,xD⟩:=h3 i t ht
    refine⟨a,v,?_,xD.mono le⟩
    rw[aV r vs (o+off) w r (o+i) (by omega)];exact xC
 ·exact .inl ⟨aF,ej⟩
theorem ki {ty:TypeId}{i:TypeInfo}{v:Value}{r o:Nat}(hi:P.info? ty=some i)(cW:v.cells.size=i.size)(hc:∀j,j<v.cells.toList.length→(w.cell? ⟨r,o+j,none⟩).isSome=true)
  (hf:∀j,j<v.cells.toList.length→w.frozen? ⟨r,o+j,none⟩=false) (h1:∀x∈v.cells.toList,x.oneCell'=true) :
  (storeVar ty ⟨r,o,none⟩ v).run P w=.ok () (w.setCells r o v.cells.toList):=by
 have:=run_storeCells_cells (P:=P) r o v.cells.toList 0 w (by simpa using hc) (by simpa using hf) h1
 simp[storeVar,sizeOf,ar hi,cW]
 simpa using this
theorem xE {ty:TypeId}{i:TypeInfo}{p x:T}{vp vx:Value}{ts:List T}{H':aa}(hi:P.info? ty=some i)(h:SR w0 g H w)(hp:VR g w p vp)(hx:VR g w x vx)(hc:x.cells?=some ts)(hn:ts.length=i.size)(he:tC H ts p=some H') :
  ∃w' g',(Instr.storeAt ty vp vx).run P w=.ok () w'∧Le g w g' w'∧SR w0 g' H' w'∧Fr g H g' H':=by
 obtain⟨hv,ho⟩:=dC hx hc
 cases hp<;>simp only[tC]at he<;>(try (simp at he;done))
 rename_i b off r o q hφ
 cases hb:H[b]? with
 | none=>simp[hb]at he
 | some y =>
  cases y<;>simp only[hb]at he<;>(try (simp at he;done))
  rename_i cs
  split at he
  ·rename_i hle
   simp only[Option.some.injEq]at he;subst he
   have fk:b<H.length:=(List.getElem?_eq_some_iff.1 hb).1
   obtain⟨h1,h2,h3⟩:=h.dt b _ hb r o q hφ
   obtain⟨le,sr⟩:=h.store hb hφ hle hv ho
   have hl:=hv.1
   refine⟨_,g,?_,le,sr,by simp,fun b' y' a _ d=>⟨bE a ?_,d⟩⟩
   ·have:=ki (P:=P) (w:=w) (ty:=ty) (r:=r) (o:=o+off) hi (v:=vx) (by rw[←hn,hl];simp) (fun j hj=>(h2 _ (by omega) (by omega)).2.2) (fun j hj=>(h2 (o+off+j) (by omega) (by omega)).2.1 _) (hv.dn ho)
    simpa[Instr.storeAt,Instr.sureAddr]using this
   ·rintro rfl;rw[hφ]at d;cases d
  ·simp at he
def World.aI (w:World)(r:Nat)(o:Obj):World:={ w with heap:=w.heap.setIfInBounds r o }
theorem ic (w:World){r r':Nat}(o:Obj)(h:r'≠r):(World.aI w r o).heap[r']?=w.heap[r']?:=by
 unfold World.aI;simp only[Array.getElem?_setIfInBounds];rw[if_neg (fun e=>h e.symm)]
theorem ie (w:World){r:Nat}(o:Obj)(h:r<w.heap.size):(World.aI w r o).heap[r]?=some o:=by
 unfold World.aI;simp[h]
theorem lr (w:World){r:Nat}{x x':Obj}(hs:cq x=true)(gO:cq x'=true)(h:w.heap[r]?=some x)(a:Addr):(World.aI w r x').cell? a=w.cell? a:=by
 have aC:r<w.heap.size:=(Array.getElem?_eq_some_iff.1 h).1
 unfold World.cell?
 by_cases e:a.block=r
 ·rw[e,ie w _ aC,h]
  cases x<;>simp[cq]at hs<;>cases x'<;>simp[cq]at gO<;>rfl
 ·rw[ic w _ e]
theorem mO (w:World){r:Nat}{x x':Obj}(hs:cq x=true)(gO:cq x'=true)(h:w.heap[r]?=some x)(a:Addr):(World.aI w r x').frozen? a=w.frozen? a:=by
 have aC:r<w.heap.size:=(Array.getElem?_eq_some_iff.1 h).1
 unfold World.frozen?
 by_cases e:a.block=r
 ·rw[e,ie w _ aC,h]
  cases x<;>simp[cq]at hs<;>cases x'<;>simp[cq]at gO<;>rfl
 ·rw[ic w _ e]
theorem Tr.mP (w:World)(r:Nat){x x':Obj}(hs:cq x=true)(gO:cq x'=true)(h:w.heap[r]?=some x):Tr w (World.aI w r x') ct (fun r'=>r'=r) where
 size:=by simp[World.aI]
 cell r' j _ _:=lr w hs gO h _
 pF r' j _:=mO w hs gO h _
 ff r' j _ hk:=by rw[lr w hs gO h];exact hk
 maps r' x hm _ hk:=by rw[ic w _ hm];exact hk
 eo r' _ hm _:=ic w _ hm
 env:=⟨rfl,rfl⟩
theorem SR.kj {b r o q:Nat}{es zn:List (T×T)}{ah ig:Array MapEntry}{c c':Nat}(h:SR w0 g H w)(hb:H[b]?=some (.map es))(hφ:g.φ b=some (r,o,q))(hr:w.heap[r]?=some (.map ah c))(hE:bB g w zn ig)(hB:bV ig c') :
  Le g w g (World.aI w r (.map ig c'))∧SR w0 g (H.set b (.map zn)) (World.aI w r (.map ig c'))∧Fr g H g (H.set b (.map zn)):=by
 have fk:b<H.length:=(List.getElem?_eq_some_iff.1 hb).1
 obtain⟨h1,_⟩:=h.dt b _ hb r o q hφ
 have tr:=Tr.mP w r (x:=.map ah c) (x':=.map ig c') rfl rfl hr
 have le:Le g w g (World.aI w r (.map ig c')):=Le.cI tr (fun _ _ h=>h) (fun _ _ h=>h) (fun _ _ _ h=>h) (fun _ _ hs=>hs.elim)
 refine⟨le,h.step (fun b'=>b'=b) tr le (fun _ _ hs=>hs.elim) (fun r' hm=>⟨b,by rw[hm];exact h1,rfl⟩) (fun r' j eY=>h.fresh r' j (by simpa[World.aI]using eY)) (fun b' x hx=>by rw[List.length_set];exact h.gN b' x hx)
  (fun t e x hx=>by rw[List.length_set];exact h.cp t e x hx) (fun _ _ _=>rfl) (fun _ _ _ _=>⟨id,id⟩) (fun _ _ _ _=>rfl) (fun b' x hx=>?_),by simp,fun b' x a _ d=>⟨bE a (by rintro rfl;rw[hφ]at d;cases d),d⟩⟩
 rcases bj fk hx with⟨rfl,rfl⟩|⟨aF,ej⟩
 ·right
  intro r' o' q' dQ
  rw[hφ]at dQ;cases dQ
  refine⟨h1,ig,c',?_,hE.mono le,hB⟩
  have aC:r<w.heap.size:=(Array.getElem?_eq_some_iff.1 hr).1
  simp[World.aI,aC]
 ·exact .inl ⟨aF,ej⟩
theorem fZ {n:Nat}{a b:T}{va vb:Value}(ha:VR g w a va)(hb:VR g w b vb)(he:dy a b=some true):Instr.sameBits n va vb=true:=by
 cases ha<;>cases hb<;>simp[dy]at he
 ·obtain⟨rfl,rfl⟩:=he;cases n<;>simp[Instr.sameBits]
 ·subst he;cases n<;>simp[Instr.sameBits]
 ·rename_i s1 s2
  have e:(s1==s2)=true:=by rw[beq_toListBytes];exact he
  cases n<;>exact e
theorem fJ {n:Nat}:∀(as bs:List T) (xs ys:List Value),ax g w as xs→ax g w bs ys→aL as bs=some true→xs.length=ys.length∧(xs.zip ys).all (fun (x,y)=>Instr.sameBits n x y)=true
 | [],[],xs,ys,hx,hy,_=>by
  have a:=hx.1;have b:=hy.1
  simp at a b
  have e1:xs=[]:=List.eq_nil_of_length_eq_zero (by omega)
  have e2:ys=[]:=List.eq_nil_of_length_eq_zero (by omega)
  subst e1;subst e2;simp
 | a :: as,b :: bs,xs,ys,hx,hy,he=>by
  cases xs with
  | nil=>have:=hx.1;simp at this
  | cons x xs =>
   cases ys with
   | nil=>have:=hy.1;simp at this
   | cons y ys =>
    simp only[aL]at he
    cases e1:dy a b with
    | none=>simp[e1]at he
    | some r1 =>
     cases e2:aL as bs with
     | none=>simp[e1,e2]at he
     | some r2 =>
      simp[e1,e2]at he
      obtain⟨rfl,rfl⟩:=he
      obtain⟨h1,h2⟩:=fJ as bs xs ys hx.tail hy.tail e2
      exact⟨by simp[h1],by simp[fZ hx.head hy.head e1];simpa using h2⟩
 | [],_ :: _,_,_,_,_,he=>by simp[aL]at he
 | _ :: _,[],_,_,_,_,he=>by simp[aL]at he
theorem ij {a b:T}{va vb:Value}(ha:VR g w a va)(hb:VR g w b vb)(he:dj a b=some true):Instr.sameBits 10000 va vb=true:=by
 by_cases h:∃as bs,a=.agg as∧b=.agg bs
 ·obtain⟨as,bs,rfl,rfl⟩:=h
  obtain⟨xs,rfl,hx,_⟩:=ha.cf
  obtain⟨ys,rfl,hy,_⟩:=hb.cf
  obtain⟨h1,h2⟩:=fJ (n:=9999) as bs xs ys hx hy he
  show Instr.sameBits (9999+1) _ _=true
  rw[Instr.sameBits]
  simp[h1]
  simpa using h2
 ·have:dy a b=some true:=by
   cases a<;>first|exact he|(cases b<;>first|exact he|exact absurd ⟨_,_,rfl,rfl⟩ h)
  exact fZ ha hb this
theorem ik:∀(k:T) (es:List (T×T)) (i:Nat),bl k es=some (some i)→∃e,es[i]?=some e∧dj k e.1=some true
 | k,[],i,h=>by simp[bl]at h
 | k,e :: es,i,h=>by
  simp only[bl]at h
  cases hk:dj k e.1 with
  | none=>simp[hk]at h
  | some b =>
   cases b with
   | true=>simp[hk]at h;subst h;exact⟨e,rfl,hk⟩
   | false =>
    simp only[hk,Option.map_eq_some_iff]at h
    obtain⟨r,h1,h2⟩:=h
    cases r with
    | none=>simp at h2
    | some j =>
     simp at h2;subst h2
     obtain⟨e',h3,h4⟩:=ik k es j h1
     exact⟨e',by simpa using h3,h4⟩
theorem bB.set {es:List (T×T)}{ah:Array MapEntry}(h:bB g w es ah){k v:T}{vk vv:Value}(hk:VR g w k vk)(hv:VR g w v vv)(i:Nat) :
  bB g w (es.set i (k,v)) (ah.modify i fun e=>{ e with key:=vk,val:=vv }):=by
 refine⟨by simp[h.1],fun j e m a b=>?_⟩
 rw[List.getElem?_set]at a
 rw[Array.getElem?_modify]at b
 split at a
 ·rename_i e'
  rw[if_pos e']at b
  subst e'
  split at a
  ·simp at a b
   obtain⟨m',_,rfl⟩:=b
   subst a
   exact⟨hk,hv⟩
  ·cases a
 ·rename_i e'
  rw[if_neg e']at b
  exact h.2 j e m a b
theorem bB.push {es:List (T×T)}{ah:Array MapEntry}(h:bB g w es ah){k v:T}{vk vv:Value}(hk:VR g w k vk)(hv:VR g w v vv)(c:Nat) :
  bB g w (es++[(k,v)]) (ah.push { key:=vk,val:=vv,born:=c }):=by
 refine⟨by simp[h.1],fun j e m a b=>?_⟩
 rw[Array.getElem?_push,h.1]at b
 rw[List.getElem?_append]at a
 split at b
 ·rename_i e'
  subst e'
  simp at a b
  subst a;subst b
  exact⟨hk,hv⟩
 ·rename_i e'
  split at a
  ·exact h.2 j e m a b
  ·have:j<ah.size:=(Array.getElem?_eq_some_iff.1 b).1
   rw[h.1]at this;omega
theorem bB.erase {es:List (T×T)}{ah:Array MapEntry}(h:bB g w es ah)(i:Nat)(hi:i<es.length):bB g w (es.eraseIdx i) (ah.eraseIdxIfInBounds i):=by
 have cW:i<ah.size:=by rw[h.1];exact hi
 have e1:(ah.eraseIdxIfInBounds i).toList=ah.toList.eraseIdx i:=by simp[Array.eraseIdxIfInBounds,cW]
 refine⟨by rw[←Array.length_toList,e1,List.length_eraseIdx,List.length_eraseIdx,if_pos hi,Array.length_toList,if_pos cW,h.1],fun j e m a b=>?_⟩
 have b':(ah.toList.eraseIdx i)[j]?=some m:=by rw[←e1,Array.getElem?_toList];exact b
 rw[List.getElem?_eraseIdx]at a b'
 split at a
 ·rename_i aC;rw[if_pos aC]at b';exact h.2 j e m a (by simpa using b')
 ·rename_i aC;rw[if_neg aC]at b';exact h.2 _ e m a (by simpa using b')
theorem bV.set {ah:Array MapEntry}{c:Nat}(h:bV ah c)(k v:Value)(i:Nat):bV (ah.modify i fun e=>{ e with key:=k,val:=v }) c:=by
 have e:(ah.modify i fun e=>{ e with key:=k,val:=v }).toList.map (·.born)=ah.toList.map (·.born):=by
  apply List.ext_getElem?
  intro j
  simp only[List.getElem?_map,Array.getElem?_toList,Array.getElem?_modify]
  split
  ·cases ah[j]?<;>rfl
  ·rfl
 refine⟨fun m hm=>?_,by rw[e];exact h.2⟩
 have:=List.mem_map_of_mem (f:=fun m:MapEntry=>m.born) hm
 rw[e]at this
 obtain⟨m',h1,h2⟩:=List.mem_map.1 this
 rw[←h2];exact h.1 m' h1
theorem bV.push {ah:Array MapEntry}{c:Nat}(h:bV ah c)(k v:Value):bV (ah.push { key:=k,val:=v,born:=c }) (c+1):=by
 refine⟨fun m hm=>?_,?_⟩
 ·rw[Array.toList_push,List.mem_append]at hm
  rcases hm with hm|hm
  ·exact Nat.lt_succ_of_lt (h.1 m hm)
  ·simp at hm;subst hm;exact Nat.lt_succ_self _
 ·rw[Array.toList_push,List.map_append,List.nodup_append]
  refine⟨h.2,by simp,fun a ha b hb=>?_⟩
  simp at hb
  subst hb
  obtain⟨m,hm,rfl⟩:=List.mem_map.1 ha
  exact Nat.ne_of_lt (h.1 m hm)
theorem bV.erase {ah:Array MapEntry}{c:Nat}(h:bV ah c)(i:Nat):bV (ah.eraseIdxIfInBounds i) c:=by
 by_cases cW:i<ah.size
 ·have e1:(ah.eraseIdxIfInBounds i).toList=ah.toList.eraseIdx i:=by simp[Array.eraseIdxIfInBounds,cW]
  exact⟨fun m hm=>h.1 m (by rw[e1]at hm;exact(List.eraseIdx_sublist _ _).subset hm),by rw[e1];exact h.2.sublist ((List.eraseIdx_sublist _ _).map _)⟩
 ·have e1:ah.eraseIdxIfInBounds i=ah:=by simp[Array.eraseIdxIfInBounds,cW]
  rw[e1];exact h
theorem uh {ty key elem:TypeId}{kt:KT}{b:Nat}{k v:T}{vm vk vv:Value}{es:List (T×T)}{r:Option Nat}(hu:P.underlying ty=some (.map key elem))(dS:fj P key kt=true)
  (h:SR w0 g H w) (hm:VR g w (.map b) vm) (hk:VR g w k vk) (hv:VR g w v vv) (mN:k.dr kt=true) (hb:H[b]?=some (.map es)) (hr:bl k es=some r) :
  ∃w' g',(Instr.mapUpdate ty vm vk vv).run P w=.ok () w'∧Le g w g' w'∧SR w0 g' (H.set b (.map (match r with|some i=>es.set i (k,v)|none=>es++[(k,v)]))) w'∧Fr g H g' (H.set b (.map (match r with|some i=>es.set i (k,v)|none=>es++[(k,v)]))):=by
 cases hm with
 | @map _ rr o q hφ =>
  obtain⟨h1,ah,c,h2,hE,hB⟩:=h.dt b _ hb rr o q hφ
  have hf:=kg dS hk mN es ah.toList (by simpa using hE.1) (fun i e m a b=>hE.2 i e m a (by simpa using b)) hr
  have hc:=et (P:=P) (w:=w) (e:=false) dS hk mN
  cases r with
  | none =>
   obtain⟨le,sr,fr⟩:=h.kj (c':=c+1) hb hφ h2 (hE.push hk hv c) (hB.push _ _)
   refine⟨_,g,?_,le,sr,fr⟩
   simp at hf
   simp[Instr.mapUpdate,run_underlying hu,getObj,setObj,Sem.run,h2,hc,hf,World.aI]
  | some i =>
   obtain⟨e,he,yV⟩:=ik k es i hr
   have aC:i<ah.size:=by rw[hE.1];exact(List.getElem?_eq_some_iff.1 he).1
   have xy:ah[i]?=some ah[i]:=Array.getElem?_eq_getElem aC
   have ju:=(hE.2 i e _ he xy).1
   have B7:=ij hk ju yV
   have CJ:Instr.sameBits 10000 ah[i].key vk=true:=by
    have:dj e.1 k=some true∨True:=.inr trivial
    by_cases h':∃as bs,k=.agg as∧e.1=.agg bs
    ·obtain⟨as,bs,rfl,e2⟩:=h'
     have FU:∀(as bs:List T),aL as bs=some true→aL bs as=some true:=by
      intro as
      induction as with
      | nil=>intro bs nE;cases bs<;>simp[aL]at nE ⊢
      | cons a as ih =>
       intro bs nE
       cases bs with
       | nil=>simp[aL]at nE
       | cons b bs =>
        simp only[aL]at nE ⊢
        cases e1:dy a b with
        | none=>simp[e1]at nE
        | some r1 =>
         cases e2:aL as bs with
         | none=>simp[e1,e2]at nE
         | some r2 =>
          simp[e1,e2]at nE
          obtain⟨rfl,rfl⟩:=nE
          have:dy b a=some true:=by
           cases a<;>cases b<;>simp[dy,di]at e1 ⊢
           ·exact⟨e1.1.symm,e1.2.symm⟩
           ·exact e1.symm
           ·exact e1.symm
          simp[this,ih bs e2]
     rw[e2]at ju yV
     exact ij ju hk (FU _ _ yV)
    ·have e1:dy k e.1=some true:=by
      generalize e.1=d at *
      cases k<;>first|exact yV|(cases d<;>first|exact yV|exact absurd ⟨_,_,rfl,rfl⟩ h')
     have e2:dy e.1 k=some true:=by
      generalize e.1=d at *
      cases k<;>cases d<;>simp[dy,di]at e1 ⊢
      ·exact⟨e1.1.symm,e1.2.symm⟩
      ·exact e1.symm
      ·exact e1.symm
     exact fZ ju hk e2
   obtain⟨le,sr,fr⟩:=h.kj (c':=c) hb hφ h2 (hE.set hk hv i) (hB.set _ _ i)
   refine⟨_,g,?_,le,sr,fr⟩
   have hx:((some i:Option Nat).bind fun i=>(ah.toList[i]?).map fun m=>(i,m.val))=some (i,ah[i].val):=by simp[aC]
   rw[hx]at hf
   have FV:(Instr.keyThatStays ah[i].key vk).run P w=.ok vk w:=by simp[Instr.keyThatStays,CJ]
   simp[Instr.mapUpdate,run_underlying hu,getObj,setObj,Sem.run,h2,hc,hf,aC,FV,World.aI]
theorem ui {ty key elem xt rt:TypeId}{kt:KT}{b:Nat}{k:T}{vm vk:Value}{es:List (T×T)}{r:Option Nat}(hu:P.underlying ty=some (.map key elem))(dS:fj P key kt=true)
  (h:SR w0 g H w) (hm:VR g w (.map b) vm) (hk:VR g w k vk) (mN:k.dr kt=true) (hb:H[b]?=some (.map es)) (hr:bl k es=some r) :
  aG P w0 g H w (Builtin.delete_ #[ty,xt] rt #[vm,vk]) (.bg []) (match r with|some i=>H.set b (.map (es.eraseIdx i))|none=>H):=by
 cases hm with
 | @map _ rr o q hφ =>
  obtain⟨h1,ah,c,h2,hE,hB⟩:=h.dt b _ hb rr o q hφ
  have hf:=kg dS hk mN es ah.toList (by simpa using hE.1) (fun i e m a b=>hE.2 i e m a (by simpa using b)) hr
  have hc:=et (P:=P) (w:=w) (e:=ah.isEmpty) dS hk mN
  cases r with
  | none =>
   obtain⟨le,sr,fr⟩:=h.kj (c':=c) hb hφ h2 hE hB
   have hH:H.set b (.map es)=H:=by
    apply List.ext_getElem?
    intro j
    rw[List.getElem?_set]
    split
    ·rename_i e;subst e;rw[if_pos (List.getElem?_eq_some_iff.1 hb).1,hb]
    ·rfl
   rw[hH]at sr fr
   refine⟨.tuple #[],_,g,?_,le,sr,.bg rfl (by simp),fr⟩
   simp at hf
   simp[Builtin.delete_,run_underlying hu,getObj,setObj,Sem.run,h2,hc,hf,World.aI]
  | some i =>
   obtain⟨e,he,yV⟩:=ik k es i hr
   have E9:i<es.length:=(List.getElem?_eq_some_iff.1 he).1
   have aC:i<ah.size:=by rw[hE.1];exact E9
   obtain⟨le,sr,fr⟩:=h.kj (c':=c) hb hφ h2 (hE.erase i E9) (hB.erase i)
   refine⟨.tuple #[],_,g,?_,le,sr,.bg rfl (by simp),fr⟩
   have hx:((some i:Option Nat).bind fun i=>(ah.toList[i]?).map fun m=>(i,m.val))=some (i,ah[i].val):=by simp[aC]
   rw[hx]at hf
   simp[Builtin.delete_,run_underlying hu,getObj,setObj,Sem.run,h2,hc,hf,World.aI]
end
section
variable {P:Program} {w0 w:World} {g:Ctx} {H:aa}
theorem eu {n:Nat}:∀(es:List (List T)),(∀c∈es,c.length=n)→∀(i j:Nat) (c:List T) (t:T),es[i]?=some c→c[j]?=some t→es.flatten[i*n+j]?=some t
 | [],_,i,j,c,t,h,_=>by simp at h
 | d :: es,hn,i,j,c,t,h,hj=>by
  have hd:=hn d (by simp)
  cases i with
  | zero =>
   simp at h;subst h
   have aC:j<d.length:=(List.getElem?_eq_some_iff.1 hj).1
   simp only[List.flatten_cons,Nat.zero_mul,Nat.zero_add]
   rw[List.getElem?_append_left aC];exact hj
  | succ i =>
   have ih:=eu es (fun c hc=>hn c (by simp[hc])) i j c t (by simpa using h) hj
   simp only[List.flatten_cons]
   rw[List.getElem?_append_right (by rw[hd,Nat.succ_mul];omega)]
   rw[show(i+1)*n+j-d.length=i*n+j by rw[hd,Nat.succ_mul];omega];exact ih
theorem cu {n:Nat}(es:List (List T))(hn:∀c∈es,c.length=n):es.flatten.length=es.length*n:=by
 induction es with
 | nil=>simp
 | cons d es ih=>simp only[List.flatten_cons,List.length_append,List.length_cons,Nat.succ_mul,hn d (by simp),ih (fun c hc=>hn c (by simp[hc]))];omega
theorem VR.ga {k:SK}{es:List (List T)}{r o cap n:Nat}{vs:List Value}(hn:∀c∈es,c.length=n)(hv:ax g w es.flatten vs)(ho:aR es.flatten)(hc:es.length≤cap)(hk:oL g k r o es.length cap n)
  (hi:∀(j:Nat) (v:Value),vs[j]?=some v→my g w r (o+j) v):VR g w (.sl k es) (.slice (some ⟨r,o,none⟩) es.length cap):=by
 have key:∀(i j:Nat) (c:List T) (t:T),es[i]?=some c→c[j]?=some t→es.flatten[i*n+j]?=some t∧vs[i*n+j]?=some (vs.getD (i*n+j) undef):=by
  intro i j c t a b
  have h1:=eu es hn i j c t a b
  have aC:i*n+j<vs.length:=by rw[←hv.1];exact(List.getElem?_eq_some_iff.1 h1).1
  exact⟨h1,by rw[List.getElem?_eq_getElem aC,List.getD_eq_getElem?_getD,List.getElem?_eq_getElem aC,Option.getD_some]⟩
 refine .sl (n:=n) (fun i j=>vs.getD (i*n+j) undef) hk hc hn (fun i j c t a b=>?_) (fun i j c t a b=>?_)
 ·obtain⟨h1,h2⟩:=key i j c t a b
  exact⟨ho t (List.mem_of_getElem? h1),by rw[Nat.add_assoc];exact hi _ _ h2⟩
 ·obtain⟨h1,h2⟩:=key i j c t a b
  exact hv.2 _ t _ h1 h2
theorem fK (es:List (List T)):(es.map (·.map T.erase)).flatten=es.flatten.map T.erase:=by
 induction es with
 | nil=>rfl
 | cons c es ih=>simp only[List.map_cons,List.flatten_cons,List.map_append,ih]
theorem ax.erase {ts:List T}{vs:List Value}(h:ax g w ts vs):ax g w (ts.map T.erase) vs :=
 ⟨by simp[h.1],fun i t v a b=>by
  rw[List.getElem?_map]at a
  obtain⟨t',h1,rfl⟩:=Option.map_eq_some_iff.1 a
  exact(h.2 i t' v h1 b).erase⟩
theorem il {ts:List T}(h:aR ts):aR (ts.map T.erase):=by
 intro t ht
 obtain⟨t',h1,rfl⟩:=List.mem_map.1 ht
 rw[oM];exact h t' h1
theorem xF {n:Nat}{y:T}{vy:Value}{new:List (List T)}(h:SR w0 g H w)(hy:VR g w y vy)(he:aH H n y=some new) :
  ∃vs:List Value,(Builtin.lenOf vy).run P w=.ok new.length w∧(Builtin.firstCells n new.length vy).run P w=.ok vs.toArray w∧ax g w new.flatten vs∧aR new.flatten∧(∀c∈new,c.length=n)∧vs.length=new.length*n:=by
 by_cases hs:∃s,y=.str s
 ·obtain⟨s,rfl⟩:=hs
  cases hy
  simp only[aH]at he
  split at he
  ·rename_i hn
   subst hn
   simp at he
   have hlen:new.length=s.size:=by rw[←he,List.length_map];exact Array.length_toList
   have gF:new.flatten=s.data.toList.map fun c=>T.int .u8 c.toNat:=by
    rw[←he]
    generalize s.data.toList=l
    induction l with
    | nil=>rfl
    | cons c l ih=>simp only[List.map_cons,List.flatten_cons,ih];rfl
   have hex:s.extract 0 s.size=s:=by simp
   refine⟨s.data.toList.map fun c=>.int .u8 c.toNat,by simp[Builtin.lenOf,hlen],?_,?_,?_,?_,?_⟩
   ·rw[hlen]
    simp only[Builtin.firstCells,hex,Sem.run_pure]
    congr 1
    apply Array.ext';simp
   ·rw[gF]
    refine⟨by simp,fun i t v a b=>?_⟩
    rw[List.getElem?_map]at a b
    obtain⟨c,h1,rfl⟩:=Option.map_eq_some_iff.1 a
    rw[h1]at b;simp at b;subst b
    exact .int _ _
   ·rw[gF];intro t ht
    obtain⟨c,_,rfl⟩:=List.mem_map.1 ht;rfl
   ·rw[←he];intro c hc
    obtain⟨_,_,rfl⟩:=List.mem_map.1 hc;rfl
   ·rw[hlen,List.length_map,Nat.mul_one];exact Array.length_toList
  ·simp at he
 ·obtain⟨a,cap,vs,rfl,_,h1,h2,h3,h4,h5,h6⟩:=fE h hy he (fun s e=>hs ⟨s,e⟩)
  refine⟨vs,by simp[Builtin.lenOf],?_,h3,h5,h6,h4⟩
  cases a with
  | none =>
   have:=(h1 rfl).1
   subst this
   simp at h4
   simp[Builtin.firstCells,h4]
  | some a =>
   obtain⟨_,h7⟩:=h2 a rfl
   have:=run_loadCells_list (P:=P) w a vs h7
   rw[h4]at this
   simpa[Builtin.firstCells]using this
theorem nF (dM:Nat):∀(k c:Nat),c≤dM+(dM+768)/4→Builtin.growBy dM k c≤dM+(dM+768)/4
 | 0,c,h=>h
 | k+1,c,h=>by
  rw[Builtin.growBy]
  split
  ·exact h
  ·exact nF dM k _ (by omega)
theorem uj {dM cap:Nat}(h:cap<dM):Builtin.nextslicecap dM cap≤dM+dM/4+512:=by
 unfold Builtin.nextslicecap
 split
 ·omega
 ·split
  ·omega
  ·have:=nF dM 4 cap (by omega)
   omega
theorem nG {dM cap bytes:Nat}(h:cap<dM)(hr:dL dM bytes=true):¬Builtin.nextslicecap dM cap*bytes>2^48:=by
 have h1:=Nat.mul_le_mul_right bytes (uj h)
 simp only[dL,decide_eq_true_eq]at hr
 omega
structure gb (P:Program)(sT xT elem:TypeId)(ei:TypeInfo)(zv:Value)(n bytes:Nat):Prop where
 hu:P.underlying sT=some (.slice elem)
 hi:P.info? elem=some ei
 hx:∃d,P.underlying xT=some d∧∀k,d≠.int k
 hn:ei.size=n
 hz:ei.zero=some zv
 uk:zv.cells.size=n
 hb:ei.bytes=bytes
 CK:bytes≠0
theorem eZ {sT xT elem rt:TypeId}{ei:TypeInfo}{zv x:Value}{n bytes r o len cap m:Nat}{vs:List Value}(E:gb P sT xT elem ei zv n bytes)(hl:(Builtin.lenOf x).run P w=.ok m w)(hf:(Builtin.firstCells n m x).run P w=.ok vs.toArray w)
  (ew:len+m≤cap) (hs:(storeCells ⟨r,o+len*n,none⟩ vs).run P w=.ok () (w.setCells r (o+len*n) vs)) :
  (Builtin.append_ #[sT,xT] rt #[.slice (some ⟨r,o,none⟩) len cap,x]).run P w=.ok (.slice (some ⟨r,o,none⟩) (len+m) cap) (w.setCells r (o+len*n) vs):=by
 obtain⟨d,h1,h2⟩:=E.hx
 have hz:(match d with | .int _=>true|_=>false)=false:=by cases d<;>first|rfl|exact absurd rfl (h2 _)
 simp[Builtin.append_,run_underlying E.hu,run_underlying h1,hz,sizeOf,ar E.hi,E.hn,hl,hf,ew,a8,hs]
theorem ey {sT xT elem rt:TypeId}{ei:TypeInfo}{zv x:Value}{n bytes:Nat}{base:Option Addr}{len cap:Nat}(E:gb P sT xT elem ei zv n bytes)(hl:(Builtin.lenOf x).run P w=.ok 0 w)(hf:(Builtin.firstCells n 0 x).run P w=.ok #[] w)(ew:len≤cap) :
  (Builtin.append_ #[sT,xT] rt #[.slice base len cap,x]).run P w=.ok (.slice base len cap) w:=by
 obtain⟨d,h1,h2⟩:=E.hx
 have hz:(match d with | .int _=>true|_=>false)=false:=by cases d<;>first|rfl|exact absurd rfl (h2 _)
 cases base<;>simp[Builtin.append_,run_underlying E.hu,run_underlying h1,hz,sizeOf,ar E.hi,E.hn,hl,hf,ew,storeCells]
theorem eA (zc:Array Value)(n:Nat):(Builtin.zeroCells zc n).size=n*zc.size:=by simp[Builtin.zeroCells]
theorem cX {sT xT elem rt:TypeId}{ei:TypeInfo}{zv x:Value}{n bytes:Nat}{base:Option Addr}{len cap m:Nat}{eo vs:List Value}(E:gb P sT xT elem ei zv n bytes)(hl:(Builtin.lenOf x).run P w=.ok m w)(hf:∀w':World,w'.heap=w.heap→(Builtin.firstCells n m x).run P w'=.ok vs.toArray w')
  (ho:∀w':World,w'.heap=w.heap→(Builtin.firstCells n len (.slice base len cap)).run P w'=.ok eo.toArray w') (mQ:cap<len+m) (hr:dL (len+m) bytes=true) :
  ∃(bK:Nat) (rest:List Value),len+m≤bK∧rest.length=(bK-(len+m))*n ∧
   (Builtin.append_ #[sT,xT] rt #[.slice base len cap,x]).run P w=.ok (.slice (some ⟨w.heap.size,0,none⟩) (len+m) bK) (w.drew.alloc (.cells (eo++vs++rest).toArray elem)):=by
 obtain⟨d,h1,h2⟩:=E.hx
 have hz:(match d with | .int _=>true|_=>false)=false:=by cases d<;>first|rfl|exact absurd rfl (h2 _)
 have cY:=nG mQ hr
 have ew:¬len+m≤cap:=by omega
 let bK:=Question.cut (.appendCap (len+m) cap elem) (w.tape w.drawn (.appendCap (len+m) cap elem))
 have fF:len+m≤bK:=by simp only[bK,Question.cut];omega
 refine⟨bK,(Builtin.zeroCells zv.cells (bK-(len+m))).toList,fF,?_,?_⟩
 ·rw[Array.length_toList,eA,E.uk]
 ·have B6:=hf w.drew rfl
  have fm:=ho w.drew rfl
  have CK:ei.bytes≠0:=by rw[E.hb];exact E.CK
  simp only[gt_iff_lt,Nat.not_lt]at cY
  have qe:Builtin.nextslicecap (len+m) cap*ei.bytes≤2^48:=by rw[E.hb];exact cY
  simp only[Builtin.append_,List.getElem?_toArray,List.getElem?_cons_zero,List.getElem?_cons_succ,Sem.run_bind,run_underlying E.hu,run_underlying h1,Result.andThen_ok,sizeOf,ar E.hi,E.hn,hl,Sem.run_pure,ew,if_false]
  cases d<;>first
   | exact absurd rfl (h2 _)
   | (simp[hl,ew,ar E.hi,CK,qe,Nat.not_lt.2 qe,run_choose,Question.forced,fm,B6,zeroValue,E.hz,newRow,bK];congr 2;apply Array.ext';simp)
theorem SR.zo {t e r p q m:Nat}{vs:List Value}(h:SR w0 g H w)(ht:H[t]?=some (.tok e))(hp:g.π t e=some (r,p,q))(hm:0<m)(ew:p+vs.length≤q) :
  let g':=((g.row r fun j=>if p≤j∧j<p+vs.length then .cF else g.κ r j).tok t (e+m) (r,p+vs.length,q))
  Le g w g' (w.setCells r p vs)∧SR w0 g' (H.set t (.tok (e+m))) (w.setCells r p vs)∧Fr g H g' (H.set t (.tok (e+m)))∧∀(i:Nat) (v:Value),vs[i]?=some v→my g' (w.setCells r p vs) r (p+i) v:=by
 intro g'
 have zp:t<H.length:=(List.getElem?_eq_some_iff.1 ht).1
 obtain⟨r1,p1,q1,e1,h2,h3,h4⟩:=h.dt t _ ht
 rw[hp]at e1;cases e1
 have hs:∀j,p≤j→j<p+vs.length→(w.cell? ⟨r,j,none⟩).isSome=true:=fun j a c=>(h3 j a (by omega)).2.2
 have tr:=Tr.setCells w r p vs hs
 have hS:∀r' j,lq r p vs.length r' j→g.κ r' j=.spare t:=by
  rintro r' j⟨rfl,a,c⟩;exact(h3 j a (by omega)).1
 have hκ:∀r' j,g'.κ r' j=if r'=r∧p≤j∧j<p+vs.length then .cF else g.κ r' j:=by
  intro r' j
  simp only[g',Ctx.tok,Ctx.row]
  by_cases e:r'=r
  ·subst e;simp
  ·simp[e]
 have hπ:∀t' e',g'.π t' e'=if t'=t∧e'=e+m then some (r,p+vs.length,q)else g.π t' e':=fun t' e'=>rfl
 have le:Le g w g' (w.setCells r p vs):=Le.cI tr (fun _ _ h=>h) (fun r' o hk=>by rw[hκ];split;rfl;exact hk)
  (fun t' e' x hx=>by rw[hπ];split;rename_i c;obtain⟨rfl,rfl⟩:=c;rw[h4 _ (by omega)]at hx;cases hx;exact hx)
  (fun r' j gO e=>by rw[hS r' j gO]at e;cases e)
 have cF:∀(i:Nat) (v:Value),vs[i]?=some v→my g' (w.setCells r p vs) r (p+i) v:=fun i v hi=>by
  have aC:i<vs.length:=(List.getElem?_eq_some_iff.1 hi).1
  exact⟨by rw[hκ];simp;omega,aX r vs p w hs i v hi⟩
 refine⟨le,h.step (fun b'=>b'=t) tr le (fun r' j gO=>.inr (.inr ⟨t,hS r' j gO,rfl⟩)) (fun _ hm=>hm.elim) (fun r' j hr=>?_) (fun b' x hx=>by rw[List.length_set];exact h.gN b' x hx)
  (fun t' e' x hx=>?_) (fun _ _ _=>rfl) (fun r' j b' cU=>?_) (fun t' e' _ cU=>?_) (fun b' x hx=>?_),⟨by simp,fun b' x a c d=>⟨bE a (by rintro rfl;rw[ht]at a;cases a;exact absurd rfl (c e)),d⟩⟩,cF⟩
 ·rw[bw]at hr
  rw[hκ];split
  ·rename_i c;obtain⟨rfl,a,c⟩:=c
   have:=h.fresh r' j hr
   rw[(h3 j a (by omega)).1]at this;cases this
  ·exact h.fresh r' j hr
 ·rw[List.length_set]
  rw[hπ]at hx
  split at hx
  ·rename_i c;rw[c.1];exact zp
  ·exact h.cp t' e' x hx
 ·constructor<;>intro e'<;>rw[hκ]<;>split
  ·rename_i c;obtain⟨rfl,a,c⟩:=c;rw[(h3 j a (by omega)).1]at e';cases e'
  ·exact e'
  ·rename_i c;obtain⟨rfl,a,c⟩:=c;rw[(h3 j a (by omega)).1]at e';cases e';exact absurd rfl cU
  ·exact e'
 ·rw[hπ,if_neg (fun c=>cU c.1)]
 ·rcases bj zp hx with⟨rfl,rfl⟩|⟨aF,ej⟩
  ·right
   refine⟨r,p+vs.length,q,by rw[hπ];simp,ew,fun j a c=>⟨?_,?_,?_⟩,fun e' he=>by rw[hπ,if_neg (by omega)];exact h4 e' (by omega)⟩
   ·rw[hκ,if_neg (by omega)];exact(h3 j (by omega) c).1
   ·intro j0;rw[World.frozen?_setCells];exact(h3 j (by omega) c).2.1 j0
   ·rw[aV r vs p w r j (by omega)];exact(h3 j (by omega) c).2.2
  ·exact .inl ⟨aF,ej⟩
theorem SR.qf {c:Array Value}{ty:TypeId}{w1:World}{H':aa}{t e k:Nat}(h:SR w0 g H w)(tr:Tr w w1 ct cV)(hz:w1.heap.size=w.heap.size)(ht:H'[t]?=some (.tok e))(hk:k≤c.size)
  (gg:∀e',e≤e'→g.π t e'=none) (hH:∀b' x,b'≠t→H'[b']?=some x→H[b']?=some x) (hl:H.length≤H'.length) (yU:∀(b':Nat) (x:B),H[b']?=some x→(∀e:Nat,x≠.tok e)→H'[b']?=some x) :
  let g':=((g.row w.heap.size fun j=>if j<k then .cF else .spare t).tok t e (w.heap.size,k,c.size))
  Le g w g' (w1.alloc (.cells c ty))∧SR w0 g' H' (w1.alloc (.cells c ty))∧Fr g H g' H'∧(∀(j:Nat) (v:Value),j<k→c[j]?=some v→my g' (w1.alloc (.cells c ty)) w.heap.size j v)∧g'.π t e=some (w.heap.size,k,c.size):=by
 intro g'
 have jv:=tr.trans (Tr.alloc w1 (.cells c ty))
 have aF:∀r j ow,g.κ r j=ow→ow≠.free→r≠w.heap.size:=by rintro r j ow e hn rfl;exact hn (e▸h.fresh _ j (Nat.le_refl _))
 have hπ:∀t' e',g'.π t' e'=if t'=t∧e'=e then some (w.heap.size,k,c.size)else g.π t' e':=fun t' e'=>rfl
 have hκ:∀r j,g'.κ r j=if r=w.heap.size then(if j<k then .cF else .spare t)else g.κ r j:=fun r j=>rfl
 have le:Le g w g' (w1.alloc (.cells c ty)):=Le.cI jv (fun _ _ h=>h) (fun r o hk=>by rw[hκ,if_neg (aF r o _ hk (by simp))];exact hk)
  (fun t' e' x hx=>by rw[hπ];split;rename_i c;obtain⟨rfl,rfl⟩:=c;rw[gg _ (Nat.le_refl _)]at hx;cases hx;exact hx) (fun _ _ hs=>hs.elim)
 refine⟨le,?_,⟨hl,fun b' x a c d=>⟨yU b' x a c,d⟩⟩,fun j v hj hv=>⟨by rw[hκ];simp[hj],by rw[←hz,World.cell?_alloc_new];exact hv⟩,by rw[hπ];simp⟩
 refine h.step (fun b'=>b'=t) jv le (fun _ _ hs=>hs.elim) (fun _ hm=>hm.elim) (fun r o hr=>?_) (fun b' x hx=>Nat.lt_of_lt_of_le (h.gN b' x hx) hl) (fun t' e' x hx=>?_) (fun _ _ _=>rfl) (fun r j b' cU=>?_) (fun t' e' _ cU=>?_) (fun b' x hx=>?_)
 ·simp at hr
  rw[hκ,if_neg (by omega)];exact h.fresh r o (by omega)
 ·rw[hπ]at hx
  split at hx
  ·rename_i c;rw[c.1];exact(List.getElem?_eq_some_iff.1 ht).1
  ·exact Nat.lt_of_lt_of_le (h.cp t' e' x hx) hl
 ·constructor<;>intro e'<;>rw[hκ,if_neg (aF r j _ e' (by simp))]<;>exact e'
 ·rw[hπ,if_neg (fun c=>cU c.1)]
 ·by_cases e':b'=t
  ·subst e'
   right
   rw[ht]at hx;cases hx
   refine⟨w.heap.size,k,c.size,by rw[hπ];simp,hk,fun j a b=>⟨by rw[hκ];simp;omega,by rw[←hz];simp,by rw[←hz,World.cell?_alloc_new,Array.getElem?_eq_getElem b];rfl⟩,fun um he=>by rw[hπ,if_neg (by omega)];exact gg um (by omega)⟩
  ·exact .inl ⟨e',hH b' x e' hx⟩
theorem gZ (w:World):Tr w w.drew ct cV:=Tr.drew w
theorem gh {w w':World}(h:w'.heap=w.heap)(a:Addr):w'.cell? a=w.cell? a:=by unfold World.cell?;rw[h]
theorem nH {n:Nat}{y:T}{vy:Value}{new:List (List T)}(h:SR w0 g H w)(hy:VR g w y vy)(he:aH H n y=some new) :
  ∃vs:List Value,(Builtin.lenOf vy).run P w=.ok new.length w∧(∀w':World,w'.heap=w.heap→(Builtin.firstCells n new.length vy).run P w'=.ok vs.toArray w')∧ax g w new.flatten vs∧aR new.flatten∧(∀c∈new,c.length=n)∧vs.length=new.length*n:=by
 obtain⟨vs,h1,h2,h3,h4,h5,h6⟩:=xF (P:=P) h hy he
 refine⟨vs,h1,fun w' mR=>?_,h3,h4,h5,h6⟩
 by_cases hs:∃s,y=.str s
 ·obtain⟨s,rfl⟩:=hs
  cases hy
  simp only[Builtin.firstCells,Sem.run_pure,Result.ok.injEq,and_true]at h2 ⊢
  exact h2
 ·obtain⟨a,cap,yQ,rfl,_,k1,k2,k3,k4,k5,k6⟩:=fE h hy he (fun s e=>hs ⟨s,e⟩)
  cases a with
  | none =>
   simp only[Builtin.firstCells,Sem.run_pure,Result.ok.injEq,and_true]at h2 ⊢
   exact h2
  | some a =>
   obtain⟨_,h7⟩:=k2 a rfl
   have a1:=run_loadCells_list (P:=P) w a yQ h7
   have a2:=run_loadCells_list (P:=P) w' a yQ (fun j v hj=>by rw[gh mR];exact h7 j v hj)
   rw[k4]at a1 a2
   simp only[Builtin.firstCells]at h2 ⊢
   rw[a1]at h2
   rw[a2]
   simp at h2
   rw[h2]
theorem uo {sT xT elem rt:TypeId}{ei:TypeInfo}{zv:Value}{n bytes:Nat}{k:SK}{es new:List (List T)}{y t:T}{vx vy:Value}{H':aa}(E:gb P sT xT elem ei zv n bytes)
  (h:SR w0 g H w) (hx:VR g w (.sl k es) vx) (hy:VR g w y vy) (er:es.all (·.length==n)=true) (jd:aH H n y=some new) (he:mF H bytes k es new=some (t,H')) :
  aG P w0 g H w (Builtin.append_ #[sT,xT] rt #[vx,vy]) t H':=by
 obtain⟨vs,s1,s2,s3,s4,s5,s6⟩:=nH (P:=P) h hy jd
 obtain⟨a,cap,eo,rfl,fF,x1,x2,x3,x4,x5,x6⟩:=fE (n:=n) (es:=es) h hx (by simp only[aH,er,if_true]) (fun s e=>by cases e)
 have fF:es.length≤cap:=fF
 cases gg:new with
 | nil =>
  subst gg
  simp only[mF,Option.some.injEq,Prod.mk.injEq]at he
  obtain⟨rfl,rfl⟩:=he
  have fW:vs=[]:=by simpa using s6
  subst fW
  exact aG.same h (ey E s1 (s2 w rfl) fF) hx
 | cons c0 CL =>
  have hlen:0<new.length:=by rw[gg];simp
  rw[gg]at he
  simp only[mF]at he
  rw[←gg]at he
  split at he
  ·rename_i cY
   have tf:∀c∈es++new.map (·.map T.erase),c.length=n:=by
    intro c hc
    rcases List.mem_append.1 hc with hc|hc
    ·exact x6 c hc
    ·obtain⟨c',h1,rfl⟩:=List.mem_map.1 hc
     rw[List.length_map];exact s5 c' h1
   have gF:(es++new.map (·.map T.erase)).flatten=es.flatten++new.flatten.map T.erase:=by rw[List.flatten_append,fK]
   have v7:(es++new.map (·.map T.erase)).length=es.length+new.length:=by simp
   have ho:aR (es++new.map (·.map T.erase)).flatten:=by
    rw[gF];intro t ht
    rcases List.mem_append.1 ht with ht|ht
    ·exact x5 t ht
    ·exact il s4 t ht
   have iT:(eo++vs).length=(es.length+new.length)*n:=by rw[List.length_append,x4,s6,Nat.add_mul]
   have grow:∀(t' e':Nat) (Hn:aa),cap<es.length+new.length→Hn[t']?=some (.tok e')→(∀um,e'≤um→g.π t' um=none)→(∀b' x,b'≠t'→Hn[b']?=some x→H[b']?=some x)→H.length≤Hn.length →
     (∀(b':Nat) (x:B),H[b']?=some x→(∀e:Nat,x≠.tok e)→Hn[b']?=some x)→aG P w0 g H w (Builtin.append_ #[sT,xT] rt #[.slice a es.length cap,vy]) (.sl (.own t' e') (es++new.map (·.map T.erase))) Hn:=by
    intro t' e' Hn mQ k1 k2 k3 k4 k5
    have yR:∀w':World,w'.heap=w.heap→(Builtin.firstCells n es.length (.slice a es.length cap)).run P w'=.ok eo.toArray w':=by
     intro w' mR
     cases a with
     | none =>
      have:=(x1 rfl).1
      subst this
      have:eo=[]:=by simpa using x4
      subst this
      simp[Builtin.firstCells]
     | some a =>
      obtain⟨_,h7⟩:=x2 a rfl
      have:=run_loadCells_list (P:=P) w' a eo (fun j v hj=>by rw[gh mR];exact h7 j v hj)
      rw[x4]at this
      simpa[Builtin.firstCells]using this
    obtain⟨bK,rest,uq,ur,aJ⟩:=cX (rt:=rt) (w:=w) E s1 s2 yR mQ cY
    have cW:(eo++vs++rest).toArray.size=bK*n:=by
     simp only[List.size_toArray]
     rw[List.length_append,iT,ur,←Nat.add_mul];congr 1;omega
    obtain⟨le,sr,fr,cF,hp⟩:=h.qf (c:=(eo++vs++rest).toArray) (ty:=elem) (k:=(es.length+new.length)*n) (gZ w) rfl k1 (by rw[cW];exact Nat.mul_le_mul_right _ uq) k2 k3 k4 k5
    refine⟨_,_,_,aJ,le,sr,?_,fr⟩
    have hv:ax g w (es++new.map (·.map T.erase)).flatten (eo++vs):=by rw[gF];exact ax.append x3 s3.erase
    have:=VR.ga (k:=.own t' e') (r:=w.heap.size) (o:=0) (cap:=bK) tf (hv.mono le) ho (by rw[v7];exact uq) ⟨by rw[hp,v7,cW];simp,by rw[v7];omega⟩ (fun j v hj=>?_)
    ·rw[v7]at this;exact this
    ·have aC:j<(eo++vs).length:=(List.getElem?_eq_some_iff.1 hj).1
     rw[Nat.zero_add]
     refine cF j v (by omega) ?_
     rw[List.getElem?_toArray,List.getElem?_append_left aC];exact hj
   cases k with
   | nil =>
    simp only[Option.some.injEq,Prod.mk.injEq]at he
    obtain⟨rfl,rfl⟩:=he
    have mK:cap<es.length+new.length:=by
     cases hx with
     | slnil=>simpa using hlen
     | sl a7 hk=>exact hk.elim
    exact grow H.length _ _ mK (bm _ _) (fun um _=>h.CI (Nat.le_refl _)) (fun b' x e hx=>aM e hx) (by simp) (fun b' x hx _=>bh hx)
   | full =>
    simp only[Option.some.injEq,Prod.mk.injEq]at he
    obtain⟨rfl,rfl⟩:=he
    have mK:cap<es.length+new.length:=by
     cases hx with
     | sl a7 hk=>simp only[oL]at hk;omega
    exact grow H.length _ _ mK (bm _ _) (fun um _=>h.CI (Nat.le_refl _)) (fun b' x e hx=>aM e hx) (by simp) (fun b' x hx _=>bh hx)
   | arg=>cases he
   | own t0 e0 =>
    cases ht:H[t0]? with
    | none=>simp[ht]at he
    | some bt =>
     cases bt with
     | tok e1 =>
      simp only[ht]at he
      split at he
      ·rename_i FW
       subst FW
       simp only[Option.some.injEq,Prod.mk.injEq]at he
       obtain⟨rfl,rfl⟩:=he
       have zp:t0<H.length:=(List.getElem?_eq_some_iff.1 ht).1
       obtain⟨r1,p1,q1,Fa,CM,mA,zq⟩:=h.dt t0 _ ht
       by_cases ew:es.length+new.length≤cap
       ·-- in place
        cases hx with
        | @sl _ _ r o _ n' a7 hk hc hn h3 h4 =>
         simp only[oL]at hk
         obtain⟨CN,FX⟩:=hk
         have tR:n'=n:=by
          cases es with
          | nil=>simp at FX
          | cons c es=>rw[←hn c (by simp),x6 c (by simp)]
         subst tR
         rw[Fa]at CN
         simp only[Option.some.injEq,Prod.mk.injEq]at CN
         obtain⟨rfl,rfl,rfl⟩:=CN
         have xG:o+es.length*n'+vs.length≤o+cap*n':=by
          rw[s6,Nat.add_assoc,←Nat.add_mul]
          exact Nat.add_le_add_left (Nat.mul_le_mul_right _ ew) _
         obtain⟨le,sr,fr,cF⟩:=h.zo (m:=new.length) (vs:=vs) ht Fa hlen xG
         have g5:=run_storeCells_cells (P:=P) r1 (o+es.length*n') vs 0 w (fun j hj=>by simpa using (mA (o+es.length*n'+j) (by omega) (by omega)).2.2) (fun j hj=>(mA (o+es.length*n'+j) (by omega) (by omega)).2.1 _) (s3.dn s4)
         rw[Nat.add_zero]at g5
         have aJ:=eZ (rt:=rt) (cap:=cap) E s1 (s2 w rfl) ew g5
         refine⟨_,_,_,aJ,le,sr,?_,fr⟩
         have hv:ax g w (es++new.map (·.map T.erase)).flatten (eo++vs):=by rw[gF];exact ax.append x3 s3.erase
         have zr:∀(j:Nat) (v:Value),eo[j]?=some v→my g w r1 (o+j) v:=by
          intro j v hj
          have aC:j<es.length*n':=by rw[←x4];exact(List.getElem?_eq_some_iff.1 hj).1
          obtain⟨_,h7⟩:=x2 _ rfl
          have cJ:=h7 j v hj
          rw[a8]at cJ
          have zs:0<n':=by
           rcases Nat.eq_zero_or_pos n' with e|e
           ·subst e;simp at aC
           ·exact e
          have hi:j/n'<es.length:=Nat.div_lt_of_lt_mul (by rw[Nat.mul_comm];exact aC)
          have e1:es[j/n']?=some es[j/n']:=List.getElem?_eq_getElem hi
          have hm:j%n'<(es[j/n']).length:=by rw[x6 _ (List.getElem_mem hi)];exact Nat.mod_lt _ zs
          have:=(h3 (j/n') (j%n') _ _ e1 (List.getElem?_eq_getElem hm)).2
          have ee:o+j/n'*n'+j%n'=o+j:=by rw[Nat.add_assoc,Nat.mul_comm,Nat.div_add_mod]
          rw[ee]at this
          exact⟨this.1,cJ⟩
         have:=VR.ga (k:=.own t0 (e0+new.length)) (r:=r1) (o:=o) (cap:=cap) tf (hv.mono le) ho (by rw[v7];exact ew) ⟨by rw[v7];simp[Ctx.tok,s6,Nat.add_mul,Nat.add_assoc],by rw[v7];omega⟩ (fun j v hj=>?_)
         ·rw[v7]at this;exact this
         ·rw[List.getElem?_append]at hj
          split at hj
          ·exact(zr j v hj).mono le
          ·rename_i pI
           have:=cF _ v hj
           rw[x4]at this pI
           rwa[show o+es.length*n'+(j-es.length*n')=o+j by omega]at this
       ·exact grow t0 (e0+new.length) _ (by omega) (by simp[zp]) (fun um he=>zq um (by omega)) (fun b' x aF hx=>by
          rcases bj zp hx with⟨e,_⟩|⟨_,ej⟩
          ·exact absurd e aF
          ·exact ej) (by simp) (fun b' x CO aF=>bE CO (by rintro rfl;rw[ht]at CO;cases CO;exact absurd rfl (aF e0)))
      ·cases he
     | cells _=>simp[ht]at he
     | map _=>simp[ht]at he
     | _=>simp[ht]at he
  ·cases he
end
section
variable {P:Program} {w0 w:World} {g:Ctx} {H:aa}
theorem SR.zt {b r o q:Nat}{cs ts:List T}{vs:List Value}(h:SR w0 g H w)(hb:H[b]?=some (.cells cs))(hφ:g.φ b=some (r,o,q))(hv:ax g w ts vs)(ho:aR ts)(ew:o+cs.length+ts.length≤q) :
  let g':=((g.row r fun j=>if o≤j∧j<q then .mut H.length else g.κ r j).at H.length (r,o,q))
  Le g w g' (w.setCells r (o+cs.length) vs)∧SR w0 g' (H.set b .dead++[.cells (cs++ts)]) (w.setCells r (o+cs.length) vs)∧Fr g H g' (H.set b .dead++[.cells (cs++ts)]):=by
 intro g'
 have fk:b<H.length:=(List.getElem?_eq_some_iff.1 hb).1
 obtain⟨h1,h2,h3⟩:=h.dt b _ hb r o q hφ
 have hl:=hv.1
 have hs:∀j,o+cs.length≤j→j<o+cs.length+vs.length→(w.cell? ⟨r,j,none⟩).isSome=true:=fun j a c=>(h2 j (by omega) (by omega)).2.2
 have tr:=Tr.setCells w r (o+cs.length) vs hs
 have hS:∀r' j,lq r (o+cs.length) vs.length r' j→g.κ r' j=.mut b:=by
  rintro r' j⟨rfl,a,c⟩;exact(h2 j (by omega) (by omega)).1
 have hκ:∀r' j,g'.κ r' j=if r'=r∧o≤j∧j<q then .mut H.length else g.κ r' j:=by
  intro r' j
  simp only[g',Ctx.at,Ctx.row]
  by_cases e:r'=r
  ·subst e;simp
  ·simp[e]
 have dQ:∀b',g'.φ b'=if b'=H.length then some (r,o,q)else g.φ b':=fun b'=>rfl
 have le:Le g w g' (w.setCells r (o+cs.length) vs):=Le.cI tr
  (fun b' x hx=>by rw[dQ];split;rename_i e;rw[e,h.tj (Nat.le_refl _)]at hx;cases hx;exact hx)
  (fun r' j hk=>by rw[hκ];split;rename_i c;obtain⟨rfl,a,c⟩:=c;rw[(h2 j a c).1]at hk;cases hk;exact hk) (fun _ _ _ h=>h) (fun r' j gO e=>by rw[hS r' j gO]at e;cases e)
 refine⟨le,h.step (fun b'=>b'=b∨b'=H.length) tr le (fun r' j gO=>.inr (.inl ⟨b,hS r' j gO,.inl rfl⟩)) (fun _ hm=>hm.elim) (fun r' j hr=>?_) (fun b' x hx=>?_) (fun t e x hx=>?_) (fun b' cU hn=>?_) (fun r' j b' hn=>?_) (fun _ _ _ _=>rfl) (fun b' x hx=>?_),?_,fun b' x a c d=>?_⟩
 ·rw[bw]at hr
  rw[hκ];split
  ·rename_i c;obtain⟨rfl,a,c⟩:=c
   have:=h.fresh r' j hr
   rw[(h2 j a c).1]at this;cases this
  ·exact h.fresh r' j hr
 ·rw[dQ]at hx
  simp only[List.length_append,List.length_set,List.length_singleton]
  split at hx
  ·omega
  ·have:=h.gN b' x hx;omega
 ·simp only[List.length_append,List.length_set,List.length_singleton]
  have:=h.cp t e x hx;omega
 ·rw[dQ,if_neg (by omega)]
 ·constructor<;>intro e<;>rw[hκ]<;>split
  ·rename_i c;obtain⟨rfl,a,c⟩:=c;rw[(h2 j a c).1]at e;cases e;exact absurd (.inl rfl) hn
  ·exact e
  ·rename_i c;obtain⟨rfl,a,c⟩:=c;rw[(h2 j a c).1]at e;cases e
  ·exact e
 ·by_cases e:b'=H.length
  ·right
   subst e
   have ej:x=.cells (cs++ts):=by
    have:(H.set b B.dead++[.cells (cs++ts)])[H.length]?=some (.cells (cs++ts)):=by
     rw[List.getElem?_append_right (by simp)];simp
    rw[this]at hx;cases hx;rfl
   subst ej
   intro r' o' q' hq
   rw[dQ,if_pos rfl]at hq
   simp only[Option.some.injEq,Prod.mk.injEq]at hq
   obtain⟨rfl,rfl,rfl⟩:=hq
   refine⟨by rw[List.length_append];omega,fun j a c=>⟨by rw[hκ];simp[a,c],fun j0=>by rw[World.frozen?_setCells];exact(h2 j a c).2.1 j0,tr.ff r j ?_ (h2 j a c).2.2⟩,fun i t hi=>?_⟩
   ·obtain⟨x,hx⟩:=Option.isSome_iff_exists.1 (h2 j a c).2.2;exact dP hx
   ·rw[List.getElem?_append]at hi
    split at hi
    ·rename_i aC
     obtain⟨a,v,xC,xD⟩:=h3 i t hi
     exact⟨a,v,by rw[aV r vs _ w r (o+i) (by omega)];exact xC,xD.mono le⟩
    ·rename_i pI
     have aC:i-cs.length<vs.length:=by rw[←hl];exact(List.getElem?_eq_some_iff.1 hi).1
     refine⟨ho t (List.mem_of_getElem? hi),_,?_,(hv.2 _ t _ hi (List.getElem?_eq_getElem aC)).mono le⟩
     have:=aX r vs (o+cs.length) w hs (i-cs.length) _ (List.getElem?_eq_getElem aC)
     rwa[show o+cs.length+(i-cs.length)=o+i by omega]at this
  ·have zu:(H.set b B.dead)[b']?=some x:=aM (by simpa using e) hx
   rcases bj fk zu with⟨rfl,rfl⟩|⟨aF,ej⟩
   ·right;trivial
   ·exact .inl ⟨by rintro (h|h);exact aF h;exact e h,ej⟩
 ·simp
 ·have aC:b'<H.length:=(List.getElem?_eq_some_iff.1 a).1
  have aF:b'≠b:=by rintro rfl;rw[hφ]at d;cases d
  exact⟨bh (bE a aF),by rw[dQ,if_neg (by omega)];exact d⟩
theorem qg {x:T}{vx:Value}(hx:VR g w x vx)(hk:pN x=true):∃(a:Option Addr) (l c:Nat),vx=.slice a l c∧l≤c:=by
 cases hx with
 | slnil=>exact⟨_,_,_,rfl,Nat.le_refl _⟩
 | dm=>exact⟨_,_,_,rfl,Nat.le_refl _⟩
 | sl a7 nC hc hn h1 h2=>exact⟨_,_,_,rfl,hc⟩
 | aP h hc hq=>exact⟨_,_,_,rfl,hc⟩
 | _=>simp[pN]at hk
theorem qh {sT xT elem rt:TypeId}{ei:TypeInfo}{zv:Value}{n bytes:Nat}{x y t:T}{new:List (List T)}{vx vy:Value}{H':aa}(E:gb P sT xT elem ei zv n bytes)
  (h:SR w0 g H w) (hx:VR g w x vx) (hy:VR g w y vy) (jd:aH H n y=some new) (he:oI H n bytes x new=some (t,H')) :
  aG P w0 g H w (Builtin.append_ #[sT,xT] rt #[vx,vy]) t H':=by
 obtain⟨vs,s1,s2,s3,s4,s5,s6⟩:=nH (P:=P) h hy jd
 have iT:=cu new s5
 cases gg:new with
 | nil =>
  subst gg
  simp only[oI]at he
  split at he
  case isFalse=>cases he
  rename_i hk
  simp only[Option.some.injEq,Prod.mk.injEq]at he
  obtain⟨rfl,rfl⟩:=he
  have fW:vs=[]:=by simpa using s6
  subst fW
  have:∃a l c,vx=.slice a l c∧l≤c:=qg hx hk
  obtain⟨a,l,c,rfl,yW⟩:=this
  exact aG.same h (ey E s1 (s2 w rfl) yW) hx
 | cons c0 CL =>
  have hlen:0<new.length:=by rw[gg];simp
  rw[gg]at he
  simp only[oI]at he
  rw[←gg]at he
  have empty:∀(a:Option Addr),vx=.slice a 0 0→dL (0+new.length) bytes=true→t=.aP H.length 0 new.length n→H'=H++[.cells new.flatten]→aG P w0 g H w (Builtin.append_ #[sT,xT] rt #[vx,vy]) t H':=by
   rintro a rfl cY rfl rfl
   have zw:∀w':World,w'.heap=w.heap→(Builtin.firstCells n 0 (.slice a 0 0)).run P w'=.ok ([]:List Value).toArray w':=by
    intro w' _
    cases a with
    | none=>simp[Builtin.firstCells]
    | some a=>simpa[Builtin.firstCells]using run_loadCells_list (P:=P) w' a [] (by simp)
   obtain⟨bK,rest,uq,ur,aJ⟩:=cX (rt:=rt) (w:=w) E s1 s2 zw (by omega) cY
   have cW:(([]:List Value)++vs++rest).toArray.size=bK*n:=by
    simp only[List.size_toArray,List.nil_append]
    rw[List.length_append,s6,ur,←Nat.add_mul];congr 1;omega
   have cJ:∀(i:Nat) (t:T),new.flatten[i]?=some t→t.one=true∧∃v,(([]:List Value)++vs++rest).toArray[i]?=some v∧VR g w t v:=by
    intro i t hi
    obtain⟨v,h1,h2⟩:=s3.cg i t hi
    refine⟨s4 t (List.mem_of_getElem? hi),v,?_,h2⟩
    simp only[List.nil_append,List.getElem?_toArray]at h1 ⊢
    rw[List.getElem?_append_left (List.getElem?_eq_some_iff.1 h1).1];exact h1
   obtain⟨g',le,sr,fr,hφ⟩:=h.cP (c:=([]++vs++rest).toArray) (ty:=elem) (cs:=new.flatten) (gZ w) rfl cJ
   refine⟨_,_,g',aJ,le,sr,?_,fr⟩
   rw[Nat.zero_add]at uq ⊢
   exact .aP (r:=w.heap.size) (o:=0) (off:=0) hφ uq (by rw[cW];simp)
  cases x with
  | sl k es =>
   cases k with
   | nil =>
    simp only at he
    split at he
    ·rename_i hc
     obtain⟨cY,rfl⟩:=hc
     simp only[Option.some.injEq,Prod.mk.injEq]at he
     cases hx with
     | slnil=>exact empty none rfl (by simpa using cY) he.1.symm he.2.symm
     | sl a7 hk=>exact hk.elim
    ·cases he
   | full =>
    simp only at he
    split at he
    ·rename_i hc
     obtain⟨cY,rfl⟩:=hc
     simp only[Option.some.injEq,Prod.mk.injEq]at he
     cases hx with
     | sl a7 hk =>
      simp only[oL,List.length_nil]at hk
      subst hk
      exact empty _ rfl (by simpa using cY) he.1.symm he.2.symm
    ·cases he
   | arg=>cases he
   | own _ _=>cases he
  | aP b off len n' =>
   simp only at he
   cases hb:H[b]? with
   | none=>simp[hb]at he
   | some z =>
    cases z with
    | cells cs =>
     simp only[hb]at he
     split at he
     ·rename_i hc
      obtain⟨rfl,rfl,kN,cY⟩:=hc
      simp only[Option.some.injEq,Prod.mk.injEq]at he
      obtain⟨rfl,rfl⟩:=he
      cases hx with
      | @aP _ _ _ _ r o q cap hφ fF hq =>
       obtain⟨h1,h2,h3⟩:=h.dt b _ hb r o q hφ
       have fk:b<H.length:=(List.getElem?_eq_some_iff.1 hb).1
       by_cases ew:len+new.length≤cap
       ·have Fb:o+cs.length+new.flatten.length≤q:=by
         rw[iT,←kN,←hq,Nat.add_assoc,←Nat.add_mul]
         have:=Nat.mul_le_mul_right n' ew
         omega
        obtain⟨le,sr,fr⟩:=h.zt hb hφ s3 s4 Fb
        have fW:vs.length=new.flatten.length:=by rw[s6,iT]
        have g5:=run_storeCells_cells (P:=P) r (o+0+len*n') vs 0 w (fun j hj=>by simpa using (h2 (o+len*n'+j) (by omega) (by omega)).2.2) (fun j hj=>(h2 (o+len*n'+j) (by omega) (by omega)).2.1 _) (s3.dn s4)
        rw[Nat.add_zero]at g5
        have aJ:=eZ (rt:=rt) (cap:=cap) E s1 (s2 w rfl) ew g5
        rw[kN]at aJ
        refine⟨_,_,_,aJ,le,sr,?_,fr⟩
        exact .aP (off:=0) (r:=r) (o:=o) (q:=q) (by simp[Ctx.at]) ew (by rw[←hq])
       ·have hp:gD H (len*n') (.ptr b 0)=some cs:=by simp[gD,hb,kN]
        obtain⟨r',o',eo,e1,e2,e3,e4,e5⟩:=fg h (.ptr hφ) hp
        cases e1
        have yR:∀w':World,w'.heap=w.heap→(Builtin.firstCells n' len (.slice (some ⟨r,o+0,none⟩) len cap)).run P w'=.ok eo.toArray w':=by
         intro w' mR
         have:=run_loadCells_list (P:=P) w' ⟨r,o+0,none⟩ eo (fun j v hj=>by rw[gh mR,a8];exact e3 j v hj)
         rw[e2]at this
         simpa[Builtin.firstCells]using this
        obtain⟨bK,rest,uq,ur,aJ⟩:=cX (rt:=rt) (w:=w) E s1 s2 yR (by omega) cY
        have cW:(eo++vs++rest).toArray.size=bK*n':=by
         simp only[List.size_toArray]
         rw[List.length_append,List.length_append,e2,s6,ur,←Nat.add_mul,←Nat.add_mul];congr 1;omega
        have qi:ax g w (cs++new.flatten) (eo++vs):=ax.append e4 s3
        obtain⟨le,sr,fr⟩:=h.mut (c:=(eo++vs++rest).toArray) (ty:=elem) (H':=H.set b .dead++[.cells (cs++new.flatten)]) (b:=H.length) (cs:=cs++new.flatten) (gZ w) rfl
         (by rw[List.getElem?_append_right (by simp)];simp) (h.tj (Nat.le_refl _))
         (fun b' x aF hx=>by
          have zu:(H.set b B.dead)[b']?=some x:=aM (by simpa using aF) hx
          rcases bj fk zu with⟨_,rfl⟩|⟨_,ej⟩
          ·exact .inr rfl
          ·exact .inl ej) (by simp)
         (fun b' x a _ d _=>bh (bE a (by rintro rfl;rw[hφ]at d;cases d)))
         (fun i t hi=>by
          obtain⟨v,k1,k2⟩:=qi.cg i t hi
          refine⟨?_,v,?_,k2⟩
          ·rcases List.mem_append.1 (List.mem_of_getElem? hi)with hm|hm
           ·exact e5 t hm
           ·exact s4 t hm
          ·simp only[List.getElem?_toArray]at k1 ⊢
           rw[List.getElem?_append_left (List.getElem?_eq_some_iff.1 k1).1];exact k1)
        refine⟨_,_,_,aJ,le,sr,.aP (r:=w.heap.size) (o:=0) (off:=0) (q:=(eo++vs++rest).toArray.size) (by simp[Ctx.at]) uq (by rw[cW];simp),by simp,fun b' x a c d=>fr b' x a c d (by have:=(List.getElem?_eq_some_iff.1 a).1;omega)⟩
     ·cases he
    | map _=>simp[hb]at he
    | tok _=>simp[hb]at he
    | _=>simp[hb]at he
  | _=>simp at he
theorem jw:∀(vs:List Value) (k off:Nat) (cells:Array Value),off+k+vs.length≤cells.size →
  ((vs.zipIdx k).foldl (fun (cs:Array Value) (x:Value×Nat)=>cs.setIfInBounds (off+x.2) x.1) cells).toList=cells.toList.take (off+k)++vs++cells.toList.drop (off+k+vs.length)
 | [],k,off,cells,_=>by simp
 | v :: vs,k,off,cells,h=>by
  simp only[List.length_cons]at h
  rw[List.zipIdx_cons,List.foldl_cons,jw vs (k+1) off _ (by simp;omega)]
  simp only[Array.toList_setIfInBounds,List.length_cons]
  have aC:off+k<cells.toList.length:=by simp;omega
  rw[show off+(k+1)=off+k+1 by omega,List.take_add_one]
  rw[show off+k+1+vs.length=off+k+(vs.length+1) by omega]
  rw[List.take_set_of_le (Nat.le_refl _),List.getElem?_set_self aC,List.drop_set_of_lt (by omega)]
  simp
theorem gi {off size:Nat}{v:Value}{cells:Array Value}(hs:v.cells.size=size)(hle:off+size≤cells.size) :
  (v.cells.zipIdx.foldl (fun (cs:Array Value) (x:Value×Nat)=>cs.setIfInBounds (off+x.2) x.1) cells).toList=cells.toList.take off++v.cells.toList++cells.toList.drop (off+size):=by
 have:=jw v.cells.toList 0 off cells (by simp[hs];omega)
 rw[←Array.foldl_toList,Array.toList_zipIdx]
 simpa[hs]using this
def placesOf (P:Program):List Field→List (Nat×Nat)
 | []=>[]
 | f :: fs=>(f.offset,P.cellsOf f.type) :: placesOf P fs
theorem run_places {fs:List Field}(hi:∀f∈fs,∃i,P.info? f.type=some i):(fs.mapM fun f=>do pure (f.offset,←sizeOf f.type):Sem (List (Nat×Nat))).run P w=.ok (placesOf P fs) w:=by
 induction fs with
 | nil=>simp[placesOf]
 | cons f fs ih =>
  obtain⟨i,hf⟩:=hi f (by simp)
  have ih:=ih (fun f' h'=>hi f' (by simp[h']))
  have h0:(sizeOf f.type).run P w=.ok i.size w:=by simp[sizeOf,ar hf]
  rw[List.mapM_cons]
  simp only[Sem.run_bind,h0,Result.andThen_ok,Sem.run_pure,ih]
  simp[placesOf,Program.cellsOf,hf]
inductive PV (g:Ctx)(w:World)(R:ai):List (Nat×X)→List (Nat×Value)→Prop
 | nil:PV g w R [] []
 | cons {i:Nat} {x:X} {v:Value} {ps:List (Nat×X)} {pv:List (Nat×Value)} (h:VR g w (x.ev R) v) (hs:PV g w R ps pv):PV g w R ((i,x) :: ps) ((i,v) :: pv)
theorem uu {R:ai}{place:Nat→Option (Nat×Nat)}{ps:List (Nat×X)}{pv:List (Nat×Value)}(hv:PV g w R ps pv):∀(l:List (Nat×List T)) (z cs:List T) (cells:Array Value),(∀p∈ps,(place p.1).isSome=true) →
  bU R (ps.map fun p=>(((place p.1).getD (0,0)).1,((place p.1).getD (0,0)).2,p.2))=some l→eV z l=some cs→ax g w z cells.toList→aR z →
  ∃a9,Instr.fill place cells pv=some a9∧ax g w cs a9.toList∧aR cs∧a9.size=cells.size:=by
 induction hv with
 | nil =>
  intro l z cs cells hp hl hf hz ho
  simp[bU]at hl;subst hl
  simp[eV]at hf;subst hf
  exact⟨cells,rfl,hz,ho,rfl⟩
 | @cons i x v ps pv zx _ ih =>
  intro l z cs cells hp hl hf hz ho
  have B8:=hp (i,x) (by simp)
  cases xH:place i with
  | none=>simp[xH]at B8
  | some os =>
   obtain⟨off,size⟩:=os
   simp only[List.map_cons,xH,Option.getD_some]at hl
   simp only[bU]at hl
   cases hc:(x.ev R).cells? with
   | none=>simp[hc]at hl
   | some c =>
    cases hr:bU R (ps.map fun p=>(((place p.1).getD (0,0)).1,((place p.1).getD (0,0)).2,p.2))with
    | none=>simp[hc,hr]at hl
    | some l' =>
     simp only[hc,hr]at hl
     split at hl
     ·rename_i gY
      simp at hl;subst hl
      simp only[eV]at hf
      split at hf
      ·rename_i hle
       obtain⟨nI,zy⟩:=dC zx hc
       have cW:v.cells.size=size:=by have:=nI.1;simp at this;omega
       have lu:z.length=cells.size:=by have:=hz.1;simpa using this
       have CP:off+size≤cells.size:=by omega
       have bI:=gi cW CP
       have iU:ax g w (z.take off++c++z.drop (off+c.length)) (v.cells.zipIdx.foldl (fun (cs:Array Value) (x:Value×Nat)=>cs.setIfInBounds (off+x.2) x.1) cells).toList:=by
        rw[bI,gY]
        exact ax.append (ax.append (hz.take off) nI) (hz.drop (off+size))
       have fm:aR (z.take off++c++z.drop (off+c.length)):=by
        intro t ht
        rcases List.mem_append.1 ht with ht|ht
        ·rcases List.mem_append.1 ht with ht|ht
         ·exact ho t (List.mem_of_mem_take ht)
         ·exact zy t ht
        ·exact ho t (List.mem_of_mem_drop ht)
       obtain⟨a9,k1,k2,k3,k4⟩:=ih l' _ cs _ (fun x hx=>hp x (by simp[hx])) hr hf iU fm
       refine⟨a9,?_,k2,k3,?_⟩
       ·simp only[Instr.fill,xH]
        rw[if_neg]
        ·exact k1
        ·simp[cW];omega
       ·rw[k4]
        have:=congrArg List.length bI
        simp only[Array.length_toList,List.length_append,List.length_take,List.length_drop]at this
        omega
      ·cases hf
     ·cases hl
theorem oW {ty:TypeId}{fs:Array Field}{i:TypeInfo}{zv:Value}{R:ai}{ps:List (Nat×X)}{pv:List (Nat×Value)}{z cs:List T}{l:List (Nat×List T)}(hu:P.underlying ty=some (.struct fs))(hi:P.info? ty=some i)(hz:i.zero=some zv)(qj:bO zv.cells.toList=some z)
  (FY:∀f∈fs.toList,∃i,P.info? f.type=some i) (hp:∀p∈ps,p.1<fs.size) (h:SR w0 g H w) (hv:PV g w R ps pv)
  (hl:bU R (ps.map fun p=>((((placesOf P fs.toList)[p.1]?).getD (0,0)).1,(((placesOf P fs.toList)[p.1]?).getD (0,0)).2,p.2))=some l) (hf:eV z l=some cs) :
  aG P w0 g H w (Instr.build ty pv.toArray) (.agg cs) H:=by
 obtain⟨oX,pJ⟩:=bu (g:=g) (w:=w) _ _ qj
 have hlen:∀l:List Field,(placesOf P l).length=l.length:=by
  intro l;induction l with
  | nil=>rfl
  | cons f l ih=>simp[placesOf,ih]
 have B9:∀p∈ps,((placesOf P fs.toList)[p.1]?).isSome=true:=fun p FZ=>by
  have:=hp p FZ
  rw[List.getElem?_eq_getElem (by rw[hlen];simpa using this)];rfl
 obtain⟨a9,k1,k2,k3,_⟩:=uu (place:=fun (i:Nat)=>(placesOf P fs.toList)[i]?) hv l z cs zv.cells B9 hl hf oX pJ
 refine aG.same h (v:=.agg a9) ?_ (by have:=k2.agg k3;simpa using this)
 have xH:(fs.mapM fun f=>do pure (f.offset,←sizeOf f.type):Sem (Array (Nat×Nat))).run P w=.ok (placesOf P fs.toList).toArray w:=by
  rw[Array.mapM_eq_mapM_toList]
  simp only[Sem.run_map,run_places FY,Result.andThen_ok]
 simp only[Instr.build,zeroValue,Sem.run_bind,ar hi,hz,Result.andThen_ok,Sem.run_pure,run_underlying hu,xH]
 have e:(fun (x:Nat)=>(placesOf P fs.toList).toArray[x]?)=fun (i:Nat)=>(placesOf P fs.toList)[i]?:=by funext x;simp
 simp[e,k1]
end
section
variable {P:Program} {w0 w:World} {g:Ctx} {H:aa}
theorem eB {n:Nat}:∀(es:List (List T)) (i:Nat) (c:List T),(∀c∈es,c.length=n)→i<es.length→(es.set i c).flatten=es.flatten.take (i*n)++c++es.flatten.drop (i*n+n)
 | [],i,c,_,h=>by simp at h
 | d :: es,0,c,hn,_=>by
  have hd:=hn d (by simp)
  simp[←hd]
 | d :: es,i+1,c,hn,h=>by
  have hd:=hn d (by simp)
  have ih:=eB es i c (fun c hc=>hn c (by simp[hc])) (by simpa using h)
  simp only[List.set_cons_succ,List.flatten_cons,ih]
  have e1:(d++es.flatten).take ((i+1)*n)=d++es.flatten.take (i*n):=by
   rw[List.take_append,hd,Nat.succ_mul]
   rw[List.take_of_length_le (by omega)]
   congr 2;omega
  have e2:(d++es.flatten).drop ((i+1)*n+n)=es.flatten.drop (i*n+n):=by
   rw[List.drop_append,hd,Nat.succ_mul]
   rw[List.drop_of_length_le (by omega)]
   simp only[List.nil_append]
   congr 1;omega
  rw[e1,e2];simp
theorem qk {R:ai}{n:Nat}{ps:List (Nat×X)}{pv:List (Nat×Value)}(hv:PV g w R ps pv):∀(es fs:List (List T)) (cells:Array Value),dz n es R ps=some fs→(∀c∈es,c.length=n)→ax g w es.flatten cells.toList→aR es.flatten →
  ∃a9,Instr.fill (fun i=>some (i*n,n)) cells pv=some a9∧ax g w fs.flatten a9.toList∧aR fs.flatten∧(∀c∈fs,c.length=n)∧fs.length=es.length:=by
 induction hv with
 | nil =>
  intro es fs cells he hn hz ho
  simp[dz]at he;subst he
  exact⟨cells,rfl,hz,ho,hn,rfl⟩
 | @cons i x v ps pv zx _ ih =>
  intro es fs cells he hn hz ho
  simp only[dz]at he
  cases hc:(x.ev R).cells? with
  | none=>simp[hc]at he
  | some c =>
   simp only[hc]at he
   split at he
   ·rename_i aB
    obtain⟨gY,hi⟩:=aB
    obtain⟨nI,zy⟩:=dC zx hc
    have cW:v.cells.size=n:=by have:=nI.1;simp at this;omega
    have gF:=cu es hn
    have lu:es.flatten.length=cells.size:=by have:=hz.1;simpa using this
    have hle:i*n+n≤cells.size:=by
     rw[←lu,gF,←Nat.succ_mul];exact Nat.mul_le_mul_right _ hi
    have bI:=gi cW hle
    have mS:=eB es i (c.map T.erase) hn hi
    have iU:ax g w (es.set i (c.map T.erase)).flatten (v.cells.zipIdx.foldl (fun (cs:Array Value) (x:Value×Nat)=>cs.setIfInBounds (i*n+x.2) x.1) cells).toList:=by
     rw[bI,mS]
     exact ax.append (ax.append (hz.take _) nI.erase) (hz.drop _)
    have fm:aR (es.set i (c.map T.erase)).flatten:=by
     rw[mS]
     intro t ht
     rcases List.mem_append.1 ht with ht|ht
     ·rcases List.mem_append.1 ht with ht|ht
      ·exact ho t (List.mem_of_mem_take ht)
      ·exact il zy t ht
     ·exact ho t (List.mem_of_mem_drop ht)
    obtain⟨a9,k1,k2,k3,k4,k5⟩:=ih _ fs _ he (fun c' hP=>by
     rcases List.mem_or_eq_of_mem_set hP with h|h
     ·exact hn c' h
     ·rw[h,List.length_map];exact gY) iU fm
    refine⟨a9,?_,k2,k3,k4,by simpa using k5⟩
    simp only[Instr.fill]
    rw[if_neg]
    ·exact k1
    ·simp[cW];omega
   ·cases he
theorem eC {n:Nat}{z:List T}{zc:Array Value}(hz:ax g w z zc.toList)(hn:z.length=n)(m:Nat):ax g w (List.replicate m z).flatten ((Array.range (m*n)).map (fun i=>zc[i%zc.size]!)).toList:=by
 have uk:zc.size=n:=by have:=hz.1;simp at this;omega
 refine⟨by simp[hn],fun i t v a b=>?_⟩
 have hi:i<m*n:=by
  have:=(List.getElem?_eq_some_iff.1 b).1
  simpa using this
 have zz:0<n:=by
  rcases Nat.eq_zero_or_pos n with e|e
  ·subst e;simp at hi
  ·exact e
 have F0:i/n<m:=Nat.div_lt_of_lt_mul (by rw[Nat.mul_comm];exact hi)
 have zA:i%n<z.length:=by rw[hn];exact Nat.mod_lt _ zz
 have e1:(List.replicate m z)[i/n]?=some z:=by simp[F0]
 have:=eu (n:=n) (List.replicate m z) (fun c hc=>by rw[List.eq_of_mem_replicate hc];exact hn) (i/n) (i%n) z _ e1 (List.getElem?_eq_getElem zA)
 rw[show i/n*n+i%n=i by rw[Nat.mul_comm,Nat.div_add_mod]]at this
 rw[this]at a
 simp at a;subst a
 have aC:i%zc.size<zc.toList.length:=by rw[uk];simp[uk];exact Nat.mod_lt _ zz
 have e2:zc.toList[i%zc.size]?=some v:=by
  simp[hi]at b
  rw[←b,List.getElem?_eq_getElem aC]
  have:i%zc.size<zc.size:=by simpa using aC
  simp[this]
 rw[uk]at e2
 exact hz.2 (i%n) _ v (List.getElem?_eq_getElem zA) e2
theorem dD {z:List T}(ho:aR z)(m:Nat):aR (List.replicate m z).flatten:=by
 intro t ht
 obtain⟨c,h1,h2⟩:=List.mem_flatten.1 ht
 rw[List.eq_of_mem_replicate h1]at h2
 exact ho t h2
theorem ql (w:World):Tr w w ct cV:=Tr.refl w
theorem uv {ty elem:TypeId}{ei:TypeInfo}{zv:Value}{R:ai}{ps:List (Nat×X)}{pv:List (Nat×Value)}{z:List T}{len:Nat}{fs:List (List T)}(hu:P.underlying ty=some (.slice elem))(hi:P.info? elem=some ei)(hz:ei.zero=some zv)(qj:bO zv.cells.toList=some z)
  (mT:z.length=ei.size) (cW:len*ei.size≤2^24) (h:SR w0 g H w) (hv:PV g w R ps pv) (he:dz z.length (List.replicate len z) R ps=some fs) :
  aG P w0 g H w (Instr.buildSlice ty len pv.toArray) (.sl .full fs) H:=by
 obtain⟨oX,pJ⟩:=bu (g:=g) (w:=w) _ _ qj
 have CQ:=eC oX mT len
 have zw:=dD pJ len
 rw[mT]at he
 obtain⟨a9,k1,k2,k3,k4,k5⟩:=qk hv _ fs ((Array.range (len*ei.size)).map (fun i=>zv.cells[i%zv.cells.size]!)) he (fun c hc=>by rw[List.eq_of_mem_replicate hc];exact mT) CQ zw
 have hlen:fs.length=len:=by rw[k5];simp
 obtain⟨le,sr,fr,cF⟩:=h.cF (c:=a9) (ty:=elem) (ql w) rfl
 refine⟨.slice (some ⟨w.heap.size,0,none⟩) len len,_,_,?_,le,sr,?_,fr⟩
 ·have qm:¬len*ei.size>2^24:=by omega
  by_cases h0:len*ei.size=0
  ·have e0:((Array.range (len*ei.size)).map (fun i=>zv.cells[i%zv.cells.size]!))=((Array.range (len*ei.size)).map (fun i=>(#[]:Array Value)[i%(#[]:Array Value).size]!)):=by
    rw[h0];simp
   rw[e0]at k1
   simp only[Instr.buildSlice,Sem.run_bind,run_underlying hu,Result.andThen_ok,sizeOf,ar hi,Sem.run_pure,qm,if_false,h0,if_true]
   rw[h0]at k1
   simp at k1
   simp[k1,newRow]
  ·simp only[Instr.buildSlice,Sem.run_bind,run_underlying hu,Result.andThen_ok,sizeOf,ar hi,Sem.run_pure,qm,if_false,h0,zeroValue,hz]
   simp[k1,newRow]
 ·have:=VR.ga (k:=.full) (r:=w.heap.size) (o:=0) (cap:=fs.length) k4 (k2.mono le) k3 (Nat.le_refl _) rfl (fun j v hj=>by rw[Nat.zero_add];exact cF j v (by simpa using hj))
  rw[hlen]at this;exact this
theorem wrap_i64 {n:Int}(h0:0≤n)(h1:n≤9223372036854775807):IntKind.i64.wrap n=n:=IntWalk.i64_in n (by omega)
theorem run_makeSlice {ty elem:TypeId}{ei:TypeInfo}{zv:Value}{k1 k2:IntKind}{l c:Int}(hu:P.underlying ty=some (.slice elem))(hi:P.info? elem=some ei)(hz:ei.zero=some zv)(h0:0≤l)(yW:l≤c)(hc:c*ei.bytes≤281474976710656)(hP:c≤9223372036854775807) :
  (Instr.makeSlice ty (.int k1 l) (.int k2 c)).run P w=.ok (.slice (some ⟨w.heap.size,0,none⟩) l.toNat c.toNat)
   (w.alloc (.cells ((Array.range (c.toNat*ei.size)).map (fun i=>(if c.toNat*ei.size=0 then(#[]:Array Value)else zv.cells)[i%(if c.toNat*ei.size=0 then(#[]:Array Value)else zv.cells).size]!)) elem)):=by
 have e1:=wrap_i64 h0 (by omega:l≤9223372036854775807)
 have e2:=wrap_i64 (by omega:0≤c) hP
 have t1:((decide (c<0)||decide ((ei.bytes:Int)*c>2^48))||decide (l<0)||decide (l>c))=false:=by
  have:(ei.bytes:Int)*c=c*ei.bytes:=Int.mul_comm _ _
  simp[this];omega
 simp only[Instr.makeSlice,Sem.run_bind,run_underlying hu,Result.andThen_ok,asInt,asIntOf,Sem.run_pure,ar hi,e1,e2,t1]
 by_cases hn:c.toNat*ei.size=0
 ·simp[sizeOf,ar hi,hn,newRow]
 ·simp[sizeOf,ar hi,hn,zeroValue,hz,newRow]
theorem uw {ty elem:TypeId}{ei:TypeInfo}{zv:Value}{mu:Bool}{z:List T}{x y t:T}{l c:Nat}{vx vy:Value}{H':aa}(hu:P.underlying ty=some (.slice elem))(hi:P.info? elem=some ei)(hz:ei.zero=some zv)(qj:bO zv.cells.toList=some z)(mT:z.length=ei.size)(zz:ei.size≠0)
  (h:SR w0 g H w) (hx:VR g w x vx) (hy:VR g w y vy) (hl:aQ x=some l) (hc:aQ y=some c) (yW:l≤c) (hb:c*ei.bytes≤281474976710656) (Iq:c≤9223372036854775807)
  (he:(if mu then(T.aP H.length 0 l z.length,H++[.cells (List.replicate l z).flatten])else if l=0 then(.sl .arg [],H)else(.sl (.own H.length l) (List.replicate l z),H++[.tok l]))=(t,H')) :
  aG P w0 g H w (Instr.makeSlice ty vx vy) t H':=by
 obtain⟨oX,pJ⟩:=bu (g:=g) (w:=w) _ _ qj
 obtain⟨k1,n1,rfl,a1,b1⟩:=bD hx hl
 obtain⟨k2,n2,rfl,a2,b2⟩:=bD hy hc
 have aJ:=run_makeSlice (P:=P) (w:=w) (k1:=k1) (k2:=k2) hu hi hz a1 (by omega:n1≤n2) (by
  have:(n2.toNat:Int)=n2:=Int.toNat_of_nonneg a2
  rw[←this,b2];omega) (by omega)
 rw[b1,b2]at aJ
 have tn:=eC oX mT c
 have bL:=dD pJ c
 have qn:(List.replicate c z).flatten=(List.replicate l z).flatten++(List.replicate (c-l) z).flatten:=by
  rw[←List.flatten_append,List.replicate_append_replicate];congr 2;omega
 have Fc:(List.replicate l z).flatten.length=l*ei.size:=by rw[cu (n:=ei.size) _ (fun c hc=>by rw[List.eq_of_mem_replicate hc];exact mT),List.length_replicate]
 have fL:(Array.range (c*ei.size)).map (fun i=>(if c*ei.size=0 then(#[]:Array Value)else zv.cells)[i%(if c*ei.size=0 then(#[]:Array Value)else zv.cells).size]!)=(Array.range (c*ei.size)).map (fun i=>zv.cells[i%zv.cells.size]!):=by
  by_cases h0:c*ei.size=0
  ·rw[h0];simp
  ·simp only[h0,if_false]
 rw[fL]at aJ
 generalize hA:(Array.range (c*ei.size)).map (fun i=>zv.cells[i%zv.cells.size]!)=A at aJ tn
 have cW:A.size=c*ei.size:=by rw[←hA];simp
 have cJ:∀(i:Nat) (t:T),(List.replicate l z).flatten[i]?=some t→t.one=true∧∃v,A[i]?=some v∧VR g w t v:=by
  intro i t fV
  have e:(List.replicate c z).flatten[i]?=some t:=by
   rw[qn,List.getElem?_append_left (List.getElem?_eq_some_iff.1 fV).1];exact fV
  obtain⟨v,h1,h2⟩:=tn.cg i t e
  exact⟨bL t (List.mem_of_getElem? e),v,by simpa using h1,h2⟩
 cases mu with
 | true =>
  simp only[if_true,Prod.mk.injEq]at he
  obtain⟨rfl,rfl⟩:=he
  obtain⟨g',le,sr,fr,hφ⟩:=h.cP (c:=A) (ty:=elem) (ql w) rfl cJ
  exact⟨_,_,g',aJ,le,sr,.aP (r:=w.heap.size) (o:=0) (off:=0) hφ yW (by rw[cW,mT];simp),fr⟩
 | false =>
  simp only[Bool.false_eq_true,if_false]at he
  split at he
  ·rename_i yS
   subst yS
   simp only[Prod.mk.injEq]at he
   obtain⟨rfl,rfl⟩:=he
   obtain⟨le,sr,fr,cF⟩:=h.cF (c:=A) (ty:=elem) (ql w) rfl
   exact⟨_,_,_,aJ,le,sr,.sl (n:=0) (fun _ _=>.nilIface) trivial (by simp) (by simp) (by simp) (by simp),fr⟩
  ·rename_i yS
   simp only[Prod.mk.injEq]at he
   obtain⟨rfl,rfl⟩:=he
   obtain⟨le,sr,fr,cF,hp⟩:=h.qf (c:=A) (ty:=elem) (t:=H.length) (e:=l) (k:=l*ei.size) (H':=H++[.tok l]) (ql w) rfl (bm _ _) (by rw[cW];exact Nat.mul_le_mul_right _ yW) (fun um _=>h.CI (Nat.le_refl _))
    (fun b' x e hx=>aM e hx) (by simp) (fun b' x hx _=>bh hx)
   refine⟨_,_,_,aJ,le,sr,?_,fr⟩
   have hv:ax g w (List.replicate l z).flatten (A.toList.take (l*ei.size)):=by
    have:=tn.take (l*ei.size)
    rwa[qn,List.take_append_of_le_length (by omega),List.take_of_length_le (by omega)]at this
   have:=VR.ga (k:=.own H.length l) (r:=w.heap.size) (o:=0) (cap:=c) (n:=ei.size) (es:=List.replicate l z) (fun c hc=>by rw[List.eq_of_mem_replicate hc];exact mT) (hv.mono le) (dD pJ l) (by simpa using yW)
    ⟨by rw[hp,cW];simp,by simp;omega⟩ (fun j v hj=>by
     rw[Nat.zero_add]
     rw[List.getElem?_take]at hj
     split at hj
     ·rename_i aC;exact cF j v aC (by simpa using hj)
     ·cases hj)
   simpa using this
theorem ux {f:Nat}{ep:List T}{vs:List Value}(h:SR w0 g H w)(hv:ax g w ep vs):aG P w0 g H w (Instr.makeFunc (.func f) #[] vs.toArray) (.fn f ep) H :=
 aG.same h rfl (.fn (by simp[hv.1]) (fun i t v a b=>hv.2 i t v a (by simpa using b)))
end
section
variable {P:Program} {w0 w:World} {g:Ctx} {H:aa}
theorem VR.yP {t:T}{v:Value}(h:VR g w t v):VR g w (yP t) v:=by
 cases h with
 | bT h hc hq=>exact .aP h hc hq
 | aP h hc hq=>exact .aP h hc hq
 | int k n=>exact .int k n
 | bool b=>exact .bool b
 | str s=>exact .str s
 | aE=>exact .aE
 | ptr h=>exact .ptr h
 | cC a7 h1 h2=>exact .cC a7 h1 h2
 | b6=>exact .b6
 | map h=>exact .map h
 | slnil=>exact .slnil
 | dm a=>exact .dm a
 | sl a7 hk hc hn h1 h2=>exact .sl a7 hk hc hn h1 h2
 | dh=>exact .dh
 | fn hl h=>exact .fn hl h
 | gV h=>exact .gV h
 | cD=>exact .cD
 | agg hl h1 h2=>exact .agg hl h1 h2
 | bg hl h2=>exact .bg hl h2
theorem uy {ty rt:TypeId}{e:TypeId}{b off len n c:Nat}{vx:Value}(hu:P.underlying ty=some (.slice e))(h:SR w0 g H w)(hx:VR g w (.bT b off len n c) vx) :
  aG P w0 g H w (Builtin.cap_ #[ty] rt #[vx]) (.int .i64 (c:Nat)) H:=by
 cases hx with
 | bT hφ hc hq=>exact aG.same h (v:=.int .i64 c) (by simp[Builtin.cap_,run_underlying hu,goInt]) (.int _ _)
theorem im (cs:List T)(off n:Nat):∀k,off+k*n≤cs.length→((List.range k).map fun i=>(cs.drop (off+i*n)).take n).flatten=(cs.drop off).take (k*n)
 | 0,_=>by simp
 | k+1,h=>by
  have h':off+k*n≤cs.length:=by rw[Nat.succ_mul]at h;omega
  rw[List.range_succ,List.map_append,List.flatten_append,im cs off n k h',Nat.succ_mul,List.take_add]
  simp[List.drop_drop]
theorem jx {n k:Nat}{y:T}{vy:Value}{new:List (List T)}(h:SR w0 g H w)(hy:VR g w y vy)(he:fe H n k y=some new) :
  ∃r o ly cap vs,vy=.slice (some ⟨r,o,none⟩) ly cap∧tE y=some ly∧(∀(j:Nat) (v:Value),vs[j]?=some v→w.cell? ⟨r,o+j,none⟩=some v)∧ax g w new.flatten vs∧vs.length=k*n∧aR new.flatten∧new.flatten.length=k*n:=by
 have key:∀(b off:Nat) (r o q:Nat),g.φ b=some (r,o,q)→(match H[b]? with|some (.cells cs)=>if off+k*n≤cs.length then some ((List.range k).map fun i=>(cs.drop (off+i*n)).take n)else none|_=>none)=some new →
   ∃vs,(∀(j:Nat) (v:Value),vs[j]?=some v→w.cell? ⟨r,o+off+j,none⟩=some v)∧ax g w new.flatten vs∧vs.length=k*n∧aR new.flatten∧new.flatten.length=k*n:=by
  intro b off r o q hφ he
  cases hb:H[b]? with
  | none=>simp[hb]at he
  | some z =>
   cases z<;>simp only[hb]at he<;>(try (cases he;done))
   rename_i cs
   split at he
   ·rename_i hle
    simp only[Option.some.injEq]at he
    have gF:=im cs off n k hle
    rw[he]at gF
    have hp:gD H (k*n) (.ptr b off)=some new.flatten:=by simp[gD,hb,hle,gF]
    obtain⟨r',o',vs,e1,e2,e3,e4,e5⟩:=fg h (.ptr hφ) hp
    cases e1
    exact⟨vs,e3,e4,e2,e5,by rw[gF,List.length_take,List.length_drop];omega⟩
   ·cases he
 cases hy<;>simp only[fe]at he<;>(try (cases he;done))
 ·rename_i b off len n' r o q cap hφ hc hq
  obtain⟨vs,a1,a2,a3,a4,a5⟩:=key b off r o q hφ (by
   cases hb:H[b]? with
   | none=>simp[hb]at he
   | some z =>
    cases z<;>simp only[hb]at he ⊢<;>(try (cases he;done))
    split at he
    ·rename_i ko;rw[if_pos ko.2];exact he
    ·cases he)
  exact⟨r,o+off,len,cap,vs,rfl,rfl,a1,a2,a3,a4,a5⟩
 ·rename_i b off len n' r o q cap hφ hc hq
  obtain⟨vs,a1,a2,a3,a4,a5⟩:=key b off r o q hφ (by
   cases hb:H[b]? with
   | none=>simp[hb]at he
   | some z =>
    cases z<;>simp only[hb]at he ⊢<;>(try (cases he;done))
    split at he
    ·rename_i ko;rw[if_pos ko.2];exact he
    ·cases he)
  exact⟨r,o+off,len,cap,vs,rfl,rfl,a1,a2,a3,a4,a5⟩
theorem SR.xI {b off r o q:Nat}{cs ts:List T}{vs:List Value}(h:SR w0 g H w)(hb:H[b]?=some (.cells cs))(hφ:g.φ b=some (r,o,q))(oQ:off≤cs.length)(hle:o+off+ts.length≤q)(hv:ax g w ts vs)(ho:aR ts) :
  Le g w g (w.setCells r (o+off) vs)∧SR w0 g (H.set b (.cells (cs.take off++ts++cs.drop (off+ts.length)))) (w.setCells r (o+off) vs):=by
 have fk:b<H.length:=(List.getElem?_eq_some_iff.1 hb).1
 obtain⟨h1,h2,h3⟩:=h.dt b _ hb r o q hφ
 have hl:=hv.1
 have hs:∀j,o+off≤j→j<o+off+vs.length→(w.cell? ⟨r,j,none⟩).isSome=true:=fun j a c=>(h2 j (by omega) (by omega)).2.2
 have tr:=Tr.setCells w r (o+off) vs hs
 have hS:∀r' j,lq r (o+off) vs.length r' j→g.κ r' j=.mut b:=by
  rintro r' j⟨rfl,a,c⟩;exact(h2 j (by omega) (by omega)).1
 have le:Le g w g (w.setCells r (o+off) vs):=Le.cI tr (fun _ _ h=>h) (fun _ _ h=>h) (fun _ _ _ h=>h) (fun r' j gO e=>by rw[hS r' j gO]at e;cases e)
 refine⟨le,h.step (fun b'=>b'=b) tr le (fun r' j gO=>.inr (.inl ⟨b,hS r' j gO,rfl⟩)) (fun _ hm=>hm.elim) (fun r' j hr=>h.fresh r' j (by rwa[bw]at hr)) (fun b' x hx=>by rw[List.length_set];exact h.gN b' x hx)
  (fun t e x hx=>by rw[List.length_set];exact h.cp t e x hx) (fun _ _ _=>rfl) (fun _ _ _ _=>⟨id,id⟩) (fun _ _ _ _=>rfl) (fun b' x hx=>?_)⟩
 rcases bj fk hx with⟨rfl,rfl⟩|⟨aF,ej⟩
 ·right
  intro r' o' q' dQ
  rw[hφ]at dQ;cases dQ
  have hlen:(cs.take off++ts++cs.drop (off+ts.length)).length=max cs.length (off+ts.length):=by simp;omega
  refine⟨by rw[hlen];omega,fun j a c=>⟨(h2 j a c).1,fun j0=>by rw[World.frozen?_setCells];exact(h2 j a c).2.1 j0,tr.ff r j ?_ (h2 j a c).2.2⟩,fun i t hi=>?_⟩
  ·obtain⟨x,hx⟩:=Option.isSome_iff_exists.1 (h2 j a c).2.2;exact dP hx
  ·have fV:i<max cs.length (off+ts.length):=by rw[←hlen];exact(List.getElem?_eq_some_iff.1 hi).1
   by_cases jc:off≤i∧i<off+ts.length
   ·have ht:ts[i-off]?=some t:=by
     rw[List.append_assoc,List.getElem?_append_right (by simp;omega),List.getElem?_append_left (by simp;omega)]at hi
     rw[←hi];congr 1;simp;omega
    have aC:i-off<vs.length:=by omega
    refine⟨ho t (List.mem_of_getElem? ht),vs[i-off],?_,(hv.2 _ t _ ht (List.getElem?_eq_getElem aC)).mono le⟩
    have:=aX r vs (o+off) w hs (i-off) _ (List.getElem?_eq_getElem aC)
    rwa[show o+off+(i-off)=o+i by omega]at this
   ·have ht:cs[i]?=some t:=by
     by_cases aC:i<off
     ·rw[List.append_assoc,List.getElem?_append_left (by simp;omega),List.getElem?_take,if_pos aC]at hi;exact hi
     ·rw[List.getElem?_append_right (by simp;omega),List.getElem?_drop]at hi
      rw[←hi];congr 1;simp;omega
    obtain⟨a,v,xC,xD⟩:=h3 i t ht
    refine⟨a,v,?_,xD.mono le⟩
    rw[aV r vs (o+off) w r (o+i) (by omega)];exact xC
 ·exact .inl ⟨aF,ej⟩
theorem oY (w:World)(dT sT ty elem:TypeId){ei:TypeInfo}(b o xJ CR:Nat)(a:Addr)(xK CS:Nat)(cs:List Value)
  (hu:P.underlying dT=some (.slice elem)) (hi:P.info? elem=some ei) (hn:cs.length=Nat.min xK xJ*ei.size)
  (jd:∀(j:Nat) v,cs[j]?=some v→w.cell? (a.add j)=some v) (hc:∀j,j<cs.length→(w.cell? ⟨b,o+j,none⟩).isSome=true) (hf:∀j,j<cs.length→w.frozen? ⟨b,o+j,none⟩=false) (h1:∀v∈cs,v.oneCell'=true) :
  (Builtin.copy_ #[dT,sT] ty #[.slice (some ⟨b,o,none⟩) xJ CR,.slice (some a) xK CS]).run P w=.ok (goInt (Nat.min xK xJ:Nat)) (w.setCells b o cs):=by
 have hl:=run_loadCells_list (P:=P) w a cs jd
 have g5:=run_storeCells_cells (P:=P) b o cs 0 w (by simpa using hc) (by simpa using hf) h1
 rw[hn]at hl
 have hq:(typeInfo elem).run P w=.ok ei w:=ar hi
 simp[Builtin.copy_,run_underlying hu,Builtin.lenOf,Builtin.firstCells,sizeOf,hq,hl,g5]
theorem uz {dT sT rt elem:TypeId}{ei:TypeInfo}{x y t:T}{vx vy:Value}{H':aa}(hu:P.underlying dT=some (.slice elem))(hi:P.info? elem=some ei)
  (h:SR w0 g H w) (hx:VR g w x vx) (hy:VR g w y vy) (he:pO H ei.size x y=some (t,H')):aG P w0 g H w (Builtin.copy_ #[dT,sT] rt #[vx,vy]) t H':=by
 have key:∀b off len n' r o q cap,g.φ b=some (r,o,q)→len≤cap→o+off+cap*n'=q→vx=.slice (some ⟨r,o+off,none⟩) len cap →
   (∀ly,tE y=some ly→∀cs new,H[b]?=some (.cells cs)→fe H ei.size (min ly len) y=some new→n'=ei.size∧ei.size≠0∧off≤cs.length →
    t=.int .i64 (min ly len:Nat)→H'=H.set b (.cells (cs.take off++new.flatten++cs.drop (off+(min ly len)*ei.size)))→aG P w0 g H w (Builtin.copy_ #[dT,sT] rt #[vx,vy]) t H'):=by
  rintro b off len n' r o q cap hφ hc hq rfl ly xL cs new hb hK⟨rfl,zz,oQ⟩ rfl rfl
  obtain⟨r2,o2,Is,kf,vs,rfl,zB,a1,a2,a3,a4,a5⟩:=jx h hy hK
  rw[xL]at zB;cases zB
  have fk:b<H.length:=(List.getElem?_eq_some_iff.1 hb).1
  obtain⟨h1,h2,h3⟩:=h.dt b _ hb r o q hφ
  have hmul:min ly len*ei.size≤cap*ei.size:=Nat.mul_le_mul_right _ (by omega)
  have aJ:=oY (P:=P) w dT sT rt elem r (o+off) len cap ⟨r2,o2,none⟩ ly kf vs hu hi (by rw[a3]) (fun j v hj=>by rw[a8];exact a1 j v hj) (fun j hj=>(h2 _ (by omega) (by omega)).2.2) (fun j hj=>(h2 (o+off+j) (by omega) (by omega)).2.1 _) (a2.dn a4)
  obtain⟨le,sr⟩:=h.xI hb hφ oQ (by rw[a5];omega) a2 a4
  rw[a5]at sr
  refine⟨_,_,g,aJ,le,sr,by simpa[goInt]using .int _ _,by simp,fun b' y' a _ d=>⟨bE a ?_,d⟩⟩
  rintro rfl;rw[hφ]at d;cases d
 unfold pO at he
 cases hx<;>simp only[]at he<;>(try (cases he;done))
 all_goals
  rename_i b off len n' r o q cap hφ hc hq
  cases xL:tE y with
  | none=>simp[xL]at he
  | some ly =>
   simp only[xL]at he
   cases hb:H[b]? with
   | none=>simp[hb]at he
   | some z =>
    cases hK:fe H ei.size (min ly len) y with
    | none=>cases z<;>simp[hb,hK]at he
    | some new =>
     cases z<;>simp only[hb,hK]at he<;>(try (cases he;done))
     split at he
     ·rename_i ko
      simp only[Option.some.injEq,Prod.mk.injEq]at he
      exact key b off len n' r o q cap hφ hc hq rfl ly xL _ new hb hK ko he.1.symm he.2.symm
     ·cases he
theorem qo {R:ai}{n:Nat}{ps:List (Nat×X)}{pv:List (Nat×Value)}(hv:PV g w R ps pv):∀(es fs:List (List T)) (cells:Array Value),dA n es R ps=some fs→(∀c∈es,c.length=n)→ax g w es.flatten cells.toList→aR es.flatten →
  ∃a9,Instr.fill (fun i=>some (i*n,n)) cells pv=some a9∧ax g w fs.flatten a9.toList∧aR fs.flatten∧(∀c∈fs,c.length=n)∧fs.length=es.length:=by
 induction hv with
 | nil =>
  intro es fs cells he hn hz ho
  simp[dA]at he;subst he
  exact⟨cells,rfl,hz,ho,hn,rfl⟩
 | @cons i x v ps pv zx _ ih =>
  intro es fs cells he hn hz ho
  simp only[dA]at he
  cases hc:(x.ev R).cells? with
  | none=>simp[hc]at he
  | some c =>
   simp only[hc]at he
   split at he
   ·rename_i aB
    obtain⟨gY,hi⟩:=aB
    obtain⟨nI,zy⟩:=dC zx hc
    have cW:v.cells.size=n:=by have:=nI.1;simp at this;omega
    have gF:=cu es hn
    have lu:es.flatten.length=cells.size:=by have:=hz.1;simpa using this
    have hle:i*n+n≤cells.size:=by
     rw[←lu,gF,←Nat.succ_mul];exact Nat.mul_le_mul_right _ hi
    have bI:=gi cW hle
    have mS:=eB es i c hn hi
    have iU:ax g w (es.set i c).flatten (v.cells.zipIdx.foldl (fun (cs:Array Value) (x:Value×Nat)=>cs.setIfInBounds (i*n+x.2) x.1) cells).toList:=by
     rw[bI,mS]
     exact ax.append (ax.append (hz.take _) nI) (hz.drop _)
    have fm:aR (es.set i c).flatten:=by
     rw[mS]
     intro t ht
     rcases List.mem_append.1 ht with ht|ht
     ·rcases List.mem_append.1 ht with ht|ht
      ·exact ho t (List.mem_of_mem_take ht)
      ·exact zy t ht
     ·exact ho t (List.mem_of_mem_drop ht)
    obtain⟨a9,k1,k2,k3,k4,k5⟩:=ih _ fs _ he (fun c' hP=>by
     rcases List.mem_or_eq_of_mem_set hP with h|h
     ·exact hn c' h
     ·rw[h];exact gY) iU fm
    refine⟨a9,?_,k2,k3,k4,by simpa using k5⟩
    simp only[Instr.fill]
    rw[if_neg]
    ·exact k1
    ·simp[cW];omega
   ·cases he
theorem SR.oZ {c:Array Value}{ty:TypeId}{cs:List T}(h:SR w0 g H w)(cW:cs.length=c.size)
  (hc:∀(i:Nat) (t:T),cs[i]?=some t→t.one=true∧∃v,c[i]?=some v∧VR g w t v) :
  ∃g',Le g w g' (w.alloc (.cells c ty))∧SR w0 g' (H++[.lit cs]) (w.alloc (.cells c ty))∧Fr g H g' (H++[.lit cs])∧g'.φ H.length=some (w.heap.size,0,c.size):=by
 have jv:=Tr.alloc w (.cells c ty)
 have aF:∀r j ow,g.κ r j=ow→ow≠.free→r≠w.heap.size:=by rintro r j ow e hn rfl;exact hn (e▸h.fresh _ j (Nat.le_refl _))
 have zC:=h.tj (b:=H.length) (Nat.le_refl _)
 have hκ:∀r j,((g.row w.heap.size fun j=>if j=c.size then .mut H.length else .cF).at H.length (w.heap.size,0,c.size)).κ r j=if r=w.heap.size then(if j=c.size then .mut H.length else .cF)else g.κ r j:=fun r j=>rfl
 have le:Le g w ((g.row w.heap.size fun j=>if j=c.size then .mut H.length else .cF).at H.length (w.heap.size,0,c.size)) (w.alloc (.cells c ty)):=Le.cI jv
  (fun b' x hx=>by simp only[Ctx.at,Ctx.row];split;rename_i e;subst e;rw[zC]at hx;simp at hx;exact hx)
  (fun r o hk=>by rw[hκ,if_neg (aF r o _ hk (by simp))];exact hk) (fun _ _ _ h=>h) (fun _ _ hs=>hs.elim)
 refine⟨_,le,?_,⟨by simp,fun b x a _ d=>⟨bh a,?_⟩⟩,by simp[Ctx.at]⟩
 ·refine h.step (fun b'=>b'=H.length) jv le (fun _ _ hs=>hs.elim) (fun _ hm=>hm.elim) (fun r o hr=>?_) (fun b' x hx=>?_) (fun t e x hx=>by have:=h.cp t e x hx;simp;omega) (fun b' _ cU=>?_) (fun r j b' cU=>?_) (fun _ _ _ _=>rfl) (fun b' x hx=>?_)
  ·simp at hr
   rw[hκ,if_neg (by omega)];exact h.fresh r o (by omega)
  ·simp only[Ctx.at,Ctx.row]at hx
   split at hx
   ·rename_i e;subst e;simp
   ·have:=h.gN b' x hx;simp;omega
  ·simp only[Ctx.at,Ctx.row];rw[if_neg cU]
  ·constructor<;>intro e<;>rw[hκ,if_neg (aF r j _ e (by simp))]<;>exact e
  ·by_cases e:b'=H.length
   ·subst e
    right
    rw[bm]at hx;cases hx
    refine⟨w.heap.size,c.size,by simp[Ctx.at],by rw[hκ];simp,fun j hj=>by rw[hκ,if_pos rfl,if_neg hj],c,ty,by show(w.heap.push _)[w.heap.size]?=_;simp,rfl,cW,fun i t hi=>?_⟩
    obtain⟨a,v,b1,b2⟩:=hc i t hi
    exact⟨a,v,b1,b2.mono le⟩
   ·exact .inl ⟨e,aM e hx⟩
 ·have:=(List.getElem?_eq_some_iff.1 a).1
  simp only[Ctx.at,Ctx.row];rw[if_neg (by omega)];exact d
theorem SR.mU {c:Array Value}{ty:TypeId}{cs z:List T}{n:Nat}(h:SR w0 g H w)(cW:cs.length=c.size)
  (hc:∀(i:Nat) (t:T),cs[i]?=some t→t.one=true∧∃v,c[i]?=some v∧VR g w t v) :
  ∃g',Le g w g' (w.alloc (.cells c ty))∧SR w0 g' (H++[oJ n z cs]) (w.alloc (.cells c ty))∧Fr g H g' (H++[oJ n z cs])∧g'.φ H.length=some (w.heap.size,0,c.size):=by
 unfold oJ
 split
 ·exact h.oZ cW hc
 ·exact h.cP (ql w) rfl hc
theorem uA {ty elem:TypeId}{ei:TypeInfo}{zv:Value}{R:ai}{ps:List (Nat×X)}{pv:List (Nat×Value)}{z:List T}{len:Nat}{fs:List (List T)}(hu:P.underlying ty=some (.slice elem))(hi:P.info? elem=some ei)(hz:ei.zero=some zv)(qj:bO zv.cells.toList=some z)
  (mT:z.length=ei.size) (cW:len*ei.size≤2^24) (h:SR w0 g H w) (hv:PV g w R ps pv) (he:dA z.length (List.replicate len z) R ps=some fs) :
  aG P w0 g H w (Instr.buildSlice ty len pv.toArray) (.aP H.length 0 len z.length) (H++[oJ len z fs.flatten]):=by
 obtain⟨oX,pJ⟩:=bu (g:=g) (w:=w) _ _ qj
 have CQ:=eC oX mT len
 have zw:=dD pJ len
 rw[mT]at he
 obtain⟨a9,k1,k2,k3,k4,k5⟩:=qo hv _ fs ((Array.range (len*ei.size)).map (fun i=>zv.cells[i%zv.cells.size]!)) he (fun c hc=>by rw[List.eq_of_mem_replicate hc];exact mT) CQ zw
 have hlen:fs.length=len:=by rw[k5];simp
 have gF:fs.flatten.length=len*ei.size:=by rw[cu fs k4,hlen]
 have kN:a9.size=len*ei.size:=by have:=k2.1;simp only[Array.length_toList]at this;omega
 obtain⟨g',le,sr,fr,hφ⟩:=h.mU (c:=a9) (ty:=elem) (cs:=fs.flatten) (n:=len) (z:=z) (by rw[gF,kN]) (fun i t hi=>by
  obtain⟨v,a1,a2⟩:=k2.cg i t hi
  exact⟨k3 t (List.mem_of_getElem? hi),v,by simpa using a1,a2⟩)
 refine⟨.slice (some ⟨w.heap.size,0,none⟩) len len,_,g',?_,le,sr,?_,fr⟩
 ·have qm:¬len*ei.size>2^24:=by omega
  by_cases h0:len*ei.size=0
  ·have e0:((Array.range (len*ei.size)).map (fun i=>zv.cells[i%zv.cells.size]!))=((Array.range (len*ei.size)).map (fun i=>(#[]:Array Value)[i%(#[]:Array Value).size]!)):=by
    rw[h0];simp
   rw[e0]at k1
   simp only[Instr.buildSlice,Sem.run_bind,run_underlying hu,Result.andThen_ok,sizeOf,ar hi,Sem.run_pure,qm,if_false,h0,if_true]
   rw[h0]at k1
   simp at k1
   simp[k1,newRow]
  ·simp only[Instr.buildSlice,Sem.run_bind,run_underlying hu,Result.andThen_ok,sizeOf,ar hi,Sem.run_pure,qm,if_false,h0,zeroValue,hz]
   simp[k1,newRow]
 ·rw[mT]
  exact .aP (r:=w.heap.size) (o:=0) (off:=0) hφ (Nat.le_refl _) (by rw[kN];simp)
theorem uB {sT xT elem rt:TypeId}{ei:TypeInfo}{zv:Value}{z:List T}{kq kn:IntKind}{x t:T}{vx:Value}{k:Nat}{H':aa}(hu:P.underlying sT=some (.slice elem))(uC:P.underlying xT=some (.int kn))(hi:P.info? elem=some ei)(hz:ei.zero=some zv)(qj:bO zv.cells.toList=some z)
  (hb:ei.bytes≠0) (h:SR w0 g H w) (hx:VR g w x vx) (he:tF H ei.size ei.bytes z x k=some (t,H')):aG P w0 g H w (Builtin.append_ #[sT,xT] rt #[vx,.int kq k]) t H':=by
 unfold tF at he
 cases x<;>simp only[]at he<;>(try (cases he;done))
 rename_i b off len n' c
 cases hK:fe H ei.size len (.bT b off len n' c)with
 | none=>simp[hK]at he
 | some es =>
  simp only[hK]at he
  split at he
  ·rename_i ko
   obtain⟨rfl,zz,F1,gY,mT,cY⟩:=ko
   simp only[Option.some.injEq,Prod.mk.injEq]at he
   obtain⟨rfl,rfl⟩:=he
   obtain⟨r,o,ly,cap,vs,rfl,xL,a1,a2,a3,a4,a5⟩:=jx h hx hK
   cases xL
   have fF:cap=c:=by cases hx;rfl
   subst fF
   obtain⟨oX,pJ⟩:=bu (g:=g) (w:=w) _ _ qj
   have hold:(Builtin.firstCells ei.size len (.slice (some ⟨r,o,none⟩) len cap)).run P w.drew=.ok vs.toArray w.drew:=by
    have:=run_loadCells_list (P:=P) w.drew ⟨r,o,none⟩ vs (fun j v hj=>by rw[a8];exact a1 j v hj)
    rw[a3]at this
    simpa[Builtin.firstCells]using this
   have Ca:¬Builtin.nextslicecap (len+k) cap*ei.bytes>2^48:=nG gY cY
   have hr:=cY
   simp only[dL,decide_eq_true_eq]at hr
   have v8:(len+k)*ei.bytes≤281474976710656:=Nat.le_trans (Nat.mul_le_mul_right _ (by omega)) hr
   have CT:len+k≤281474976710656:=Nat.le_trans (Nat.le_mul_of_pos_right _ (by omega)) v8
   have F2:k*ei.bytes≤281474976710656:=Nat.le_trans (Nat.mul_le_mul_right _ (by omega)) v8
   have aJ:=Go.Lib.run_append_grow_zeros (P:=P) w sT xT rt elem ei zv kq kn hu uC hi hz (some ⟨r,o,none⟩) len cap vs hold k F1 (by omega) gY (by omega) F2 (by omega)
   have uk:zv.cells.toList.length=ei.size:=by have:=oX.1;omega
   have zD:zv.cells.size=ei.size:=by simpa using uk
   have qi:ax g w (es.flatten++(List.replicate k z).flatten) (vs++(Builtin.zeroCells zv.cells k).toList):=by
    refine ax.append a2 ?_
    have:=eC oX mT k
    simpa[Builtin.zeroCells,zD]using this
   have pI:=grownCap_ge w (len+k) cap elem
   generalize grownCap w (len+k) cap elem=nc at aJ pI
   have zE:aR (es.flatten++(List.replicate k z).flatten):=fun t ht=>by
    rcases List.mem_append.1 ht with ht|ht
    ·exact a4 t ht
    ·exact dD pJ k t ht
   have cW:(vs.toArray++Builtin.zeroCells zv.cells k++Builtin.zeroCells zv.cells (nc-(len+k))).size=nc*ei.size:=by
    simp only[Array.size_append,eA,List.size_toArray,a3,zD]
    rw[←Nat.add_mul,←Nat.add_mul];congr 1;omega
   obtain⟨g',le,sr,fr,hφ⟩:=h.cP (c:=vs.toArray++Builtin.zeroCells zv.cells k++Builtin.zeroCells zv.cells (nc-(len+k))) (ty:=elem) (cs:=es.flatten++(List.replicate k z).flatten) (gZ w) rfl (fun i t hi=>by
    obtain⟨v,b1,b2⟩:=qi.cg i t hi
    refine⟨zE t (List.mem_of_getElem? hi),v,?_,b2⟩
    rw[List.getElem?_toArray]at b1
    have aC:=(List.getElem?_eq_some_iff.1 b1).1
    have e:(vs.toArray++Builtin.zeroCells zv.cells k++Builtin.zeroCells zv.cells (nc-(len+k))).toList=(vs++(Builtin.zeroCells zv.cells k).toList)++(Builtin.zeroCells zv.cells (nc-(len+k))).toList:=by simp
    rw[←Array.getElem?_toList,e,List.getElem?_append_left aC];exact b1)
   refine⟨_,_,g',aJ,le,sr,?_,fr⟩
   exact .aP (r:=w.heap.size) (o:=0) (off:=0) hφ pI (by rw[cW];simp)
  ·cases he
end
section
variable {P:Program} {w0 w:World} {g:Ctx} {H:aa}
theorem je {params results:Array TypeId}(tS e:TypeId)(hp:params[0]?=some tS)(ht:P.underlying tS=some (.slice e))(size:Nat)(hz:(Go.sizeOf e).run P w=.ok size w)
  (a b:Addr) (la ca lb cb:Nat) (aF:a.block≠b.block) (tA tB:TypeId) (kA kB:Nat)
  (CU:w.shape? a.block=some (tA,kA)) (B7:w.shape? b.block=some (tB,kB)) (CV:kB≠0)
  (F3:w.frozen? a=false) (F4:w.frozen? { block:=a.block,off:=kA }=false) :
  (Extern.SlicesOverlaps.overlaps params results #[.slice (some a) la ca,.slice (some b) lb cb]).run P w=.ok (.bool false) w:=by
 have Ca:(a.block != b.block)=true:=by simpa using aF
 have xM:(a.block==b.block)=false:=by simpa using aF
 conv=>lhs;arg 2;whnf
 simp only[hp]
 by_cases h0:la=0∨lb=0∨size=0
 ·simp[run_underlying ht,hz,h0]
 ·cases kB with
  | zero=>exact absurd rfl CV
  | succ kB =>
   simp[run_underlying ht,hz,h0,Ca,xM,frozen,noView,viewAt,mayBeOne,stringish,shape,Sem.run,CU,B7,F3,F4]
theorem kp {params results:Array TypeId}(tS e:TypeId)(hp:params[0]?=some tS)(ht:P.underlying tS=some (.slice e))(size:Nat)(hz:(Go.sizeOf e).run P w=.ok size w)
  (a b:Addr) (la ca lb cb:Nat) (aF:a.block=b.block) (hd:la≠0→lb≠0→size≠0→¬(a.off<b.off+lb*size∧b.off<a.off+la*size)) :
  (Extern.SlicesOverlaps.overlaps params results #[.slice (some a) la ca,.slice (some b) lb cb]).run P w=.ok (.bool false) w:=by
 have Ca:(a.block != b.block)=false:=by simpa using aF
 have xM:(a.block==b.block)=true:=by simpa using aF
 conv=>lhs;arg 2;whnf
 simp only[hp]
 by_cases h0:la=0∨lb=0∨size=0
 ·simp[run_underlying ht,hz,h0]
 ·have h1:=hd (fun h=>h0 (.inl h)) (fun h=>h0 (.inr (.inl h))) (fun h=>h0 (.inr (.inr h)))
  simp[run_underlying ht,hz,h0,Ca,xM]
  intro aC
  have:¬b.off<a.off+la*size:=fun h=>h1 ⟨aC,h⟩
  omega
theorem fM {params results:Array TypeId}(tS e:TypeId)(hp:params[0]?=some tS)(ht:P.underlying tS=some (.slice e))(size:Nat)(hz:(Go.sizeOf e).run P w=.ok size w)
  (a b:Addr) (la ca lb cb:Nat) (h0:la=0∨size=0) :
  (Extern.SlicesOverlaps.overlaps params results #[.slice (some a) la ca,.slice (some b) lb cb]).run P w=.ok (.bool false) w:=by
 have h0:la=0∨lb=0∨size=0:=by rcases h0 with h|h;exact .inl h;exact .inr (.inr h)
 conv=>lhs;arg 2;whnf
 simp only[hp]
 simp[run_underlying ht,hz,h0]
theorem lx {r j:Nat}(h:(w.cell? ⟨r,j,none⟩).isSome=true):∃t k,w.shape? r=some (t,k)∧k≠0:=by
 unfold World.cell? at h
 unfold World.shape?
 cases hr:w.heap[r]? with
 | none=>simp[hr]at h
 | some x =>
  cases x<;>simp[hr]at h ⊢
  rename_i c t f
  exact⟨_,_,⟨rfl,rfl⟩,by omega⟩
theorem uD {params results:Array TypeId}{tS e:TypeId}{ei:TypeInfo}{x y t:T}{vx vy:Value}{H':aa}(hp:params[0]?=some tS)(ht:P.underlying tS=some (.slice e))(hi:P.info? e=some ei)
  (h:SR w0 g H w) (hx:VR g w x vx) (hy:VR g w y vy) (he:pQ H ei.size x y=some (t,H')):aG P w0 g H w (Extern.SlicesOverlaps.overlaps params results #[vx,vy]) t H':=by
 have hz:(Go.sizeOf e).run P w=.ok ei.size w:=by simp[sizeOf,ar hi]
 unfold pQ at he
 cases hx<;>(try (simp only[reduceCtorEq]at he;done))<;>(try (cases he;done))
 rename_i bv uE lv n1 r' o' q' kf dQ hP Fb
 cases hy<;>(try (simp only[reduceCtorEq]at he;done))<;>(try (cases he;done))
 rename_i b off len n2 r o q c hφ hc hq
 cases Cb:H[bv]? with
 | none=>simp[Cb]at he
 | some zv =>
  cases hb:H[b]? with
  | none=>cases zv<;>simp[Cb,hb]at he
  | some z =>
   cases zv<;>cases z<;>simp only[Cb,hb]at he<;>(try (cases he;done))
   rename_i Iu cs
   split at he
   ·rename_i ko
    obtain⟨aF,rfl,CW,xN⟩:=ko
    simp only[Option.some.injEq,Prod.mk.injEq]at he
    obtain⟨rfl,rfl⟩:=he
    subst CW
    obtain⟨a1,a2,a3⟩:=h.dt _ _ Cb r' o' q' dQ
    obtain⟨b1,b2,b3⟩:=h.dt _ _ hb r o q hφ
    by_cases hr:r'=r
    ·subst hr
     refine aG.same h (kp tS e hp ht _ hz _ _ _ _ _ _ rfl fun hl Iv hs hh=>?_) (.bool _)
     obtain⟨h1,h2⟩:=hh
     simp only at h1 h2
     have m1:lv*ei.size≤kf*ei.size:=Nat.mul_le_mul_right _ hP
     have m2:len*ei.size≤c*ei.size:=Nat.mul_le_mul_right _ hc
     have p1:0<lv*ei.size:=Nat.mul_pos (by omega) (by omega)
     have p2:0<len*ei.size:=Nat.mul_pos (by omega) (by omega)
     have k1:=(a2 (max (o'+uE) (o+off)) (by omega) (by omega)).1
     have k2:=(b2 (max (o'+uE) (o+off)) (by omega) (by omega)).1
     rw[k1]at k2;cases k2;exact aF rfl
    ·by_cases F5:lv=0
     ·subst F5
      refine aG.same h ?_ (.bool _)
      exact fM tS e hp ht _ hz _ _ _ _ _ _ (.inl rfl)
     ·by_cases hs:ei.size=0
      ·refine aG.same h ?_ (.bool _)
       exact fM tS e hp ht _ hz _ _ _ _ _ _ (.inr hs)
      ·have m1:lv*ei.size≤kf*ei.size:=Nat.mul_le_mul_right _ hP
       have p1:0<lv*ei.size:=Nat.mul_pos (by omega) (by omega)
       have tn:=a2 (o'+uE) (by omega) (by omega)
       have F6:=b2 o (Nat.le_refl _) (by omega)
       have gg:w0.heap.size≤r':=by
        rcases Nat.lt_or_ge r' w0.heap.size with aC|pI
        ·have:=h.oN r' (o'+uE) aC;rw[tn.1]at this;cases this
        ·exact pI
       obtain⟨tA,kA,CU,_⟩:=lx tn.2.2
       obtain⟨tB,kB,B7,CV⟩:=lx F6.2.2
       exact aG.same h (je tS e hp ht _ hz _ _ _ _ _ _ hr tA tB kA kB CU B7 CV (tn.2.1 _) (tn.2.1 _)) (.bool _)
   ·cases he
end
end Go.Rmp
end

section
namespace Go.Rmp
open Go.ChangeMaps (setBlock)
section
variable {P:Program} {w0 w:World} {g:Ctx} {H:aa}
theorem SR.zF {w':World}(h:SR w0 g H w)(tr:Tr w w' ct cV)(hz:w'.heap.size=w.heap.size):SR w0 g H w'∧Le g w g w':=by
 have le:Le g w g w':=Le.cI tr (fun _ _ h=>h) (fun _ _ h=>h) (fun _ _ _ h=>h) (fun _ _ hs=>hs.elim)
 refine⟨?_,le⟩
 exact h.step (fun _=>False) tr le (fun _ _ hs=>hs.elim) (fun _ hm=>hm.elim) (fun r o hr=>h.fresh r o (by omega)) h.gN h.cp (fun _ _ _=>rfl) (fun _ _ _ _=>⟨id,id⟩) (fun _ _ _ _=>rfl) (fun b x hx=>.inl ⟨id,hx⟩)
theorem xO {b:Nat}{vm:Value}{es:List (T×T)}(h:SR w0 g H w)(hm:VR g w (.map b) vm)(eW:cn H (.map b)=some es) :
  ∃r o q,vm=.map (some r)∧g.φ b=some (r,o,q)∧g.κ r 0=.mut b∧b<H.length∧∃ah clock,w.heap[r]?=some (.map ah clock)∧bB g w es ah∧bV ah clock:=by
 cases hm with
 | @map _ r o q hφ =>
  simp only[cn]at eW
  cases hb:H[b]? with
  | none=>simp[hb]at eW
  | some y =>
   have fk:=(List.getElem?_eq_some_iff.1 hb).1
   cases y<;>simp[hb]at eW
   ·subst eW
    obtain⟨h1,ah,c,h2,h3,h4⟩:=h.dt b _ hb r o q hφ
    exact⟨r,o,q,rfl,hφ,h1,fk,ah,c,h2,h3,h4⟩
   ·subst eW
    obtain⟨r2,o',q',dQ,h1,ah,c,h2,h3,h4,_⟩:=h.dt b _ hb
    rw[hφ]at dQ;cases dQ
    exact⟨r,o,q,rfl,hφ,h1,fk,ah,c,h2,h3,h4⟩
theorem uF {ty key elem:TypeId}{b:Nat}{vm:Value}{es:List (T×T)}(hu:P.underlying ty=some (.map key elem))(h:SR w0 g H w)(hm:VR g w (.map b) vm)(eW:cn H (.map b)=some es) :
  aG P w0 g H w (Instr.range ty vm) (.ptr H.length 0) (H.set b (.cm es (List.range es.length) H.length none)++[.pE b]):=by
 obtain⟨r,o,q,rfl,hφ,hk,fk,ah,c,h2,h3,h4⟩:=xO h hm eW
 have F7:cq (.mapIter (some r) c #[] c)=true:=rfl
 have jv:=Tr.alloc w (.mapIter (some r) c #[] c)
 have aF:∀r j ow,g.κ r j=ow→ow≠.free→r≠w.heap.size:=by rintro r j ow e hn rfl;exact hn (e▸h.fresh _ j (Nat.le_refl _))
 have zC:=h.tj (b:=H.length) (Nat.le_refl _)
 have CX:=aF r 0 _ hk (by simp)
 have le:Le g w ((g.row w.heap.size fun _=>.mut b).at H.length (w.heap.size,0,0)) (w.alloc (.mapIter (some r) c #[] c)):=Le.cI jv
  (fun b' x hx=>by simp only[Ctx.at,Ctx.row];split;rename_i e;subst e;rw[zC]at hx;simp at hx;exact hx)
  (fun r o hk=>by simp only[Ctx.row,Ctx.at];rw[if_neg (aF r o _ hk (by simp))];exact hk) (fun _ _ _ h=>h) (fun _ _ hs=>hs.elim)
 have aC:r<w.heap.size:=(Array.getElem?_eq_some_iff.1 h2).1
 refine⟨_,_,_,by simp[Instr.range,run_underlying hu,getObj,Sem.run,h2,newObj],le,?_,.ptr (r:=w.heap.size) (o:=0) (q:=0) (by simp[Ctx.at]),by simp,fun b' x a _ d=>?_⟩
 ·refine h.step (fun b'=>b'=b∨b'=H.length) jv le (fun _ _ hs=>hs.elim) (fun _ hm=>hm.elim) (fun r o hr=>?_) (fun b' x hx=>?_) (fun t e x hx=>by have:=h.cp t e x hx;simp;omega) (fun b' _ cU=>?_) (fun r j b' cU=>?_) (fun _ _ _ _=>rfl) (fun b' x hx=>?_)
  ·simp at hr
   simp only[Ctx.row,Ctx.at];rw[if_neg (by omega)];exact h.fresh r o (by omega)
  ·simp only[Ctx.at,Ctx.row]at hx
   split at hx
   ·rename_i e;subst e;simp
   ·have:=h.gN b' x hx;simp;omega
  ·simp only[Ctx.at,Ctx.row];rw[if_neg (fun e=>cU (.inr e))]
  ·constructor<;>intro e<;>simp only[Ctx.row,Ctx.at]<;>rw[if_neg (aF r j _ e (by simp))]<;>exact e
  ·by_cases e:b'=H.length
   ·subst e
    rw[List.getElem?_append_right (by simp)]at hx
    simp at hx;subst hx
    exact .inr trivial
   ·have cU:b'<H.length:=by
     have:=(List.getElem?_eq_some_iff.1 hx).1
     simp at this;omega
    rw[List.getElem?_append_left (by simpa using cU)]at hx
    rcases bj fk hx with⟨rfl,rfl⟩|⟨hn,ej⟩
    ·refine .inr ⟨r,o,q,le.φ _ _ hφ,by simp only[Ctx.row,Ctx.at];rw[if_neg CX];exact hk,ah,c,?_,h3.mono le,h4,w.heap.size,0,#[],by simp[Ctx.at],by simp[Ctx.row,Ctx.at],World.alloc_heap_new w _,List.nodup_range,fun i=>?_,fun c hc=>by cases hc⟩
     ·show(w.heap.push _)[r]?=_
      rw[Array.getElem?_push,if_neg (by omega)];exact h2
     ·rw[List.mem_range,←h3.1]
      exact⟨fun hi=>⟨ah[i],Array.getElem?_eq_getElem hi,by simp⟩,fun ⟨m,hm,_⟩=>(Array.getElem?_eq_some_iff.1 hm).1⟩
    ·exact .inl ⟨fun hh=>hh.elim hn e,ej⟩
 ·have hl:=(List.getElem?_eq_some_iff.1 a).1
  refine⟨?_,by simp only[Ctx.at,Ctx.row];rw[if_neg (by omega)];exact d⟩
  rw[List.getElem?_append_left (by simpa using hl)]
  exact bE a (by rintro rfl;rw[hφ]at d;cases d)
theorem uG {ty:TypeId}{b bi:Nat}{v:Value}{es:List (T×T)}{ix:List Nat}{cur:Option Nat}(h:SR w0 g H w)(hx:VR g w (.ptr bi 0) v)(hb:H[b]?=some (.cm es ix bi cur)) :
  ∃t H',fD H b bi es ix t H'∧aG P w0 g H w (Instr.next v false ty) t H':=by
 have fk:b<H.length:=(List.getElem?_eq_some_iff.1 hb).1
 obtain⟨r,o,q,hφ,h1,ah,c,h2,h3,h4,ri,q',seen,h5,h6,h7,h8,h9,Fe⟩:=h.dt b _ hb
 cases hx with
 | @ptr _ _ r2 o2 q2 nJ =>
  rw[h5]at nJ;cases nJ
  have yU:∀y,Fr g H g (H.set b y):=fun y=>⟨by simp,fun b' x a _ d=>⟨bE a (by rintro rfl;rw[hφ]at d;cases d),d⟩⟩
  rcases run_next_at (P:=P) w ty ri r c c seen ah c h7 h2 h4.1 (Nat.le_refl _)with⟨hz,aJ⟩|⟨e,he,w1,Cc,aJ⟩
  ·have p5:ix=[]:=by
    refine List.eq_nil_iff_forall_not_mem.2 fun i hi=>?_
    obtain⟨m,hm,hn⟩:=(h9 i).1 hi
    have:m∈leftOf ah seen:=by
     simp only[leftOf,Array.mem_filter]
     exact⟨Array.mem_of_getElem? hm,by simpa using hn⟩
    rw[Array.eq_empty_of_size_eq_zero hz]at this
    simp at this
   refine⟨_,_,.inl ⟨p5,rfl,rfl⟩,.tuple #[.bool false],w,g,by simpa using aJ,.refl _ _,?_,.bg rfl (fun i t v a b=>?_),yU _⟩
   ·refine h.step (fun b'=>b'=b) (Tr.refl w) (.refl _ _) (fun _ _ hs=>hs.elim) (fun _ hm=>hm.elim) h.fresh (fun b' x hx=>by rw[List.length_set];exact h.gN b' x hx) (fun t e x hx=>by rw[List.length_set];exact h.cp t e x hx) (fun _ _ _=>rfl) (fun _ _ _ _=>⟨id,id⟩) (fun _ _ _ _=>rfl) (fun b' x hx=>?_)
    rcases bj fk hx with⟨rfl,rfl⟩|⟨hn,ej⟩
    ·refine .inr fun r' o' q' dQ=>?_
     rw[hφ]at dQ;cases dQ
     exact⟨h1,ah,c,h2,h3,h4⟩
    ·exact .inl ⟨hn,ej⟩
   ·cases i with
    | zero=>simp at a b;subst a;subst b;exact .bool _
    | succ i=>simp at a
  ·have zG:e∈ah∧e.born∉seen:=by
    have:e∈leftOf ah seen:=by simpa using he
    simp only[leftOf,Array.mem_filter]at this
    exact⟨this.1,by simpa using this.2⟩
   obtain⟨i,hi,gP⟩:=Array.getElem_of_mem zG.1
   have zH:ah[i]?=some e:=by rw[Array.getElem?_eq_getElem hi,gP]
   have gj:i<es.length:=by rw[←h3.1];exact hi
   have p5:i∈ix:=(h9 i).2 ⟨e,zH,zG.2⟩
   have bR:=h3.2 i es[i] e (List.getElem?_eq_getElem gj) zH
   have F8:Tr w w1 ct cV:=by rcases Cc with rfl|rfl;exact Tr.refl _;exact Tr.drew _
   obtain⟨xP,dw⟩:=h.zF F8 (by rcases Cc with rfl|rfl<;>rfl)
   have Cd:w1.heap[ri]?=some (.mapIter (some r) c seen c):=by rcases Cc with rfl|rfl<;>exact h7
   have Ff:w1.heap[r]?=some (.map ah c):=by rcases Cc with rfl|rfl<;>exact h2
   have tr:Tr w1 (World.aI w1 ri (.mapIter (some r) c (seen.push e.born) c)) ct (fun r'=>r'=ri):=Tr.mP w1 ri rfl rfl Cd
   have le:Le g w1 g (World.aI w1 ri (.mapIter (some r) c (seen.push e.born) c)):=Le.cI tr (fun _ _ h=>h) (fun _ _ h=>h) (fun _ _ _ h=>h) (fun _ _ hs=>hs.elim)
   have F9:r≠ri:=by rintro rfl;rw[Ff]at Cd;cases Cd
   refine⟨_,_,.inr ⟨i,es[i],p5,List.getElem?_eq_getElem gj,rfl,rfl⟩,.tuple #[.bool true,e.key,e.val],_,g,by simpa[setBlock,World.aI]using aJ,dw.trans le,?_,.bg rfl (fun i t v a b=>?_),yU _⟩
   ·show SR w0 g _ (World.aI w1 ri (.mapIter (some r) c (seen.push e.born) c))
    refine xP.step (fun b'=>b'=b) tr le (fun _ _ hs=>hs.elim) (fun r' hm=>⟨b,by rw[hm];exact h6,rfl⟩) (fun r' j eY=>xP.fresh r' j (by simpa[World.aI]using eY)) (fun b' x hx=>by rw[List.length_set];exact h.gN b' x hx) (fun t e x hx=>by rw[List.length_set];exact h.cp t e x hx) (fun _ _ _=>rfl) (fun _ _ _ _=>⟨id,id⟩) (fun _ _ _ _=>rfl) (fun b' x hx=>?_)
    rcases bj fk hx with⟨rfl,rfl⟩|⟨hn,ej⟩
    ·refine .inr ⟨r,o,q,hφ,h1,ah,c,?_,h3.mono (dw.trans le),h4,ri,q',seen.push e.born,h5,h6,ie _ _ (Array.getElem?_eq_some_iff.1 Cd).1,h8.erase _,fun j=>?_,fun c' hP=>?_⟩
     ·rw[ic _ _ F9];exact Ff
     ·rw[h8.mem_erase_iff,h9 j]
      constructor
      ·rintro⟨CY,m,hm,hn⟩
       refine⟨m,hm,fun jc=>?_⟩
       rcases Array.mem_push.1 jc with jc|jc
       ·exact hn jc
       ·apply CY
        have hj:=(Array.getElem?_eq_some_iff.1 hm).1
        have jy:=h4.2
        have e1:(ah.toList.map (·.born))[j]?=some m.born:=by simp[hm]
        have e2:(ah.toList.map (·.born))[i]?=some m.born:=by simp[zH,jc]
        have Ga:j<(ah.toList.map (·.born)).length:=by simpa using hj
        exact(List.getElem?_inj Ga jy).1 (e1.trans e2.symm)
      ·rintro⟨m,hm,hn⟩
       refine⟨fun CY=>?_,m,hm,fun jc=>hn (Array.mem_push.2 (.inl jc))⟩
       subst CY
       rw[zH]at hm;cases hm
       exact hn (Array.mem_push.2 (.inr rfl))
     ·cases hP
      exact⟨e,zH,by simp⟩
    ·exact .inl ⟨hn,ej⟩
   ·have xC:=bR.1.mono (dw.trans le)
    have xD:=bR.2.mono (dw.trans le)
    match i,a,b with
    | 0,a,b=>simp at a b;subst a;subst b;exact .bool _
    | 1,a,b=>simp at a b;subst a;subst b;exact xC
    | 2,a,b=>simp at a b;subst a;subst b;exact xD
    | i+3,a,b=>simp at a
theorem uH {b bi c:Nat}{v:Value}{es:List (T×T)}{ix:List Nat}{e:T×T}(h:SR w0 g H w)(hx:VR g w (.ptr bi 0) v)(hb:H[b]?=some (.cm es ix bi (some c)))(he:es[c]?=some e) :
  aG P w0 g H w (Instr.entry v) (.bg [e.1,e.2]) H:=by
 obtain⟨r,o,q,hφ,h1,ah,cl,h2,h3,h4,ri,q',seen,h5,h6,h7,h8,h9,Fe⟩:=h.dt b _ hb
 cases hx with
 | @ptr _ _ r2 o2 q2 nJ =>
  rw[h5]at nJ;cases nJ
  obtain⟨m,hm,hs⟩:=Fe c rfl
  have bR:=h3.2 c e m he hm
  have CZ:m∈ah.toList:=by have:=Array.mem_of_getElem? hm;simpa using this
  have hf:ah.find? (·.born==m.born)=some m:=by rw[←Array.find?_toList];exact find_born m ah.toList h4.2 CZ
  refine aG.same h (v:=.tuple #[m.key,m.val]) ?_ (.bg rfl fun i t v a b=>?_)
  ·simp[Instr.entry,getObj,Sem.run,h7,h2,hs,hf]
  ·match i,a,b with
   | 0,a,b=>simp at a b;subst a;subst b;exact bR.1
   | 1,a,b=>simp at a b;subst a;subst b;exact bR.2
   | i+2,a,b=>simp at a
theorem uI {ty rt elem:TypeId}{ei:TypeInfo}{zv:Value}{z:List T}{v:Value}{b off len:Nat}{cs:List T}(hu:P.underlying ty=some (.slice elem))(hi:P.info? elem=some ei)(hz:ei.zero=some zv)(qj:bO zv.cells.toList=some z)
  (h:SR w0 g H w) (hx:VR g w (.aP b off len ei.size) v) (hb:H[b]?=some (.cells cs)) (lu:z.length=ei.size) (hle:off+len*ei.size≤cs.length) :
  aG P w0 g H w (Builtin.clear_ #[ty] rt #[v]) (.bg []) (H.set b (.cells (cs.take off++(List.replicate len z).flatten++cs.drop (off+len*ei.size)))):=by
 cases hx with
 | @aP _ _ _ _ r o q cap hφ hc hq =>
  obtain⟨h1,h2,h3⟩:=h.dt b _ hb r o q hφ
  obtain⟨oX,pJ⟩:=bu (g:=g) (w:=w) _ _ qj
  have bR:=eC oX lu len
  have Fg:=dD pJ len
  have hlen:(List.replicate len z).flatten.length=len*ei.size:=by simp[List.length_flatten,lu]
  have uk:zv.cells.size=ei.size:=by have:=oX.1;simp at this;omega
  have xQ:ax g w (List.replicate len z).flatten (Builtin.zeroCells zv.cells len).toList:=by
   simpa[Builtin.zeroCells,uk]using bR
  obtain⟨le,sr⟩:=h.store hb hφ (by rw[hlen];exact hle) xQ Fg
  rw[hlen]at sr
  refine⟨.tuple #[],_,g,?_,le,sr,.bg rfl (by simp),by simp,fun b' y' a _ d=>⟨bE a (by rintro rfl;rw[hφ]at d;cases d),d⟩⟩
  have hl:=xQ.1
  rw[hlen]at hl
  cases len with
  | zero =>
   have e:(Builtin.zeroCells zv.cells 0).toList=[]:=List.eq_nil_of_length_eq_zero (by rw[←hl];simp)
   rw[e]
   simp[Builtin.clear_,run_underlying hu,World.setCells]
  | succ len =>
   have aJ:=run_storeCells_cells (P:=P) r (o+off) (Builtin.zeroCells zv.cells (len+1)).toList 0 w (fun j hj=>(h2 _ (by omega) (by omega)).2.2) (fun j hj=>(h2 (o+off+0+j) (by omega) (by omega)).2.1 _) (xQ.dn Fg)
   have Gb:(zeroValue elem).run P w=.ok zv w:=by simp[zeroValue,ar hi,hz]
   simp only[Nat.add_zero]at aJ
   simp[Builtin.clear_,run_underlying hu,Gb,aJ]
theorem SR.shrink {b:Nat}{cs:List T}(k:Nat)(h:SR w0 g H w)(hb:H[b]?=some (.cells cs))(hφ:∃x,g.φ b=some x):SR w0 g (H.set b (.cells (cs.take k))) w∧Fr g H g (H.set b (.cells (cs.take k))):=by
 have fk:b<H.length:=(List.getElem?_eq_some_iff.1 hb).1
 obtain⟨y,hy⟩:=hφ
 refine⟨?_,by simp,fun b' x a _ d=>⟨bE a (by rintro rfl;rw[hy]at d;cases d),d⟩⟩
 refine h.step (fun b'=>b'=b) (Tr.refl w) (.refl _ _) (fun _ _ hs=>hs.elim) (fun _ hm=>hm.elim) h.fresh (fun b' x hx=>by rw[List.length_set];exact h.gN b' x hx) (fun t e x hx=>by rw[List.length_set];exact h.cp t e x hx) (fun _ _ _=>rfl) (fun _ _ _ _=>⟨id,id⟩) (fun _ _ _ _=>rfl) (fun b' x hx=>?_)
 rcases bj fk hx with⟨rfl,rfl⟩|⟨hn,ej⟩
 ·refine .inr fun r o q hφ=>?_
  obtain⟨h1,h2,h3⟩:=h.dt b' _ hb r o q hφ
  refine⟨by simp;omega,h2,fun i t hi=>h3 i t ?_⟩
  rw[List.getElem?_take]at hi
  split at hi
  ·exact hi
  ·cases hi
 ·exact .inl ⟨hn,ej⟩
end
end Go.Rmp
end

section
namespace Go.Rmp
def aj:Operand→Option X
 | .tmp t=>some (.r t)
 | .const v=>(fh v).map .c
 | .func f=>some (.c (.fn f []))
 | .global _=>none
def b8:List Operand→Option (List X)
 | []=>some []
 | x :: xs=>match aj x,b8 xs with
  | some y,some ys=>some (y :: ys)
  | _,_=>none
def dU:Option Operand→Option (Option X)
 | none=>some none
 | some x=>(aj x).map some
def fo:List (Nat×Operand)→Option (List (Nat×X))
 | []=>some []
 | (i,x) :: xs=>match aj x,fo xs with
  | some y,some ys=>some ((i,y) :: ys)
  | _,_=>none
def Fh:TypeDesc→Option kK
 | .int _=>some .int
 | .string=>some .str
 | .bool=>some .bool
 | _=>none
def kinds (P:Program):List Field→Option (List kK)
 | []=>some []
 | f :: fs=>match (P.underlying f.type).bind Fh,kinds P fs with
  | some k,some ks=>some (k :: ks)
  | _,_=>none
def kr (P:Program)(ty:TypeId):Option KT :=
 match P.underlying ty with
 | some (.struct fs)=>(kinds P fs.toList).map .st
 | some d=>(Fh d).map .sc
 | none=>none
def zeroOf (P:Program)(ty:TypeId):Option (List T) :=
 match P.info? ty with
 | some i=>match i.zero with
  | some zv=>bO zv.cells.toList
  | none=>none
 | none=>none
def isEq:BinOp→Option Bool
 | .eql=>some false
 | .neq=>some true
 | _=>none
def cls:TypeDesc→Option tw
 | .pointer _=>some .ptr
 | .slice _=>some .slice
 | .map _ _=>some .map
 | .func _ _ _=>some .func
 | _=>none
def qp (P:Program)(op:BinOp)(ty:TypeId)(x y:X):Option Bo :=
 match P.underlying ty with
 | some (.int _)|some .string=>some (.bin op x y)
 | some .bool=>(isEq op).map fun n=>.beq n x y
 | some (.struct fs)=>match isEq op,kinds P fs.toList with
  | some n,some ks=>if flat P fs.toList 0 ks&&!P.stoodInHeld ty&&!P.eqGuardType P.depth ty then some (.eqs n ks x y)else none
  | _,_=>none
 | some d=>match isEq op,cls d with
  | some n,some c=>some (.eK n c x y)
  | _,_=>none
 | none=>none
def jz (P:Program)(ty:TypeId)(x:X):Option Bo :=
 match P.underlying ty,P.info? ty with
 | some d,some i=>some (.ld (if bC d then i.size else 1) (bC d) x)
 | _,_=>none
def fp (P:Program)(ty:TypeId)(x:X)(f:Nat)(ad:Bool):Option Bo :=
 match P.underlying ty with
 | some (.struct fs)=>match fs[f]? with
  | some f=>match P.underlying f.type,P.info? f.type with
   | some d,some i=>if ad then(if i.size=0 then none else some (.ny f.offset x))else some (.y9 f.offset i.size (bC d) x)
   | _,_=>none
  | none=>none
 | _=>none
def mV (P:Program)(ty:TypeId)(x i:X)(ad:Bool):Option Bo :=
 match P.underlying ty,ad with
 | some (.slice e),true=>(P.info? e).map fun ei=>.ja ei.size x i
 | some (.array n e),true=>(P.info? e).map fun ei=>.vS n ei.size x i
 | some .string,false=>some (.za x i)
 | some (.array n e),false=>match P.info? e,P.underlying e with
  | some ei,some d=>some (.BX n ei.size (bC d) x i)
  | _,_=>none
 | _,_=>none
def gk (P:Program)(ty:TypeId)(x:X)(lo hi mx:Option X):Option Bo :=
 match P.underlying ty with
 | some .string=>if mx.isSome then none else some (.xh x lo hi)
 | some (.slice e)=>match P.info? e with
  | some ei=>if mx.isSome&&hi.isNone then none else some (.kM ei.size x lo hi mx)
  | none=>none
 | _=>none
def o3 (P:Program)(ty:TypeId)(x:X)(lo hi mx:Option X):Option Bo :=
 match P.underlying ty,lo,hi,mx with
 | some (.slice e),none,some hi,none=>(P.info? e).map fun ei=>.B0 ei.size x hi
 | _,_,_,_=>none
def jA (P:Program)(src dst:TypeId)(x:X):Option Bo :=
 match P.underlying src,P.underlying dst with
 | some (.int _),some (.int k)=>some (.fy k x)
 | some .string,some .string=>none
 | some .string,some (.slice e)=>match P.underlying e with
  | some (.int .u8)=>some (.vR false x)
  | _=>none
 | some (.slice e),some .string=>match P.underlying e with
  | some (.int .u8)=>some (.vQ x)
  | _=>none
 | some (.slice _),some (.slice e)=>if src==dst then(match P.underlying e with
  | some (.int .u8)=>some (.vR true x)
  | _=>none)else none
 | _,_=>none
def qq:TypeDesc→Bool
 | .int _=>false
 | _=>true
def eM (P:Program)(mu:Bool)(dp:List TypeId)(as:List X):Option Bo :=
 match dp,as with
 | [sT,xT],[x,y]=>match P.underlying sT,P.underlying xT with
  | some (.slice e),some d=>match P.info? e with
   | some ei=>match ei.zero with
    | some zv=>if qq d&&zv.cells.size==ei.size&&ei.bytes != 0 then some (.app ei.size ei.bytes mu x y)else none
    | none=>none
   | none=>none
  | _,_=>none
 | _,_=>none
def lz (P:Program)(dp:List TypeId)(as:List X):Option Bo :=
 match dp,as with
 | [sT,xT],[x,k]=>match P.underlying sT,P.underlying xT with
  | some (.slice e),some (.int _)=>match P.info? e,zeroOf P e with
   | some ei,some z=>if ei.bytes != 0 then some (.zd ei.size ei.bytes z x k)else none
   | _,_=>none
  | _,_=>none
 | _,_=>none
def dE (P:Program)(mu:Bool)(b:Builtin)(dp:List TypeId)(as:List X):Option Bo :=
 match b,dp,as with
 | .append,dp,as=>match lz P dp as with
  | some b=>some b
  | none=>eM P mu dp as
 | .cap,[t],[x]=>match P.underlying t with
  | some (.slice _)=>some (.cap x)
  | _=>none
 | .copy,[dT,_],[x,y]=>match P.underlying dT with
  | some (.slice e)=>(P.info? e).map fun ei=>.tz ei.size x y
  | _=>none
 | .len,[t],[x]=>match P.underlying t with
  | some .string=>some (.len .str x)
  | some (.slice _)=>some (.len .sl x)
  | some (.map _ _)=>some (.len .map x)
  | _=>none
 | .clear,[t],[x]=>match P.underlying t with
  | some (.slice e)=>match P.info? e,zeroOf P e with
   | some ei,some z=>some (.zb ei.size z x)
   | _,_=>none
  | _=>none
 | .min,_,[x,y]=>some (.mn x y)
 | .max,_,[x,y]=>some (.mx x y)
 | .delete,[t,_],[m,k]=>match P.underlying t with
  | some (.map key _)=>match kr P key with
   | some kt=>if fj P key kt then some (.del kt m k)else none
   | none=>none
  | _=>none
 | _,_,_=>none
def mW (P:Program)(ty:TypeId)(m k:X):Option (Nat×KT×T) :=
 match P.underlying ty with
 | some (.map key e)=>match kr P key,P.info? e with
  | some kt,some ei=>match ei.zero with
   | some zv=>match fh zv with
    | some z=>if fj P key kt then some (e,kt,z)else none
    | none=>none
   | none=>none
  | _,_=>none
 | _=>none
def lA (P:Program)(fs:List Field):Bool:=fs.all fun f=>(P.info? f.type).isSome
def gm (P:Program)(ty:TypeId)(ps:List (Nat×X)):Option Bo :=
 match P.underlying ty,zeroOf P ty with
 | some (.struct fs),some z=>if lA P fs.toList&&ps.all (fun p=>p.1<fs.size)then
   some (.build z (ps.map fun p=>((((placesOf P fs.toList)[p.1]?).getD (0,0)).1,(((placesOf P fs.toList)[p.1]?).getD (0,0)).2,p.2)))else none
 | _,_=>none
def o4 (P:Program)(mu:Bool)(ty:TypeId)(n:Nat)(ps:List (Nat×X)):Option Bo :=
 match P.underlying ty with
 | some (.slice e)=>match P.info? e,zeroOf P e with
  | some ei,some z=>if z.length==ei.size&&decide (n*ei.size≤16777216)then some (if mu then .xi n z ps else .kL n z ps)else none
  | _,_=>none
 | _=>none
def o5 (P:Program)(mu:Bool)(ty:TypeId)(l c:X):Option Bo :=
 match P.underlying ty with
 | some (.slice e)=>match P.info? e,zeroOf P e with
  | some ei,some z=>if z.length==ei.size&&ei.size != 0 then some (.BZ mu ei.bytes z l c)else none
  | _,_=>none
 | _=>none
def v9 (n:String):Bool:=(Extern.allGenericRows.lookup n).isNone&&(Extern.allTypedRows.lookup n).isNone&&(Extern.allRows.lookup n).isNone
def nK (P:Program)(f:FuncId):Option Nat :=
 match P.funcs[f]? with
 | some fn=>match fn.params[0]? with
  | some t=>match P.underlying t with
   | some (.slice e)=>match P.info? e with
    | some ei=>if fn.name != "runtime.NumGoroutine"&&fn.body.isNone&&(Extern.findNext fn).isNone&&fn.origin=="slices.overlaps"&&v9 fn.name then some ei.size else none
    | none=>none
   | _=>none
  | none=>none
 | none=>none
def aA (P:Program)(mu:Bool):Op→Option Bo
 | .move x | .assign x=>(aj x).map .al
 | .pick c a b=>match aj c,aj a,aj b with
  | some c,some a,some b=>some (.pick c a b)
  | _,_,_=>none
 | .binOp op ty x y _=>match aj x,aj y with
  | some x,some y=>qp P op ty x y
  | _,_=>none
 | .unOp op _ x=>(aj x).map (.un op)
 | .convert s d x=>(aj x).bind (jA P s d)
 | .alloc ty=>(zeroOf P ty).map .alloc
 | .box _ x=>(aj x).map .box
 | .build ty ps=>(fo ps.toList).bind (gm P ty)
 | .buildSlice ty n ps=>(fo ps.toList).bind (o4 P mu ty n)
 | .load ty x=>(aj x).bind (jz P ty)
 | .store ty a v=>match P.info? ty,aj a,aj v with
  | some i,some a,some v=>some (.st i.size a v)
  | _,_,_=>none
 | .fieldAddr ty x f=>(aj x).bind fun x=>fp P ty x f true
 | .field ty x f=>(aj x).bind fun x=>fp P ty x f false
 | .indexAddr ty x i=>match aj x,aj i with
  | some x,some i=>mV P ty x i true
  | _,_=>none
 | .index ty x i=>match aj x,aj i with
  | some x,some i=>mV P ty x i false
  | _,_=>none
 | .slice ty x lo hi mx=>match aj x,dU lo,dU hi,dU mx with
  | some x,some lo,some hi,some mx=>if mu then o3 P ty x lo hi mx else gk P ty x lo hi mx
  | _,_,_,_=>none
 | .makeMap _ none=>some .nz
 | .lookup ty m k ok=>match aj m,aj k with
  | some m,some k=>(mW P ty m k).map fun (_,kt,z)=>.gW kt z ok m k
  | _,_=>none
 | .mapUpdate ty m k v | .insert ty m k v=>match aj m,aj k,aj v with
  | some m,some k,some v=>(mW P ty m k).map fun (_,kt,_)=>.oH kt m k v
  | _,_,_=>none
 | .makeSlice ty l c=>match aj l,aj c with
  | some l,some c=>o5 P mu ty l c
  | _,_=>none
 | .makeFunc (.func f) first ep=>if first.size=0 then(b8 ep.toList).map (.vT f)else none
 | .extract x i=>(aj x).map (.ext i)
 | .nilCheck x=>(aj x).map .ka
 | .range ty m=>match P.underlying ty with
  | some (.map _ _)=>(aj m).map .vU
  | _=>none
 | .next it false=>(aj it).map .gL
 | .entry it=>(aj it).map .vV
 | .call { callee:=.value (.func f),args,.. }=>match nK P f,b8 args.toList with
  | some n,some [x,y]=>some (.yN n x y)
  | _,_=>none
 | .call { callee:=.builtin b,args,argTypes }=>(b8 args.toList).bind (dE P mu b argTypes.toList)
 | _=>none
def tp (P:Program)(w0:World)(g:Ctx)(H:aa)(w:World)(s:Sem Next)(t:T)(H':aa):Prop :=
 ∃nx v w' g',s.run P w=.ok nx w'∧(nx=.value v∨(nx=.skip∧v=undef))∧Le g w g' w'∧SR w0 g' H' w'∧VR g' w' t v∧Fr g H g' H'
theorem aG.fq {P:Program}{w0 w:World}{g:Ctx}{H H':aa}{s:Sem Value}{t:T}(h:aG P w0 g H w s t H'):tp P w0 g H w (do pure (.value (←s))) t H':=by
 obtain⟨v,w',g',h1,h2⟩:=h
 exact⟨.value v,v,w',g',by simp[h1],.inl rfl,h2⟩
theorem cZ {g:Ctx}{w:World}:VR g w av undef:=.bg rfl (by simp)
section
variable {P:Program} {w0 w:World} {g:Ctx} {H:aa} {R:ai} {ρ:Operand→Value}
def RV (g:Ctx)(w:World)(R:ai)(ρ:Operand→Value)(xs:List Operand):Prop:=∀x∈xs,∀y,aj x=some y→VR g w (y.ev R) (ρ x)
theorem b9:∀(xs:List Operand) (ys:List X),b8 xs=some ys→RV g w R ρ xs→ax g w (ys.map (X.ev R)) (xs.map ρ)
 | [],ys,h,_=>by simp[b8]at h;subst h;exact ax.nil
 | x :: xs,ys,h,hv=>by
  simp only[b8]at h
  cases h1:aj x with
  | none=>simp[h1]at h
  | some y =>
   cases h2:b8 xs with
   | none=>simp[h1,h2]at h
   | some Gc =>
    simp[h1,h2]at h;subst h
    exact ax.cons (hv x (by simp) y h1) (b9 xs Gc h2 (fun z hz=>hv z (by simp[hz])))
theorem gn:∀(ps:List (Nat×Operand)) (qs:List (Nat×X)),fo ps=some qs→RV g w R ρ (ps.map (·.2))→PV g w R qs (ps.map fun p=>(p.1,ρ p.2))
 | [],qs,h,_=>by simp[fo]at h;subst h;exact .nil
 | (i,x) :: ps,qs,h,hv=>by
  simp only[fo]at h
  cases h1:aj x with
  | none=>simp[h1]at h
  | some y =>
   cases h2:fo ps with
   | none=>simp[h1,h2]at h
   | some Ge =>
    simp[h1,h2]at h;subst h
    exact .cons (hv x (by simp) y h1) (gn ps Ge h2 (fun z hz=>hv z (by simp at hz ⊢;exact .inr hz)))
end
end Go.Rmp
end
