/- Part of a proof of a law of this seat: the machine of plain values, its simulation, and the contracts of the functions that the law reaches. Conditions: none beyond the given row. -/
import Derived.OrdersIn
import Derived.RangeFuncIn
import Derived.Laws.Sem
import Derived.Laws.World
import Derived.Laws.IdiomCopy
import Derived.ChangeKeysEq
import Derived.Laws.StructEq
import Derived.Laws.BytesString
import Derived.IntWalk
import Derived.Lib.AppendZerosOnto
import Derived.Lib.Overlaps
import Derived.Maps.RangeRun
import Derived.RangeFuncRecord
open Int renaming reduceLT → q3, reduceLE → q4, reduceBEq → q5, reduceBNe → q6, reduceEq → q7
open Nat renaming reduceAdd → q8, reduceLeDiff → q9, reduceLT → j1, reduceEqDiff → j2
set_option linter.unusedSimpArgs false
set_option linter.unusedVariables false
set_option linter.unnecessarySimpa false
set_option maxHeartbeats 4000000
section
namespace Go.Rmp
inductive SK where
 | nil|arg|full|own (t e:Nat)
 deriving DecidableEq
inductive T where
 | int (k:IntKind) (n:Int)
 | bool (b:Bool)
 | str (s:ByteArray)
 | fb
 | ptr (b off:Nat)
 | cy (cs:List T)
 | fc
 | map (b:Nat)
 | sl (k:SK) (es:List (List T))
 | aE (b off len n:Nat)
 | cQ (b off len n c:Nat)
 | kr
 | fn (f:Nat) (iB:List T)
 | lz (b:Nat)
 | eJ
 | agg (cs:List T)
 | bE (vs:List T)
abbrev aj:=Nat→T
def bq:T:=.bE []
def T.one:T→Bool
 | .agg _ | .bE _=>false
 | _=>true
def T.cells?:T→Option (List T)
 | .agg cs=>some cs
 | .bE _=>none
 | v=>some [v]
def T.erase:T→T
 | .sl _ es=>.sl .arg es
 | v=>v
inductive X where
 | r (t:Nat)
 | c (v:T)
def X.ev (R:aj):X→T
 | .r t=>R t
 | .c v=>v
def iq (R:aj)(d:Nat)(v:T):aj:=fun t=>if t=d then v else R t
def aR (R:aj)(d:Option Nat)(v:T):aj:=match d with|some d=>iq R d v|none=>R
inductive BO where|ptr|slice|map|func
 deriving DecidableEq
inductive Lc where|str|sl|map
inductive rf where|int|str|bool
 deriving DecidableEq
inductive KT where
 | sc (t:rf)
 | st (l:List rf)
def T.tp:rf→T→Bool
 | .int,.int _ _ | .str,.str _ | .bool,.bool _=>true
 | _,_=>false
def dE:List rf→List T→Bool
 | [],[]=>true
 | t :: ts,v :: vs=>v.tp t&&dE ts vs
 | _,_=>false
def T.ga:KT→T→Bool
 | .sc t,v=>v.tp t
 | .st l,.agg cs=>dE l cs
 | _,_=>false
inductive Bo where
 | aD (x:X)
 | pick (c a b:X)
 | bin (op:BinOp) (x y:X)
 | my (neg:Bool) (c:BO) (x y:X)
 | beq (neg:Bool) (x y:X)
 | eqs (neg:Bool) (ks:List rf) (x y:X)
 | un (op:UnOp) (x:X)
 | td (k:IntKind) (x:X)
 | Ip (x:X)
 | QI (x:X)
 | len (k:Lc) (x:X)
 | alloc (z:List T)
 | box (x:X)
 | build (z:List T) (ps:List (Nat×Nat×X))
 | o7 (n:Nat) (z:List T) (ps:List (Nat×X))
 | ld (n:Nat) (ag:Bool) (x:X)
 | st (n:Nat) (a v:X)
 | xZ (off:Nat) (x:X)
 | Jc (off n:Nat) (ag:Bool) (x:X)
 | jF (st:Nat) (x i:X)
 | LW (n st:Nat) (x i:X)
 | Jd (x i:X)
 | LX (n st:Nat) (ag:Bool) (x i:X)
 | Iq (x:X) (lo hi:Option X)
 | jg (st:Nat) (x:X) (lo hi mx:Option X)
 | wq
 | ma (kt:KT) (z:T) (ok:Bool) (m k:X)
 | xS (kt:KT) (m k v:X)
 | del (kt:KT) (m k:X)
 | app (st bytes:Nat) (mu:Bool) (x y:X)
 | M3 (mu:Bool) (bytes:Nat) (z:List T) (l c:X)
 | D0 (f:Nat) (iB:List X)
 | ext (i:Nat) (x:X)
 | mn (x y:X)
 | mx (x y:X)
 | x0 (x:X)
 | cap (x:X)
 | wv (n:Nat) (x y:X)
 | Is (n:Nat) (x y:X)
 | Je (x:X)
 | oE (x:X)
 | Jf (x:X)
 | Iu (n:Nat) (z:List T) (x:X)
 | Jg (n bytes:Nat) (z:List T) (x k:X)
 | Iv (n:Nat) (z:List T) (ps:List (Nat×X))
 | M4 (n:Nat) (x hi:X)
abbrev Gd:=Option (Nat×Bool)
structure Rd where
 d:Nat
 op:Bo
 g:Gd
inductive D1 where
 | b (op:Bo)
 | call (f:Nat) (as:List X)
 | aX (f:X) (as:List X)
structure O where
 d:Option Nat
 op:D1
 g:Gd
 wx:List Rd
inductive C where
 | skip
 | ops (l:List O)
 | seq (a b:C)
 | cond (x:X) (a b:C)
 | block (id:Nat) (a:C)
 | loop (a:C)
 | exit (id:Nat)
 | ret
 | cj (n:Nat) (x:X) (ps:List Nat) (bV body:C)
inductive Ex where
 | normal|exit (id:Nat)|ret
inductive E6 where
 | ready|busy|done
 deriving DecidableEq
inductive B where
 | cells (cs:List T)
 | map (es:List (T×T))
 | tok (e:Nat)
 | loop (st:E6) (dP:Option Ex) (n:Nat) (R:Nat→T) (ps:List Nat) (bV body:C)
 | wy
 | dead
 /-- a map that is ranged over: the places still to come;the range's block;the place last told -/
 | da (es:List (T×T)) (ix:List Nat) (bi:Nat) (cur:Option Nat)
 | uL (b:Nat)
 /-- written cells that stand still from here on: they may be read -/
 | fz (cs:List T)
abbrev ae:=List B
def fS (a b:ByteArray):Bool:=a.toList==b.toList
def strLt (a b:ByteArray):Bool:=Op.bytesLess a.toList b.toList
def bW (op:BinOp):T→T→Option T
 | .int k a,.int k' b =>
  match op with
  | .shl=>if b<0 then none else some (.int k (k.wrap (a*2^(min b.toNat k.bits))))
  | .shr=>if b<0 then none else some (.int k (a.fdiv (2^(min b.toNat k.bits))))
  | op =>
   if k=k' then
    match op with
    | .add=>some (.int k (k.wrap (a+b)))
    | .sub=>some (.int k (k.wrap (a-b)))
    | .mul=>some (.int k (k.wrap (a*b)))
    | .quo=>if b=0 then none else some (.int k (k.wrap (a.tdiv b)))
    | .rem=>if b=0 then none else some (.int k (a.tmod b))
    | .and=>some (.int k (k.wrap (BitVec.ofInt k.bits a &&& BitVec.ofInt k.bits b).toNat))
    | .or=>some (.int k (k.wrap (BitVec.ofInt k.bits a ||| BitVec.ofInt k.bits b).toNat))
    | .xor=>some (.int k (k.wrap (BitVec.ofInt k.bits a ^^^ BitVec.ofInt k.bits b).toNat))
    | .andNot=>some (.int k (k.wrap (BitVec.ofInt k.bits a &&& ~~~ BitVec.ofInt k.bits b).toNat))
    | .eql=>some (.bool (a==b))
    | .neq=>some (.bool (a != b))
    | .lss=>some (.bool (a<b))
    | .leq=>some (.bool (a≤b))
    | .gtr=>some (.bool (a>b))
    | .geq=>some (.bool (a≥b))
    | _=>none
   else none
 | .str a,.str b =>
  match op with
  | .add=>if a.size+b.size≤9223372036854775807 then some (.str (a++b))else none
  | .eql=>some (.bool (fS a b))
  | .neq=>some (.bool (!fS a b))
  | .lss=>some (.bool (strLt a b))
  | .leq=>some (.bool (strLt a b||fS a b))
  | .gtr=>some (.bool (!(strLt a b||fS a b)))
  | .geq=>some (.bool (!strLt a b))
  | _=>none
 | _,_=>none
def Jh (op:UnOp):T→Option T
 | .int k n =>
  match op with
  | .neg=>some (.int k (k.wrap (0-n)))
  | .xor=>some (.int k (k.wrap (BitVec.ofInt k.bits (if k.signed then -1 else k.max) ^^^ BitVec.ofInt k.bits n).toNat))
  | _=>none
 | .bool b=>match op with | .not=>some (.bool !b)|_=>none
 | _=>none
def dS:BO→T→Option Bool
 | .ptr,.fb=>some true
 | .ptr,.ptr _ _ | .ptr,.cy _=>some false
 | .slice,.sl .nil []=>some true
 | .slice,.sl .full _ | .slice,.sl (.own _ _) _ | .slice,.sl .arg (_ :: _) | .slice,.aE _ _ _ _=>some false
 | .map,.fc=>some true
 | .map,.map _=>some false
 | .func,.kr=>some true
 | .func,.fn _ _=>some false
 | _,_=>none
def eV (c:BO)(x y:T):Option Bool :=
 match dS c x,dS c y with
 | some true,some b=>some b
 | some b,some true=>some b
 | _,_=>none
def fQ:T→T→Option Bool
 | .int k a,.int k' b=>if k=k' then some (a==b)else none
 | .str a,.str b=>some (fS a b)
 | .bool a,.bool b=>some (a==b)
 | _,_=>none
def bf:List T→List T→Option Bool
 | [],[]=>some true
 | a :: as,b :: bs=>match fQ a b,bf as bs with
  | some x,some y=>some (x&&y)
  | _,_=>none
 | _,_=>none
def fx:T→T→Option Bool
 | .agg as,.agg bs=>bf as bs
 | a,b=>fQ a b
def cq (k:T):List (T×T)→Option (Option Nat)
 | []=>some none
 | e :: es=>match fx k e.1 with
  | some true=>some (some 0)
  | some false=>(cq k es).map (Option.map (·+1))
  | none=>none
def eX (H:ae):T→Option (List (T×T))
 | .fc=>some []
 | .map b=>match H[b]? with|some (.map es)=>some es|some (.da es _ _ _)=>some es|_=>none
 | _=>none
def jG (cells:List T):List (Nat×List T)→Option (List T)
 | []=>some cells
 | (off,vs) :: rest=>if off+vs.length≤cells.length then jG (cells.take off++vs++cells.drop (off+vs.length)) rest else none
def dF (R:aj):List (Nat×Nat×X)→Option (List (Nat×List T))
 | []=>some []
 | (off,n,x) :: rest=>match (x.ev R).cells?,dF R rest with
  | some cs,some l=>if cs.length=n then some ((off,cs) :: l)else none
  | _,_=>none
def gv (n:Nat)(es:List (List T))(R:aj):List (Nat×X)→Option (List (List T))
 | []=>some es
 | (i,x) :: rest=>match (x.ev R).cells? with
  | some cs=>if cs.length=n∧i<es.length then gv n (es.set i (cs.map T.erase)) R rest else none
  | none=>none
def gw (n:Nat)(es:List (List T))(R:aj):List (Nat×X)→Option (List (List T))
 | []=>some es
 | (i,x) :: rest=>match (x.ev R).cells? with
  | some cs=>if cs.length=n∧i<es.length then gw n (es.set i cs) R rest else none
  | none=>none
def ku (H:ae)(n:Nat):T→Option (List T)
 | .ptr b off=>match H[b]? with
  | some (.cells cs)=>if off+n≤cs.length then some ((cs.drop off).take n)else none
  | some (.fz cs)=>if off+n≤cs.length then some ((cs.drop off).take n)else none
  | _=>none
 | .cy cs=>if n≤cs.length then some (cs.take n)else none
 | _=>none
def valOf (ag:Bool)(cs:List T):Option T :=
 if ag then some (.agg cs)else match cs with | [v]=>some v|_=>none
def Ji (H:ae)(vs:List T):T→Option ae
 | .ptr b off=>match H[b]? with
  | some (.cells cs)=>if off+vs.length≤cs.length then some (H.set b (.cells (cs.take off++vs++cs.drop (off+vs.length))))else none
  | _=>none
 | _=>none
def m4 (off:Nat):T→Option T
 | .ptr b o=>some (.ptr b (o+off))
 | .cy cs=>if off<cs.length then some (.cy (cs.drop off))else none
 | _=>none
def ew (n i:Nat):T→Option T
 | .sl _ es=>match es[i]? with
  | some c=>if c.length=n∧n≠0 then some (.cy c)else none
  | none=>none
 | .aE b off len n'=>if n'=n∧i<len∧n≠0 then some (.ptr b (off+i*n))else none
 | _=>none
def aP (H:ae)(n:Nat):T→Option (List (List T))
 | .sl _ es=>if es.all (·.length==n)then some es else none
 | .aE b off len n'=>match H[b]? with
  | some (.cells cs)=>if n'=n∧off+len*n≤cs.length then some ((List.range len).map fun i=>(cs.drop (off+i*n)).take n)else none
  | some (.fz cs)=>if n'=n∧off+len*n≤cs.length then some ((List.range len).map fun i=>(cs.drop (off+i*n)).take n)else none
  | _=>none
 | .str s=>if n=1 then some (s.data.toList.map fun c=>[.int .u8 c.toNat])else none
 | _=>none
def bytesOf:List (List T)→Option (List UInt8)
 | []=>some []
 | [.int .u8 n] :: es=>(bytesOf es).map (UInt8.ofNat n.toNat :: ·)
 | _=>none
def ey (H:ae):Lc→T→Option Nat
 | .str,.str s=>some s.size
 | .sl,.sl _ es=>some es.length
 | .sl,.aE _ _ len _=>some len
 | .sl,.cQ _ _ len _ _=>some len
 | .map,.fc=>some 0
 | .map,.map b=>match H[b]? with
  | some (.map es)=>some es.length
  | some (.da es _ _ _)=>some es.length
  | _=>none
 | _,_=>none
def bB:T→Option Nat
 | .int _ n=>if 0≤n then some n.toNat else none
 | _=>none
def fy (R:aj)(d:Nat):Option X→Option Nat
 | none=>some d
 | some x=>bB (x.ev R)
def SK.cut (k:SK)(len lo hi:Nat):SK :=
 match k with
 | .nil=>.nil
 | .arg=>.arg
 | .full=>if hi=len then .full else .arg
 | .own t e=>if hi=len∧lo<len then .own t e else .arg
def cr (gL bytes:Nat):Bool:=(gL+gL/4+512)*bytes≤281474976710656
def kv (H:ae)(bytes:Nat)(k:SK)(es new:List (List T)):Option (T×ae) :=
 match new with
 | []=>some (.sl k es,H)
 | _ =>
  if cr (es.length+new.length) bytes then
   match k with
   | .nil | .full=>some (.sl (.own H.length (es.length+new.length)) (es++new.map (·.map T.erase)),H++[.tok (es.length+new.length)])
   | .own t e=>match H[t]? with
    | some (.tok e')=>if e=e' then some (.sl (.own t (e+new.length)) (es++new.map (·.map T.erase)),H.set t (.tok (e+new.length)))else none
    | _=>none
   | .arg=>none
  else none
def x8:T→Bool
 | .sl _ _ | .aE _ _ _ _=>true
 | _=>false
def mz (H:ae)(n bytes:Nat)(x:T)(new:List (List T)):Option (T×ae) :=
 match new with
 | []=>if x8 x then some (x,H)else none
 | _ =>
  match x with
  | .sl .nil es | .sl .full es =>
   if cr (es.length+new.length) bytes∧es=[]then some (.aE H.length 0 new.length n,H++[.cells new.flatten])else none
  | .aE b off len n'=>match H[b]? with
   | some (.cells cs) =>
    if n'=n∧off=0∧len*n=cs.length∧cr (len+new.length) bytes then
     some (.aE H.length 0 (len+new.length) n,H.set b .dead++[.cells (cs++new.flatten)])else none
   | _=>none
  | _=>none
def wz:T→T
 | .cQ b off len n _=>.aE b off len n
 | t=>t
def eL (H:ae)(n k:Nat):T→Option (List (List T))
 | .aE b off _ n' | .cQ b off _ n' _=>match H[b]? with
  | some (.cells cs)=>if n'=n∧off+k*n≤cs.length then some ((List.range k).map fun i=>(cs.drop (off+i*n)).take n)else none
  | _=>none
 | _=>none
def x9:T→Option Nat
 | .aE _ _ len _ | .cQ _ _ len _ _=>some len
 | _=>none
def wB (H:ae)(n:Nat)(x y:T):Option (T×ae) :=
 match x,x9 y with
 | .aE b off len n',some ly | .cQ b off len n' _,some ly =>
  match H[b]?,eL H n (min ly len) y with
  | some (.cells cs),some new =>
   if n'=n∧n≠0∧off≤cs.length then some (.int .i64 (min ly len:Nat),H.set b (.cells (cs.take off++new.flatten++cs.drop (off+(min ly len)*n))))else none
  | _,_=>none
 | _,_=>none
def ya (H:ae)(b:Nat):Nat:=match H[b]? with
 | some (.cells cs)=>cs.length
 | some (.fz cs)=>cs.length
 | _=>0
def yc (H:ae)(n bytes:Nat)(z:List T)(x:T)(k:Nat):Option (T×ae) :=
 match x with
 | .cQ b off len n' c=>match eL H n len x with
  | some es=>if n'=n∧n≠0∧0<k∧c<len+k∧z.length=n∧cr (len+k) bytes then some (.aE H.length 0 (len+k) n,H++[.cells (es.flatten++(List.replicate k z).flatten)])else none
  | none=>none
 | _=>none
def wC (H:ae)(n:Nat)(x y:T):Option (T×ae) :=
 match x,y with
 | .aE bv _ _ n1,.cQ b _ len n2 _ =>
  match H[bv]?,H[b]? with
  | some (.cells _),some (.cells cs)=>if bv≠b∧n1=n∧n2=n∧0<cs.length then some (.bool false,H)else none
  | _,_=>none
 | _,_=>none
def D2 (R:aj)(l:List X):List T:=l.map (X.ev R)
def ai (R:aj)(H:ae):Bo→Option (T×ae)
 | .aD x=>some (x.ev R,H)
 | .pick c a b=>match c.ev R with
  | .bool t=>some (if t then a.ev R else b.ev R,H)
  | _=>none
 | .bin op x y=>(bW op (x.ev R) (y.ev R)).map (·,H)
 | .my neg c x y=>(eV c (x.ev R) (y.ev R)).map fun b=>(.bool (if neg then !b else b),H)
 | .beq neg x y=>match x.ev R,y.ev R with
  | .bool a,.bool b=>some (.bool (if neg then !(a==b)else a==b),H)
  | _,_=>none
 | .eqs neg ks x y=>match x.ev R,y.ev R with
  | .agg as,.agg bs=>if dE ks as then(bf as bs).map fun b=>(.bool (if neg then !b else b),H)else none
  | _,_=>none
 | .un op x=>(Jh op (x.ev R)).map (·,H)
 | .td k x=>match x.ev R with
  | .int _ n=>some (.int k (k.wrap n),H)
  | _=>none
 | .Ip x=>match aP H 1 (x.ev R)with
  | some es=>match x.ev R with
   | .str _=>none
   | _=>(bytesOf es).map fun l=>(.str ⟨l.toArray⟩,H)
  | none=>none
 | .QI x=>match x.ev R with
  | .str s=>if s.size=0 then some (.sl .arg [],H)else if s.size≤281474976710656 then some (.sl (.own H.length s.size) (s.data.toList.map fun c=>[.int .u8 c.toNat]),H++[.tok s.size])else none
  | _=>none
 | .len k x=>(ey H k (x.ev R)).map fun (n:Nat)=>(T.int .i64 (n:Int),H)
 | .alloc z=>some (.ptr H.length 0,H++[.cells z])
 | .box x=>(x.ev R).cells?.map fun cs=>(.ptr H.length 0,H++[.cells cs])
 | .build z ps=>match dF R ps with
  | some l=>(jG z l).map fun cs=>(.agg cs,H)
  | none=>none
 | .o7 n z ps=>(gv z.length (List.replicate n z) R ps).map fun es=>(.sl .full es,H)
 | .ld n ag x=>match ku H n (x.ev R)with
  | some cs=>(valOf ag cs).map (·,H)
  | none=>none
 | .st n a v=>match (v.ev R).cells? with
  | some vs=>if vs.length=n then(Ji H vs (a.ev R)).map (bq,·)else none
  | none=>none
 | .xZ off x=>(m4 off (x.ev R)).map (·,H)
 | .Jc off n ag x=>match x.ev R with
  | .agg cs=>if off+n≤cs.length then(valOf ag ((cs.drop off).take n)).map (·,H)else none
  | _=>none
 | .jF n x i=>(bB (i.ev R)).bind fun i=>(ew n i (x.ev R)).map (·,H)
 | .LW len n x i=>match x.ev R,bB (i.ev R)with
  | .ptr b off,some i=>if i<len then some (.ptr b (off+i*n),H)else none
  | _,_=>none
 | .Jd x i=>match x.ev R,bB (i.ev R)with
  | .str s,some i=>(s.data[i]?).map fun c=>(.int .u8 c.toNat,H)
  | _,_=>none
 | .LX len n ag x i=>match x.ev R,bB (i.ev R)with
  | .agg cs,some i=>if i<len∧i*n+n≤cs.length then(valOf ag ((cs.drop (i*n)).take n)).map (·,H)else none
  | _,_=>none
 | .Iq x lo hi=>match x.ev R with
  | .str s=>match fy R 0 lo,fy R s.size hi with
   | some l,some h=>if l≤h∧h≤s.size then some (.str (s.extract l h),H)else none
   | _,_=>none
  | _=>none
 | .jg n x lo hi mx=>match x.ev R with
  | .sl k es=>match fy R 0 lo,fy R es.length hi,mx with
   | some l,some h,none=>if l≤h∧h≤es.length∧es.all (·.length==n)then some (.sl (k.cut es.length l h) ((es.take h).drop l),H)else none
   | some l,some h,some m=>match bB (m.ev R)with
    | some m =>
     if l≤h∧h≤m∧m≤es.length∧es.all (·.length==n)then
      some (.sl (if k=.nil then .nil else if es=[]∧k=.arg then .arg else if h=m then .full else .arg) ((es.take h).drop l),H)else none
    | none=>none
   | _,_,_=>none
  | .aE b off len n'=>match fy R 0 lo,fy R len hi,mx with
   | some l,some h,none =>
    if n'=n∧l≤h∧h≤len then some (if l=h then(if l=0 then .aE b off 0 n else .sl .arg [])else .aE b (off+l*n) (h-l) n,H)else none
   | _,_,_=>none
  | .cQ b off len n' c=>match fy R 0 lo,fy R len hi,mx with
   | some l,some h,none =>
    if n'=n∧l≤h∧h≤c then some (if l<c∨l=0 then .cQ b (off+l*n) (h-l) n (c-l)else .sl .arg [],H)else none
   | _,_,_=>none
  | _=>none
 | .wq=>some (.map H.length,H++[.map []])
 | .ma kt z ok m k =>
  if (k.ev R).ga kt then
   match eX H (m.ev R)with
   | some es=>match cq (k.ev R) es with
    | some (some i)=>match es[i]? with
     | some e=>some (if ok then .bE [e.2,.bool true]else e.2,H)
     | none=>none
    | some none=>some (if ok then .bE [z,.bool false]else z,H)
    | none=>none
   | none=>none
  else none
 | .xS kt m k v=>match m.ev R with
  | .map b=>if (k.ev R).ga kt then match H[b]? with
   | some (.map es)=>match cq (k.ev R) es with
    | some (some i)=>some (bq,H.set b (.map (es.set i (k.ev R,v.ev R))))
    | some none=>some (bq,H.set b (.map (es++[(k.ev R,v.ev R)])))
    | none=>none
   | _=>none else none
  | _=>none
 | .del kt m k=>match m.ev R with
  | .map b=>if (k.ev R).ga kt then match H[b]? with
   | some (.map es)=>match cq (k.ev R) es with
    | some (some i)=>some (.bE [],H.set b (.map (es.eraseIdx i)))
    | some none=>some (.bE [],H)
    | none=>none
   | _=>none else none
  | _=>none
 | .app n bytes mu x y=>match aP H n (y.ev R)with
  | some new=>if mu then mz H n bytes (wz (x.ev R)) new else match x.ev R with
   | .sl k es=>if es.all (·.length==n)then kv H bytes k es new else none
   | _=>none
  | none=>none
 | .M3 mu bytes z l c=>match bB (l.ev R),bB (c.ev R)with
  | some l,some c =>
   if l≤c∧c*bytes≤281474976710656∧c≤9223372036854775807 then
    if mu then some (.aE H.length 0 l z.length,H++[.cells (List.replicate l z).flatten])
    else if l=0 then some (.sl .arg [],H)else some (.sl (.own H.length l) (List.replicate l z),H++[.tok l])
   else none
  | _,_=>none
 | .D0 f iB=>some (.fn f (D2 R iB),H)
 | .ext i x=>match x.ev R with
  | .bE vs=>(vs[i]?).map (·,H)
  | _=>none
 | .mn x y=>match x.ev R,y.ev R with
  | .int k a,.int _ b=>some (.int k (if b<a then b else a),H)
  | _,_=>none
 | .mx x y=>match x.ev R,y.ev R with
  | .int k a,.int _ b=>some (.int k (if b>a then b else a),H)
  | _,_=>none
 | .x0 x=>match x.ev R with
  | .fb | .eJ | .kr=>none
  | v=>some (v,H)
 | .cap x=>match x.ev R with
  | .cQ _ _ _ _ c=>some (.int .i64 (c:Nat),H)
  | _=>none
 | .wv n x y=>wB H n (x.ev R) (y.ev R)
 | .Je x=>match x.ev R with
  | .map b=>(eX H (.map b)).map fun es=>(.ptr H.length 0,H.set b (.da es (List.range es.length) H.length none)++[.uL b])
  | _=>none
 | .oE _=>none
 | .Jf x=>match x.ev R with
  | .ptr bi 0=>match H[bi]? with
   | some (.uL b)=>match H[b]? with
    | some (.da es _ Jj (some c))=>if Jj=bi then(es[c]?).map fun e=>(.bE [e.1,e.2],H)else none
    | _=>none
   | _=>none
  | _=>none
 | .Iu n z x=>match x.ev R with
  | .aE b off len n'=>match H[b]? with
   | some (.cells cs)=>if n'=n∧z.length=n∧off+len*n≤cs.length then some (bq,H.set b (.cells (cs.take off++(List.replicate len z).flatten++cs.drop (off+len*n))))else none
   | _=>none
  | _=>none
 | .Is n x y=>wC H n (x.ev R) (y.ev R)
 | .Jg n bytes z x k=>(bB (k.ev R)).bind fun k=>yc H n bytes z (x.ev R) k
 | .Iv n z ps=>(gw z.length (List.replicate n z) R ps).bind fun es=>if z.length≠0 then some (.aE H.length 0 n z.length,H++[.cells es.flatten])else none
 | .M4 n x hi=>match x.ev R,bB (hi.ev R)with
  | .aE b off _ n',some h=>if n'=n∧n≠0∧0<h∧off+h*n≤ya H b then some (.aE b off h n,H)else none
  | _,_=>none
def aS (R:aj):Gd→Bool
 | none=>true
 | some (t,b)=>match R t with
  | .bool c=>c==b
  | _=>false
inductive Rs where
 | t (r:Nat)
 | cl (r n:Nat) (ag:Bool)
structure Fn where
 n:Nat
 np:Nat
 res:List Rs
 body:C
structure Env where
 fn:Nat→Option Fn
 lA:Nat→List T→ae→(T→ae→Prop)→Prop
 mono:∀f az H (Q Q':T→ae→Prop),lA f az H Q→(∀t H',Q t H'→Q' t H')→lA f az H Q'
inductive J where
 | code (c:C) (R:aj)
 | ops (l:List O) (R:aj)
 | call (f:Nat) (as:List T)
inductive Out where
 | ex (e:Ex) (R:aj)
 | val (v:T)
def C.jx:C→Bool
 | .seq a b | .cond _ a b=>a.jx||b.jx
 | .block _ a | .loop a=>a.jx
 | .cj _ _ _ _ _=>true
 | _=>false
def iC (R:aj):List Nat→List T→aj
 | p :: ps,v :: vs=>iC (iq R p v) ps vs
 | _,_=>R
def yd:T→Option Nat
 | .ptr b 0=>some b
 | _=>none
def nf:List T→Option (List Nat)
 | []=>some []
 | t :: ts=>match yd t,nf ts with
  | some b,some bs=>some (b :: bs)
  | _,_=>none
def marks:T→Option (List Nat)
 | .bE ts=>nf ts
 | _=>none
def kx (t:T)(b:Nat):T:=match t with
 | .bE ts=>.bE (.ptr b 0 :: ts)
 | t=>t
def kill (H:ae):List Nat→ae
 | []=>H
 | b :: bs=>kill (H.set b .dead) bs
def ye:Option Ex→Ex
 | none=>.normal
 | some e=>e
def fA (as:List T):aj:=fun t=>as.getD t bq
def tq (R:aj)(H:ae):Rs→Option T
 | .t r=>some (R r)
 | .cl r n ag=>match ku H n (R r)with
  | some cs=>valOf ag cs
  | none=>none
def oO (R:aj)(H:ae):List Rs→Option (List T)
 | []=>some []
 | x :: xs=>match tq R H x,oO R H xs with
  | some v,some vs=>some (v :: vs)
  | _,_=>none
def wD:List T→T
 | [v]=>v
 | l=>.bE l
def mA (R:aj)(H:ae)(l:List Rs):Option T:=(oO R H l).map wD
def gb (R:aj)(H:ae)(l:List Rd):Prop:=∀r∈l,aS R r.g=true→ai R H r.op=some (R r.d,H)
def fB (cs:List T)(off len n:Nat):List (List T):=(List.range len).map fun i=>(cs.drop (off+i*n)).take n
def BP (b:Nat)(cs:List T):T→T
 | .aE b' off len n=>if b'=b∧off+len*n≤cs.length then .sl .arg (fB cs off len n)else .aE b' off len n
 | t=>t
def BQ (b:Nat)(cs:List T):T→T
 | .bE vs=>.bE (vs.map (BP b cs))
 | t=>BP b cs t
def uM (b:Nat):T→Prop
 | .bE vs=>∃off len n,T.aE b off len n∈vs
 | .aE b' _ _ _=>b'=b
 | _=>False
inductive Vw (H:ae):T→T→Prop
 | refl (t:T):Vw H t t
 | ms {b off len n:Nat} {cs:List T} {es:List (List T)} (src:Nat→Nat→T) (hb:H[b]?=some (.fz cs)) (hl:es.length=len) (hn:∀c∈es,c.length=n) (hle:off+len*n≤cs.length)
   (h1:∀(i j:Nat) (c:List T) (t':T),es[i]?=some c→c[j]?=some t'→cs[off+i*n+j]?=some (src i j)∧t'.one=true) (h2:∀(i j:Nat) (c:List T) (t':T),es[i]?=some c→c[j]?=some t'→Vw H (src i j) t'):Vw H (.aE b off len n) (.sl .arg es)
def Se (H:ae)(as:List T)(b:Nat):Prop:=∃(i b' off len n:Nat),as[i]?=some (.aE b' off len n)∧(b'=b∨∃(cs:List T) (j E7 E8 n':Nat),(H[b']?=some (.cells cs)∨H[b']?=some (.fz cs))∧(cs[j]?:Option T)=some (.aE b E7 E8 n'))
def kz (H:ae)(b bi:Nat)(es:List (T×T))(ix:List Nat)(t:T)(H':ae):Prop :=
 (ix=[]∧t=.bE [.bool false]∧H'=H.set b (.map es))∨∃i e,i∈ix∧es[i]?=some e∧t=.bE [.bool true,e.1,e.2]∧H'=H.set b (.da es (ix.erase i) bi (some i))
inductive W (E:Env):J→ae→(Out→ae→Prop)→Prop
 | skip {R H Q} (h:Q (.ex .normal R) H):W E (.code .skip R) H Q
 | exit {id R H Q} (h:Q (.ex (.exit id) R) H):W E (.code (.exit id) R) H Q
 | ret {R H Q} (h:Q (.ex .ret R) H):W E (.code .ret R) H Q
 | Iw {l R H Q} (h:W E (.ops l R) H Q):W E (.code (.ops l) R) H Q
 | seq {a b R H Q} (M:Out→ae→Prop) (h1:W E (.code a R) H M) (h2:∀R' H',M (.ex .normal R') H'→W E (.code b R') H' Q)
   (h3:∀o H',M o H'→(∀R',o≠.ex .normal R')→Q o H'):W E (.code (.seq a b) R) H Q
 | cond {x a b R H Q} (t:Bool) (hx:x.ev R=.bool t) (h:W E (.code (if t then a else b) R) H Q):W E (.code (.cond x a b) R) H Q
 | block {id a R H Q} (M:Out→ae→Prop) (h1:W E (.code a R) H M) (h2:∀R' H',M (.ex (.exit id) R') H'→Q (.ex .normal R') H')
   (h3:∀o H',M o H'→(∀R',o≠.ex (.exit id) R')→Q o H'):W E (.code (.block id a) R) H Q
 | loop {a R H Q} (M:Out→ae→Prop) (h1:W E (.code a R) H M) (h2:∀R' H',M (.ex .normal R') H'→W E (.code (.loop a) R') H' Q)
   (h3:∀o H',M o H'→(∀R',o≠.ex .normal R')→Q o H'):W E (.code (.loop a) R) H Q
 | nil {R H Q} (h:Q (.ex .normal R) H):W E (.ops [] R) H Q
 | no {o l R H Q} (hg:aS R o.g=false) (h:W E (.ops l (aR R o.d bq)) H Q):W E (.ops (o :: l) R) H Q
 | op {d b g s l R H Q v H'} (hg:aS R g=true) (he:ai R H b=some (v,H')) (hs:gb R H' s) (h:W E (.ops l (aR R d v)) H' Q):W E (.ops (⟨d,.b b,g,s⟩ :: l) R) H Q
 | call {d f as g s l R H Q} (M:Out→ae→Prop) (hg:aS R g=true) (h1:W E (.call f (as.map (X.ev R))) H M)
   (hs:∀v H',M (.val v) H'→gb R H' s) (h2:∀v H',M (.val v) H'→W E (.ops l (aR R d v)) H' Q):W E (.ops (⟨d,.call f as,g,s⟩ :: l) R) H Q
 | aX {d x f cs as g s l R H Q} (M:Out→ae→Prop) (hg:aS R g=true) (hf:x.ev R=.fn f cs) (h1:W E (.call f (as.map (X.ev R)++cs)) H M)
   (hs:∀v H',M (.val v) H'→gb R H' s) (h2:∀v H',M (.val v) H'→W E (.ops l (aR R d v)) H' Q):W E (.ops (⟨d,.aX x as,g,s⟩ :: l) R) H Q
 | wE {d neg c x y s l R H Q} (hs:s=[]) (h:∀b:Bool,W E (.ops l (aR R d (.bool b))) H Q) (hx:x.ev R=.sl .arg []) (hy:y.ev R=.sl .nil []) (hc:c=.slice) :
   W E (.ops (⟨d,.b (.my neg c x y),none,s⟩ :: l) R) H Q
 | lz {d x b as g s l R H Q n R0 ps bV body} (M1 M:Out→ae→Prop) (hg:aS R g=true) (hf:x.ev R=.lz b) (hb:H[b]?=some (.loop .ready none n R0 ps bV body)) (hn:as.length=ps.length)
   (h1:W E (.code bV (iC R0 ps (as.map (X.ev R)))) H M1) (xU:∀o H',M1 o H'→(∃R1,o=.ex .normal R1)∧H'[b]?=some (.loop .ready none n R0 ps bV body))
   (h2:∀R1 H1,M1 (.ex .normal R1) H1→W E (.code body R1) (H1.set b (.loop .busy none n R0 ps bV body)) M) (xV:∀o H',M o H'→H'[b]?=some (.loop .busy none n R0 ps bV body))
   (Bx:∀R' H',M (.ex .normal R') H'→gb R (H'.set b (.loop .ready none n R0 ps bV body)) s)
   (h3:∀R' H',M (.ex .normal R') H'→W E (.ops l (aR R d (.bool true))) (H'.set b (.loop .ready none n R0 ps bV body)) Q)
   (D4:∀e R' H',M (.ex e R') H'→e≠.normal→gb R (H'.set b (.loop .done (some e) n R0 ps bV body)) s)
   (h4:∀e R' H',M (.ex e R') H'→e≠.normal→W E (.ops l (aR R d (.bool false))) (H'.set b (.loop .done (some e) n R0 ps bV body)) Q):W E (.ops (⟨d,.aX x as,g,s⟩ :: l) R) H Q
 | cj {n x ps bV body R H Q f cs} (M:Out→ae→Prop) (hx:x.ev R=.fn f cs) (h1:W E (.call f (.lz (H.length+1) :: cs)) (H++[.wy,.loop .ready none n R ps bV body]) M)
   (h2:∀v H',M (.val v) H'→∃st dP,st≠.busy∧dP≠some .normal∧H'[H.length+1]?=some (.loop st dP n R ps bV body)∧Q (.ex (ye dP) (iq R n (kx (R n) H.length))) (H'.set (H.length+1) .dead)) :
   W E (.code (.cj n x ps bV body) R) H Q
 | Ix {f as H Q fn} (M:Out→ae→Prop) (hf:E.fn f=some fn) (hn:as.length=fn.np) (h1:W E (.code fn.body (fA as)) H M)
   (h2:∀o H',M o H'→∃R' bs,(o=.ex .normal R'∨o=.ex .ret R')∧marks (R' fn.n)=some bs∧bs.Nodup∧(∀b∈bs,H'[b]?=some .wy)∧∃v,mA R' (kill H' bs) fn.res=some v∧Q (.val v) (kill H' bs)):W E (.call f as) H Q
 | fn {f as H Q fn} (M:Out→ae→Prop) (hf:E.fn f=some fn) (hr:fn.body.jx=false) (hn:as.length=fn.np) (h1:W E (.code fn.body (fA as)) H M)
   (h2:∀o H',M o H'→∃R',(o=.ex .normal R'∨o=.ex .ret R')∧∃v,mA R' H' fn.res=some v∧Q (.val v) H'):W E (.call f as) H Q
 | wF {f as H Q b off len n} (i:Nat) (M:Out→ae→Prop) (hi:as[i]?=some (.aE b off len n)) (h1:∀c,len≤c→W E (.call f (as.set i (.cQ b off len n c))) H M) (h2:∀v H',M (.val v) H'→Q (.val (wz v)) H'):W E (.call f as) H Q
 | ng {f as H Q} (M:Out→ae→Prop) (h1:W E (.call f as) H M) (h2:∀o H',M o H'→∃v b cs,o=.val v∧uM b v∧H'[b]?=some (.cells cs)∧Q (.val (BQ b cs v)) (H'.set b .dead)):W E (.call f as) H Q
 | oE {d x g s l R H Q b bi es ix cur} (hg:aS R g=true) (hx:x.ev R=.ptr bi 0) (hb:H[b]?=some (.da es ix bi cur))
   (hs:∀t H',kz H b bi es ix t H'→gb R H' s) (h:∀t H',kz H b bi es ix t H'→W E (.ops l (aR R d t)) H' Q):W E (.ops (⟨d,.b (.oE x),g,s⟩ :: l) R) H Q
 | shr {f as H Q} (M:Out→ae→Prop) (h1:W E (.call f as) H M) (h2:∀o H',M o H'→∃v b cs k,o=.val v∧uM b v∧H'[b]?=some (.cells cs)∧Q (.val v) (H'.set b (.cells (cs.take k)))):W E (.call f as) H Q
 | yf {f as H Q b off len n cs} (i:Nat) (hi:as[i]?=some (.aE b off len n)) (hb:H[b]?=some (.cells cs)) (h:W E (.call f (as.map (BQ b cs))) (H.set b .dead) Q):W E (.call f as) H Q
 | Jk {f as H Q b cs} (hk:Se H as b) (hb:H[b]?=some (.cells cs)) (h:W E (.call f as) (H.set b (.fz cs)) Q):W E (.call f as) H Q
 | vw {f as Bz H Q} (hl:Bz.length=as.length) (hv:∀(i:Nat) (t t':T),as[i]?=some t→Bz[i]?=some t'→Vw H t t') (h:W E (.call f Bz) H Q):W E (.call f as) H Q
 | Iy {d n bytes y g s l R H Q b len cs v H' t} (hg:aS R g=true) (ht:R t=.aE b 0 len n) (hb:H[b]?=some (.cells cs)) (hlen:len*n=cs.length) (h0:0<len)
   (he:ai (iq R t (.sl (.own H.length len) (fB cs 0 len n))) (H.set b (.fz cs)++[.tok len]) (.app n bytes false (.r t) y)=some (v,H')) (hs:gb R H' s) (h:W E (.ops l (aR R d v)) H' Q):W E (.ops (⟨d,.b (.app n bytes false (.r t) y),g,s⟩ :: l) R) H Q
 | lA {f as H Q} (h:E.lA f as H fun v H'=>Q (.val v) H'):W E (.call f as) H Q
inductive Ow where
 | free|gI|mut (b:Nat)|spare (t:Nat)
 deriving DecidableEq
structure Ctx where
 φ:Nat→Option (Nat×Nat×Nat)
 κ:Nat→Nat→Ow
 π:Nat→Nat→Option (Nat×Nat×Nat)
 ck:Nat→C→Code→Prop
def tt (g:Ctx)(w:World)(r o:Nat)(v:Value):Prop:=g.κ r o=.gI∧w.cell? ⟨r,o,none⟩=some v
def jh (g:Ctx)(k:SK)(r o len cap n:Nat):Prop :=
 match k with
 | .nil=>False
 | .arg=>True
 | .full=>cap=len
 | .own t e=>g.π t e=some (r,o+len*n,o+cap*n)∧0<len
inductive VR (g:Ctx)(w:World):T→Value→Prop
 | int (k n):VR g w (.int k n) (.int k n)
 | bool (b):VR g w (.bool b) (.bool b)
 | str (s):VR g w (.str s) (.string s)
 | fb:VR g w .fb (.pointer none)
 | ptr {b off r o q} (h:g.φ b=some (r,o,q)):VR g w (.ptr b off) (.pointer (some ⟨r,o+off,none⟩))
 | cy {cs r o} (b6:Nat→Value) (h1:∀(j:Nat) (t:T),cs[j]?=some t→t.one=true∧tt g w r (o+j) (b6 j)) (h2:∀(j:Nat) (t:T),cs[j]?=some t→VR g w t (b6 j)) :
   VR g w (.cy cs) (.pointer (some ⟨r,o,none⟩))
 | fc:VR g w .fc (.map none)
 | map {b r o q} (h:g.φ b=some (r,o,q)):VR g w (.map b) (.map (some r))
 | slnil:VR g w (.sl .nil []) (.slice none 0 0)
 | fT (a:Option Addr):VR g w (.sl .arg []) (.slice a 0 0)
 | sl {k es r o cap n} (b6:Nat→Nat→Value) (hk:jh g k r o es.length cap n) (hc:es.length≤cap) (hn:∀c∈es,c.length=n)
   (h1:∀(i j:Nat) (c:List T) (t:T),es[i]?=some c→c[j]?=some t→t.one=true∧tt g w r (o+i*n+j) (b6 i j))
   (h2:∀(i j:Nat) (c:List T) (t:T),es[i]?=some c→c[j]?=some t→VR g w t (b6 i j)) :
   VR g w (.sl k es) (.slice (some ⟨r,o,none⟩) es.length cap)
 | aE {b off len n r o q cap} (h:g.φ b=some (r,o,q)) (hc:len≤cap) (hq:o+off+cap*n=q):VR g w (.aE b off len n) (.slice (some ⟨r,o+off,none⟩) len cap)
 | cQ {b off len n r o q c} (h:g.φ b=some (r,o,q)) (hc:len≤c) (hq:o+off+c*n=q):VR g w (.cQ b off len n c) (.slice (some ⟨r,o+off,none⟩) len c)
 | kr:VR g w .kr .nilFunc
 | fn {f iB vs} (hl:vs.size=iB.length) (h:∀(i:Nat) (t:T) (v:Value),iB[i]?=some t→vs[i]?=some v→VR g w t v):VR g w (.fn f iB) (.func (.func f) #[] vs)
 | lz {b r o q} (h:g.φ b=some (r,o,q)):VR g w (.lz b) (.func (.yield r) #[] #[])
 | eJ:VR g w .eJ .nilIface
 | agg {cs vs} (hl:vs.size=cs.length) (h1:∀t∈cs,t.one=true) (h2:∀(i:Nat) (t:T) (v:Value),cs[i]?=some t→vs[i]?=some v→VR g w t v):VR g w (.agg cs) (.agg vs)
 | bE {cs vs} (hl:vs.size=cs.length) (h2:∀(i:Nat) (t:T) (v:Value),cs[i]?=some t→vs[i]?=some v→VR g w t v):VR g w (.bE cs) (.tuple vs)
structure Le (g:Ctx)(w:World)(g':Ctx)(w':World):Prop where
 φ:∀b x,g.φ b=some x→g'.φ b=some x
 κ:∀r o,g.κ r o=.gI→g'.κ r o=.gI
 π:∀t e x,g.π t e=some x→g'.π t e=some x
 cell:∀r o v,g.κ r o=.gI→w.cell? ⟨r,o,none⟩=some v→w'.cell? ⟨r,o,none⟩=some v
 ck:g'.ck=g.ck
theorem Le.refl (g:Ctx)(w:World):Le g w g w:=⟨fun _ _ h=>h,fun _ _ h=>h,fun _ _ _ h=>h,fun _ _ _ _ h=>h,rfl⟩
theorem Le.trans {g g' Jl:Ctx}{w w' Jm:World}(h:Le g w g' w')(h':Le g' w' Jl Jm):Le g w Jl Jm :=
 ⟨fun b x e=>h'.φ b x (h.φ b x e),fun r o e=>h'.κ r o (h.κ r o e),fun t e x k=>h'.π t e x (h.π t e x k),fun r o v k e=>h'.cell r o v (h.κ r o k) (h.cell r o v k e),h'.ck.trans h.ck⟩
theorem tt.mono {g g':Ctx}{w w':World}(le:Le g w g' w'){r o:Nat}{v:Value}(h:tt g w r o v):tt g' w' r o v:=⟨le.κ _ _ h.1,le.cell _ _ _ h.1 h.2⟩
theorem jh.mono {g g':Ctx}{w w':World}(le:Le g w g' w'){k:SK}{r o len cap n:Nat}(h:jh g k r o len cap n):jh g' k r o len cap n:=by
 cases k with
 | nil=>exact h
 | arg=>exact h
 | full=>exact h
 | own t e=>exact⟨le.π _ _ _ h.1,h.2⟩
theorem VR.mono {g g':Ctx}{w w':World}(le:Le g w g' w'){t:T}{v:Value}(h:VR g w t v):VR g' w' t v:=by
 induction h with
 | int k n=>exact .int k n
 | bool b=>exact .bool b
 | str s=>exact .str s
 | fb=>exact .fb
 | ptr h=>exact .ptr (le.φ _ _ h)
 | cy b6 h1 _ ih=>exact .cy b6 (fun j t e=>⟨(h1 j t e).1,(h1 j t e).2.mono le⟩) ih
 | fc=>exact .fc
 | map h=>exact .map (le.φ _ _ h)
 | slnil=>exact .slnil
 | fT a=>exact .fT a
 | sl b6 hk hc hn h1 _ ih=>exact .sl b6 (hk.mono le) hc hn (fun i j c t a b=>⟨(h1 i j c t a b).1,(h1 i j c t a b).2.mono le⟩) ih
 | aE h hc hq=>exact .aE (le.φ _ _ h) hc hq
 | cQ h hc hq=>exact .cQ (le.φ _ _ h) hc hq
 | kr=>exact .kr
 | fn hl _ ih=>exact .fn hl ih
 | lz h=>exact .lz (le.φ _ _ h)
 | eJ=>exact .eJ
 | agg hl h1 _ ih=>exact .agg hl h1 ih
 | bE hl _ ih=>exact .bE hl ih
theorem VR.erase {g:Ctx}{w:World}{t:T}{v:Value}(h:VR g w t v):VR g w t.erase v:=by
 cases h with
 | sl b6 hk hc hn h1 h2=>exact .sl b6 trivial hc hn h1 h2
 | slnil=>exact .fT none
 | fT a=>exact .fT a
 | int k n=>exact .int k n
 | bool b=>exact .bool b
 | str s=>exact .str s
 | fb=>exact .fb
 | ptr h=>exact .ptr h
 | cy b6 h1 h2=>exact .cy b6 h1 h2
 | fc=>exact .fc
 | map h=>exact .map h
 | aE h hc hq=>exact .aE h hc hq
 | cQ h hc hq=>exact .cQ h hc hq
 | kr=>exact .kr
 | fn hl h=>exact .fn hl h
 | lz h=>exact .lz h
 | eJ=>exact .eJ
 | agg hl h1 h2=>exact .agg hl h1 h2
 | bE hl h2=>exact .bE hl h2
theorem wG (t:T):t.erase.one=t.one:=by cases t<;>rfl
theorem VR.fU {g:Ctx}{w:World}{t:T}{v:Value}(h:VR g w t v)(ho:t.one=true):v.oneCell'=true:=by
 cases h<;>simp_all [T.one,Value.oneCell']
def mL (g:Ctx)(w:World)(b:Nat)(cs:List T)(r o q:Nat):Prop :=
 o+cs.length≤q∧(∀j,o≤j→j<q→g.κ r j=.mut b∧w.frozen? ⟨r,j,none⟩=false∧(w.cell? ⟨r,j,none⟩).isSome=true) ∧
 ∀(i:Nat) (t:T),cs[i]?=some t→t.one=true∧∃v,w.cell? ⟨r,o+i,none⟩=some v∧VR g w t v
def BR (g:Ctx)(w:World)(cs:List T)(r o q:Nat):Prop :=
 o+cs.length≤q∧∀(i:Nat) (t:T),cs[i]?=some t→t.one=true∧∃v,tt g w r (o+i) v∧VR g w t v
def cR (g:Ctx)(w:World)(es:List (T×T))(al:Array MapEntry):Prop :=
 al.size=es.length∧∀(i:Nat) (e:T×T) (m:MapEntry),es[i]?=some e→al[i]?=some m→VR g w e.1 m.key∧VR g w e.2 m.val
def dG (al:Array MapEntry)(clock:Nat):Prop:=(∀m∈al.toList,m.born<clock)∧(al.toList.map (·.born)).Nodup
def BS (al:Array MapEntry)(seen:Array Nat)(ix:List Nat)(cur:Option Nat):Prop :=
 ix.Nodup∧(∀i,i∈ix↔∃m,al[i]?=some m∧m.born∉seen)∧∀c,cur=some c→∃m,al[c]?=some m∧seen.back?=some m.born
def Jn (g:Ctx)(w:World)(t e:Nat):Prop :=
 ∃r p q,g.π t e=some (r,p,q)∧p≤q∧(∀j,p≤j→j<q→g.κ r j=.spare t∧w.frozen? ⟨r,j,none⟩=false∧(w.cell? ⟨r,j,none⟩).isSome=true)∧∀e',e<e'→g.π t e'=none
def E6.real:E6→LoopState
 | .ready=>.ready
 | .busy=>.busy
 | .done=>.done
def ry:Option Ex→Option Code
 | some .ret=>some .ret
 | some (.exit id)=>some (.exit id)
 | _=>none
def qd (g:Ctx)(w:World)(st:E6)(dP:Option Ex)(n:Nat)(R:Nat→T)(ps:List Nat)(bV body:C)(rec:Loop):Prop :=
 rec.state=st.real∧rec.pending=ry dP∧rec.params.toList=ps∧rec.tmps.size=n∧(∀t,t<n→VR g w (R t) (rec.tmps.getD t undef))∧(∀p∈ps,p<n)∧g.ck n bV rec.assign∧g.ck n body rec.body
def uN (g:Ctx)(w:World)(b:Nat):B→Prop
 | .cells cs=>∀r o q,g.φ b=some (r,o,q)→mL g w b cs r o q
 | .map es=>∀r o q,g.φ b=some (r,o,q)→g.κ r 0=.mut b∧∃al clock,w.heap[r]?=some (.map al clock)∧cR g w es al∧dG al clock
 | .tok e=>Jn g w b e
 | .loop st dP n R ps bV body=>∀r o q,g.φ b=some (r,o,q)→g.κ r 0=.mut b∧∃rec,w.heap[r]?=some (.loop rec)∧qd g w st dP n R ps bV body rec
 | .wy=>∀r o q,g.φ b=some (r,o,q)→g.κ r 0=.mut b∧w.heap[r]?=some (.deferred (some []))
 | .dead=>True
 | .da es ix bi cur=>∃r o q,g.φ b=some (r,o,q)∧g.κ r 0=.mut b∧∃al clock,w.heap[r]?=some (.map al clock)∧cR g w es al∧dG al clock ∧
   ∃ri q' seen,g.φ bi=some (ri,0,q')∧g.κ ri 0=.mut b∧w.heap[ri]?=some (.mapIter (some r) clock seen clock)∧BS al seen ix cur
 | .uL _=>True
 | .fz cs=>∀r o q,g.φ b=some (r,o,q)→BR g w cs r o q
structure SR (w0:World)(g:Ctx)(H:ae)(w:World):Prop where
 size:w0.heap.size≤w.heap.size
 gM:∀r,r<w0.heap.size→w.heap[r]?=w0.heap[r]?
 wH:∀r o,r<w0.heap.size→g.κ r o=.gI
 fresh:∀r o,w.heap.size≤r→g.κ r o=.free
 ni:∀b x,g.φ b=some x→b<H.length
 fe:∀t e x,g.π t e=some x→t<H.length
 cu:∀b x,H[b]?=some x→uN g w b x
 ng:∀r j,w0.heap.size≤r→w.frozen? ⟨r,j,none⟩=false
 env:w.os=w0.os∧w.output=w0.output
def dH:Obj→Bool
 | .map _ _ | .loop _ | .deferred _ | .mapIter _ _ _ _=>true
 | _=>false
structure Tr (w w':World)(S:Nat→Nat→Prop)(M:Nat→Prop):Prop where
 size:w.heap.size≤w'.heap.size
 cell:∀r j,r<w.heap.size→¬S r j→w'.cell? ⟨r,j,none⟩=w.cell? ⟨r,j,none⟩
 ng:∀r j,r<w.heap.size→w'.frozen? ⟨r,j,none⟩=w.frozen? ⟨r,j,none⟩
 cP:∀r j,r<w.heap.size→(w.cell? ⟨r,j,none⟩).isSome=true→(w'.cell? ⟨r,j,none⟩).isSome=true
 maps:∀r x,¬M r→dH x=true→w.heap[r]?=some x→w'.heap[r]?=some x
 gM:∀r,r<w.heap.size→¬M r→(∀j,¬S r j)→w'.heap[r]?=w.heap[r]?
 tu:∀r j,w.heap.size≤r→w'.frozen? ⟨r,j,none⟩=false
 env:w'.os=w.os∧w'.output=w.output
theorem bR {w:World}{r j:Nat}(h:w.heap.size≤r):w.frozen? ⟨r,j,none⟩=false:=by
 unfold World.frozen?
 rw[Array.getElem?_eq_none h]
theorem gN {w:World}{r j:Nat}{v:Value}(h:w.cell? ⟨r,j,none⟩=some v):r<w.heap.size:=by
 unfold World.cell? at h
 cases hr:w.heap[r]? with
 | none=>simp[hr]at h
 | some x=>exact(Array.getElem?_eq_some_iff.1 hr).1
theorem mL.mono {g g':Ctx}{w w':World}{b:Nat}{cs:List T}{r o q:Nat}(h:mL g w b cs r o q)(le:Le g w g' w')
  (hκ:∀j,o≤j→j<q→g'.κ r j=.mut b) (hf:∀j,o≤j→j<q→w'.frozen? ⟨r,j,none⟩=w.frozen? ⟨r,j,none⟩∧w'.cell? ⟨r,j,none⟩=w.cell? ⟨r,j,none⟩):mL g' w' b cs r o q:=by
 obtain⟨h1,h2,h3⟩:=h
 refine⟨h1,fun j hj hq=>⟨hκ j hj hq,by rw[(hf j hj hq).1];exact(h2 j hj hq).2.1,by rw[(hf j hj hq).2];exact(h2 j hj hq).2.2⟩,fun i t hi=>?_⟩
 have au:i<cs.length:=(List.getElem?_eq_some_iff.1 hi).1
 obtain⟨h4,v,h5,h6⟩:=h3 i t hi
 exact⟨h4,v,by rw[(hf (o+i) (by omega) (by omega)).2];exact h5,h6.mono le⟩
theorem BR.mono {g g':Ctx}{w w':World}{cs:List T}{r o q:Nat}(h:BR g w cs r o q)(le:Le g w g' w'):BR g' w' cs r o q :=
 ⟨h.1,fun i t hi=>let ⟨a,v,b,c⟩:=h.2 i t hi;⟨a,v,b.mono le,c.mono le⟩⟩
theorem cR.mono {g g':Ctx}{w w':World}{es:List (T×T)}{al:Array MapEntry}(h:cR g w es al)(le:Le g w g' w'):cR g' w' es al :=
 ⟨h.1,fun i e m a b=>⟨(h.2 i e m a b).1.mono le,(h.2 i e m a b).2.mono le⟩⟩
theorem qd.mono {g g':Ctx}{w w':World}{st:E6}{dP:Option Ex}{n:Nat}{R:Nat→T}{ps:List Nat}{bV body:C}{rec:Loop}(h:qd g w st dP n R ps bV body rec)(le:Le g w g' w'):qd g' w' st dP n R ps bV body rec:=by
 obtain⟨h1,h2,h3,h4,h5,h6,h7,h8⟩:=h
 exact⟨h1,h2,h3,h4,fun t ht=>(h5 t ht).mono le,h6,by rw[le.ck];exact h7,by rw[le.ck];exact h8⟩
theorem SR.step {w0 w w':World}{g g':Ctx}{H H':ae}(h:SR w0 g H w)(E9:Nat→Prop){S:Nat→Nat→Prop}{M:Nat→Prop}(tr:Tr w w' S M)(le:Le g w g' w')
  (hS:∀r j,S r j→g.κ r j=.free∨(∃b,g.κ r j=.mut b∧E9 b)∨∃b,g.κ r j=.spare b∧E9 b) (hM:∀r,M r→∃b,g.κ r 0=.mut b∧E9 b)
  (Fa:∀r o,w'.heap.size≤r→g'.κ r o=.free) (M5:∀b x,g'.φ b=some x→b<H'.length) (Jo:∀t e x,g'.π t e=some x→t<H'.length)
  (kφ:∀b,b<H.length→¬E9 b→g'.φ b=g.φ b) (kκ:∀r j b,¬E9 b→(g.κ r j=.mut b→g'.κ r j=.mut b)∧(g.κ r j=.spare b→g'.κ r j=.spare b))
  (kπ:∀t e,t<H.length→¬E9 t→g'.π t e=g.π t e)
  (hb:∀b x,H'[b]?=some x→(¬E9 b∧H[b]?=some x)∨uN g' w' b x):SR w0 g' H' w':=by
 have nS:∀r j,r<w0.heap.size→¬S r j:=by
  intro r j hr hs
  have:=h.wH r j hr
  rcases hS r j hs with e|⟨b,e,_⟩|⟨b,e,_⟩<;>simp[this]at e
 have nM:∀r,r<w0.heap.size→¬M r:=by
  intro r hr hm
  have:=h.wH r 0 hr
  obtain⟨b,e,_⟩:=hM r hm
  simp[this]at e
 refine⟨Nat.le_trans h.size tr.size,fun r hr=>?_,fun r o hr=>le.κ _ _ (h.wH r o hr),Fa,M5,Jo,fun b x hx=>?_,fun r j hr=>(by
  by_cases hw:r<w.heap.size
  ·rw[tr.ng r j hw];exact h.ng r j hr
  ·exact tr.tu r j (by omega)),tr.env.1.trans h.env.1,tr.env.2.trans h.env.2⟩
 ·rw[tr.gM r (Nat.lt_of_lt_of_le hr h.size) (nM r hr) (fun j=>nS r j hr)]
  exact h.gM r hr
 ·rcases hb b x hx with⟨nt,D6⟩|kC
  ·have au:b<H.length:=(List.getElem?_eq_some_iff.1 D6).1
   have hk:=h.cu b x D6
   have QJ:∀r j,g.κ r j=.mut b∨g.κ r j=.spare b→¬S r j:=by
    intro r j hm hs
    rcases hS r j hs with e|⟨b',e,ht⟩|⟨b',e,ht⟩<;>rcases hm with hm|hm<;>simp[hm]at e
    ·exact nt (e▸ht)
    ·exact nt (e▸ht)
   cases x with
   | cells cs =>
    intro r o q hφ
    have iw:g.φ b=some (r,o,q):=by rw[←kφ b au nt];exact hφ
    have hc:=hk r o q iw
    refine hc.mono le (fun j a c=>(kκ r j b nt).1 (hc.2.1 j a c).1) fun j a c=>?_
    have hh:=hc.2.1 j a c
    have hr:r<w.heap.size:=by
     cases hv:w.cell? ⟨r,j,none⟩with
     | none=>simp[hv]at hh
     | some v=>exact gN hv
    exact⟨tr.ng r j hr,tr.cell r j hr (QJ r j (.inl hh.1))⟩
   | map es =>
    intro r o q hφ
    have iw:g.φ b=some (r,o,q):=by rw[←kφ b au nt];exact hφ
    obtain⟨h1,al,c,h2,h3⟩:=hk r o q iw
    refine⟨(kκ r 0 b nt).1 h1,al,c,tr.maps r _ (fun hm=>?_) rfl h2,h3.1.mono le,h3.2⟩
    obtain⟨b',e,ht⟩:=hM r hm
    rw[h1]at e;cases e;exact nt ht
   | da es ix bi cur =>
    obtain⟨r,o,q,hφ,h1,al,c,h2,h3,h4,ri,q',seen,h5,h6,h7,h8⟩:=hk
    refine⟨r,o,q,le.φ _ _ hφ,(kκ r 0 b nt).1 h1,al,c,tr.maps r _ (fun hm=>?_) rfl h2,h3.mono le,h4,ri,q',seen,le.φ _ _ h5,(kκ ri 0 b nt).1 h6,tr.maps ri _ (fun hm=>?_) rfl h7,h8⟩
    ·obtain⟨b',e,ht⟩:=hM r hm
     rw[h1]at e;cases e;exact nt ht
    ·obtain⟨b',e,ht⟩:=hM ri hm
     rw[h6]at e;cases e;exact nt ht
   | uL _=>trivial
   | fz cs =>
    intro r o q hφ
    exact(hk r o q (by rw[←kφ b au nt];exact hφ)).mono le
   | tok e =>
    obtain⟨r,p,q,h1,h2,h3,h4⟩:=hk
    refine⟨r,p,q,le.π _ _ _ h1,h2,fun j a c=>?_,fun e' he=>by rw[kπ b e' au nt];exact h4 e' he⟩
    have hh:=h3 j a c
    have hr:r<w.heap.size:=by
     cases hv:w.cell? ⟨r,j,none⟩with
     | none=>simp[hv]at hh
     | some v=>exact gN hv
    exact⟨(kκ r j b nt).2 hh.1,by rw[tr.ng r j hr];exact hh.2.1,by rw[tr.cell r j hr (QJ r j (.inr hh.1))];exact hh.2.2⟩
   | loop st dP n R ps bV body =>
    intro r o q hφ
    have iw:g.φ b=some (r,o,q):=by rw[←kφ b au nt];exact hφ
    obtain⟨h1,rec,h2,h3⟩:=hk r o q iw
    refine⟨(kκ r 0 b nt).1 h1,rec,tr.maps r _ (fun hm=>?_) rfl h2,h3.mono le⟩
    obtain⟨b',e,ht⟩:=hM r hm
    rw[h1]at e;cases e;exact nt ht
   | wy =>
    intro r o q hφ
    have iw:g.φ b=some (r,o,q):=by rw[←kφ b au nt];exact hφ
    obtain⟨h1,h2⟩:=hk r o q iw
    refine⟨(kκ r 0 b nt).1 h1,tr.maps r _ (fun hm=>?_) rfl h2⟩
    obtain⟨b',e,ht⟩:=hM r hm
    rw[h1]at e;cases e;exact nt ht
   | dead=>trivial
  ·exact kC
def Fr (g:Ctx)(H:ae)(g':Ctx)(H':ae):Prop :=
 H.length≤H'.length∧∀b x,H[b]?=some x→(∀e,x≠.tok e)→g.φ b=none→H'[b]?=some x∧g'.φ b=none
theorem Fr.refl (g:Ctx)(H:ae):Fr g H g H:=⟨Nat.le_refl _,fun _ _ h _ k=>⟨h,k⟩⟩
theorem Fr.trans {g g' Jl:Ctx}{H H' uO:ae}(h:Fr g H g' H')(h':Fr g' H' Jl uO):Fr g H Jl uO :=
 ⟨Nat.le_trans h.1 h'.1,fun b x a c d=>let ⟨e,f⟩:=h.2 b x a c d;h'.2 b x e c f⟩
def br (P:Program)(w0:World)(g:Ctx)(H:ae)(w:World)(s:Sem Value)(t:T)(H':ae):Prop :=
 ∃v w' g',s.run P w=.ok v w'∧Le g w g' w'∧SR w0 g' H' w'∧VR g' w' t v∧Fr g H g' H'
theorem br.same {P:Program}{w0:World}{g:Ctx}{H:ae}{w:World}{s:Sem Value}{t:T}{v:Value}(h:SR w0 g H w)(hr:s.run P w=.ok v w)(hv:VR g w t v):br P w0 g H w s t H :=
 ⟨v,w,g,hr,.refl _ _,h,hv,.refl _ _⟩
def aW (g:Ctx)(w:World)(ts:List T)(vs:List Value):Prop:=ts.length=vs.length∧∀(i:Nat) (t:T) (v:Value),ts[i]?=some t→vs[i]?=some v→VR g w t v
theorem aW.mono {g g':Ctx}{w w':World}(le:Le g w g' w'){ts:List T}{vs:List Value}(h:aW g w ts vs):aW g' w' ts vs:=⟨h.1,fun i t v a b=>(h.2 i t v a b).mono le⟩
theorem aW.nil {g:Ctx}{w:World}:aW g w [] []:=⟨rfl,fun i t v h=>by simp at h⟩
theorem aW.cons {g:Ctx}{w:World}{t:T}{v:Value}{ts:List T}{vs:List Value}(h:VR g w t v)(hs:aW g w ts vs):aW g w (t :: ts) (v :: vs) :=
 ⟨by simp[hs.1],fun i a b ha hb=>by
  cases i with
  | zero=>simp at ha hb;subst ha;subst hb;exact h
  | succ i=>exact hs.2 i a b (by simpa using ha) (by simpa using hb)⟩
theorem aW.head {g:Ctx}{w:World}{t:T}{v:Value}{ts:List T}{vs:List Value}(h:aW g w (t :: ts) (v :: vs)):VR g w t v:=h.2 0 t v rfl rfl
theorem aW.tail {g:Ctx}{w:World}{t:T}{v:Value}{ts:List T}{vs:List Value}(h:aW g w (t :: ts) (v :: vs)):aW g w ts vs :=
 ⟨by have:=h.1;simpa using this,fun i a b ha hb=>h.2 (i+1) a b (by simpa using ha) (by simpa using hb)⟩
theorem aW.append {g:Ctx}{w:World}{ts Fb:List T}{vs Iz:List Value}(h:aW g w ts vs)(h':aW g w Fb Iz):aW g w (ts++Fb) (vs++Iz):=by
 refine⟨by simp[h.1,h'.1],fun i t v ha hb=>?_⟩
 rw[List.getElem?_append]at ha hb
 rw[←h.1]at hb
 split at ha
 ·rename_i hi;rw[if_pos hi]at hb;exact h.2 i t v ha hb
 ·rename_i hi;rw[if_neg hi]at hb;exact h'.2 _ t v ha hb
theorem aW.take {g:Ctx}{w:World}{ts:List T}{vs:List Value}(n:Nat)(h:aW g w ts vs):aW g w (ts.take n) (vs.take n) :=
 ⟨by simp[h.1],fun i t v ha hb=>by
  rw[List.getElem?_take]at ha hb
  split at ha
  ·rename_i hi;rw[if_pos hi]at hb;exact h.2 i t v ha hb
  ·simp at ha⟩
theorem aW.drop {g:Ctx}{w:World}{ts:List T}{vs:List Value}(n:Nat)(h:aW g w ts vs):aW g w (ts.drop n) (vs.drop n) :=
 ⟨by simp[h.1],fun i t v ha hb=>by
  rw[List.getElem?_drop]at ha hb
  exact h.2 _ t v ha hb⟩
def bL (cs:List T):Prop:=∀t∈cs,t.one=true
theorem aW.fU {g:Ctx}{w:World}{ts:List T}{vs:List Value}(h:aW g w ts vs)(ho:bL ts):∀v∈vs,v.oneCell'=true:=by
 intro v hv
 obtain⟨i,hi,rfl⟩:=List.getElem_of_mem hv
 have jy:i<ts.length:=by rw[h.1];exact hi
 exact(h.2 i ts[i] vs[i] (List.getElem?_eq_getElem jy) (List.getElem?_eq_getElem hi)).fU (ho _ (List.getElem_mem jy))
theorem b7 (r o j:Nat):(⟨r,o,none⟩:Addr).add j=⟨r,o+j,none⟩:=by
 unfold Addr.add;split<;>simp_all
theorem nj {w:World}{r o:Nat}:∀(n:Nat) (f:Nat→Value),(∀j,j<n→w.cell? ⟨r,o+j,none⟩=some (f j))→∀(j:Nat) (v:Value),((List.range n).map f)[j]?=some v→w.cell? ⟨r,o+j,none⟩=some v:=by
 intro n f h j v hv
 have hj:j<n:=by
  have:=(List.getElem?_eq_some_iff.1 hv).1
  simpa using this
 rw[h j hj]
 simp[hj]at hv
 rw[hv]
theorem jU {w0 w:World}{g:Ctx}{H:ae}{n:Nat}{p:T}{vp:Value}{cs:List T}(h:SR w0 g H w)(hv:VR g w p vp)(he:ku H n p=some cs) :
  ∃r o vs,vp=.pointer (some ⟨r,o,none⟩)∧vs.length=n∧(∀(j:Nat) (v:Value),vs[j]?=some v→w.cell? ⟨r,o+j,none⟩=some v)∧aW g w cs vs∧bL cs:=by
 cases hv with
 | @ptr b off r o q hφ =>
  have main:∀te:List T,(∀(i:Nat) (t:T),te[i]?=some t→t.one=true∧∃v,w.cell? ⟨r,o+i,none⟩=some v∧VR g w t v)→(if off+n≤te.length then some ((te.drop off).take n)else none)=some cs →
    ∃r' o' vs,(Value.pointer (some ⟨r,o+off,none⟩))=.pointer (some ⟨r',o',none⟩)∧vs.length=n∧(∀(j:Nat) (v:Value),vs[j]?=some v→w.cell? ⟨r',o'+j,none⟩=some v)∧aW g w cs vs∧bL cs:=by
   intro te h3 he
   split at he
   ·rename_i hle
    simp at he
    subst he
    have key:∀j,j<n→∃t v,te[off+j]?=some t∧t.one=true∧w.cell? ⟨r,o+off+j,none⟩=some v∧VR g w t v:=by
     intro j hj
     have au:off+j<te.length:=by omega
     obtain⟨a,v,b',c⟩:=h3 (off+j) te[off+j] (List.getElem?_eq_getElem au)
     exact⟨_,v,List.getElem?_eq_getElem au,a,by rw[Nat.add_assoc];exact b',c⟩
    refine⟨r,o+off,(List.range n).map (fun j=>(w.cell? ⟨r,o+off+j,none⟩).getD undef),rfl,by simp,nj n _ (fun j hj=>?_),⟨by simp;omega,fun i t v ha fC=>?_⟩,fun t ht=>?_⟩
    ·obtain⟨t,v,_,_,e,_⟩:=key j hj
     simp[e]
    ·have hi:i<n:=by
      have:=(List.getElem?_eq_some_iff.1 fC).1
      simpa using this
     obtain⟨t',v',e1,e2,e3,e4⟩:=key i hi
     simp[hi]at fC
     rw[e3]at fC;simp at fC
     rw[List.getElem?_take,if_pos hi,List.getElem?_drop,e1]at ha
     simp at ha
     subst ha;subst fC;exact e4
    ·obtain⟨i,hi,rfl⟩:=List.getElem_of_mem ht
     simp at hi
     obtain⟨t',v',e1,e2,_,_⟩:=key i (by omega)
     have M6:=(List.getElem?_eq_some_iff.1 e1).2
     simp[M6,e2]
   ·simp at he
  simp only[ku]at he
  cases hb:H[b]? with
  | none=>simp[hb]at he
  | some x =>
   cases x with
   | cells te =>
    simp only[hb]at he
    exact main te (h.cu b _ hb r o q hφ).2.2 he
   | fz te =>
    simp only[hb]at he
    exact main te (fun i t hi=>let ⟨a,v,b',c⟩:=(h.cu b _ hb r o q hφ).2 i t hi;⟨a,v,b'.2,c⟩) he
   | map _=>simp[hb]at he
   | tok _=>simp[hb]at he
   | _=>simp[hb]at he
 | @cy te r o b6 h1 h2 =>
  simp only[ku]at he
  split at he
  ·rename_i hle
   simp at he
   subst he
   have get:∀i,i<n→∃t,te[i]?=some t:=fun i hi=>⟨te[i]'(by omega),List.getElem?_eq_getElem _⟩
   refine⟨r,o,(List.range n).map b6,rfl,by simp,nj n _ (fun j hj=>?_),⟨by simp;omega,fun i t v ha hb=>?_⟩,fun t ht=>?_⟩
   ·obtain⟨t,e⟩:=get j hj
    exact(h1 j t e).2.2
   ·have hi:i<n:=by
     have:=(List.getElem?_eq_some_iff.1 hb).1
     simpa using this
    simp[hi]at hb
    rw[List.getElem?_take,if_pos hi]at ha
    rw[←hb];exact h2 i t ha
   ·obtain⟨i,hi,rfl⟩:=List.getElem_of_mem ht
    simp at hi
    have:te[i]?=some te[i]:=List.getElem?_eq_getElem _
    simp
    exact(h1 i _ this).1
  ·simp at he
 | _=>simp[ku]at he
theorem aW.agg {g:Ctx}{w:World}{cs:List T}{vs:List Value}(h:aW g w cs vs)(ho:bL cs):VR g w (.agg cs) (.agg vs.toArray) :=
 .agg (by simp[h.1]) ho (fun i t v ha hb=>h.2 i t v ha (by simpa using hb))
theorem aW.bE {g:Ctx}{w:World}{cs:List T}{vs:List Value}(h:aW g w cs vs):VR g w (.bE cs) (.tuple vs.toArray) :=
 .bE (by simp[h.1]) (fun i t v ha hb=>h.2 i t v ha (by simpa using hb))
theorem VR.en {g:Ctx}{w:World}{cs:List T}{v:Value}(h:VR g w (.agg cs) v):∃vs:List Value,v=.agg vs.toArray∧aW g w cs vs∧bL cs:=by
 cases h with
 | @agg _ vs hl h1 h2=>exact⟨vs.toList,by simp,⟨by simp[hl],fun i t v ha hb=>h2 i t v ha (by simpa using hb)⟩,h1⟩
theorem VR.BT {g:Ctx}{w:World}{cs:List T}{v:Value}(h:VR g w (.bE cs) v):∃vs:List Value,v=.tuple vs.toArray∧aW g w cs vs:=by
 cases h with
 | @bE _ vs hl h2=>exact⟨vs.toList,by simp,⟨by simp[hl],fun i t v ha hb=>h2 i t v ha (by simpa using hb)⟩⟩
theorem gx {g:Ctx}{w:World}{t:T}{v:Value}{cs:List T}(h:VR g w t v)(hc:t.cells?=some cs):aW g w cs v.cells.toList∧bL cs:=by
 by_cases ha:∃c,t=.agg c
 ·obtain⟨c,rfl⟩:=ha
  simp[T.cells?]at hc;subst hc
  obtain⟨vs,rfl,h1,h2⟩:=h.en
  exact⟨by simpa[Value.cells]using h1,h2⟩
 ·by_cases ht:∃c,t=.bE c
  ·obtain⟨c,rfl⟩:=ht;simp[T.cells?]at hc
  ·have e:cs=[t]:=by cases t<;>simp_all [T.cells?]
   have o:t.one=true:=by cases t<;>simp_all [T.one]
   have ev:v.cells=#[v]:=by
    have:=h.fU o
    cases v<;>simp_all [Value.cells,Value.oneCell']
   subst e
   rw[ev]
   exact⟨aW.cons h aW.nil,by simpa[bL]using o⟩
theorem nk {g:Ctx}{w:World}{cs:List T}{vs:List Value}{ag:Bool}{t:T}(h:aW g w cs vs)(ho:bL cs)(hv:valOf ag cs=some t) :
  (ag=true→VR g w t (.agg vs.toArray))∧(ag=false→∃v,vs=[v]∧VR g w t v):=by
 cases ag with
 | true=>simp[valOf]at hv;subst hv;exact⟨fun _=>h.agg ho,by simp⟩
 | false =>
  refine⟨by simp,fun _=>?_⟩
  cases cs with
  | nil=>simp[valOf]at hv
  | cons c cs =>
   cases cs with
   | nil =>
    simp[valOf]at hv;subst hv
    cases vs with
    | nil=>have:=h.1;simp at this
    | cons v vs =>
     cases vs with
     | nil=>exact⟨v,rfl,h.head⟩
     | cons _ _=>have:=h.1;simp at this
   | cons _ _=>simp[valOf]at hv
theorem aO {P:Program}{w:World}{t:TypeId}{i:TypeInfo}(h:P.info? t=some i):(typeInfo t).run P w=.ok i w:=by
 simp[typeInfo,h]
def cS:TypeDesc→Bool
 | .struct _ | .array _ _=>true
 | _=>false
theorem dr {P:Program}{t:TypeId}{d:TypeDesc}(h:P.underlying t=some d)(w:World):(isAgg t).run P w=.ok (cS d) w:=by
 simp only[isAgg,Sem.run_bind,run_underlying h,Result.andThen_ok]
 cases d<;>rfl
theorem Fc {P:Program}{w0 w:World}{g:Ctx}{H:ae}{n:Nat}{ag:Bool}{p t:T}{vp:Value}{cs:List T}{ty:TypeId}{d:TypeDesc}{i:TypeInfo}
  (hd:P.underlying ty=some d) (hi:P.info? ty=some i) (qe:cS d=ag) (hn:ag=true→i.size=n)
  (h:SR w0 g H w) (hv:VR g w p vp) (he:ku H n p=some cs) (ht:valOf ag cs=some t):br P w0 g H w (Instr.loadAt ty vp) t H:=by
 obtain⟨r,o,vs,rfl,h1,h2,h3,h4⟩:=jU h hv he
 obtain⟨ha,hb⟩:=nk h3 h4 ht
 cases ag with
 | true =>
  refine br.same h (v:=.agg vs.toArray) ?_ (ha rfl)
  have:=run_loadCells_list (P:=P) w ⟨r,o,none⟩ vs (fun j v hj=>by rw[b7];exact h2 j v hj)
  simp[Instr.loadAt,Instr.sureAddr,loadVar,dr hd,qe,sizeOf,aO hi,hn rfl,←h1,this]
 | false =>
  obtain⟨v,rfl,dA⟩:=hb rfl
  refine br.same h (v:=v) ?_ dA
  have:=h2 0 v rfl
  simp at this
  simp[Instr.loadAt,Instr.sureAddr,loadVar,dr hd,qe,run_load,this]
theorem BU {P:Program}{w0 w:World}{g:Ctx}{H:ae}{n:Nat}{ag:Bool}{p t:T}{vp:Value}{cs:List T}{ty:TypeId}{d:TypeDesc}{i:TypeInfo}
  (hd:P.underlying ty=some d) (hi:P.info? ty=some i) (qe:cS d=ag) (hn:ag=true→i.size=n)
  (h:SR w0 g H w) (hv:VR g w p vp) (he:ku H n p=some cs) (ht:valOf ag cs=some t):∃v w' g',(Instr.loadAt ty vp).run P w=.ok v w'∧w'=w∧VR g' w t v∧g'=g:=by
 obtain⟨r,o,vs,rfl,h1,h2,h3,h4⟩:=jU h hv he
 obtain⟨ha,hb⟩:=nk h3 h4 ht
 cases ag with
 | true =>
  refine⟨.agg vs.toArray,w,g,?_,rfl,ha rfl,rfl⟩
  have:=run_loadCells_list (P:=P) w ⟨r,o,none⟩ vs (fun j v hj=>by rw[b7];exact h2 j v hj)
  simp[Instr.loadAt,Instr.sureAddr,loadVar,dr hd,qe,sizeOf,aO hi,hn rfl,←h1,this]
 | false =>
  obtain⟨v,rfl,dA⟩:=hb rfl
  refine⟨v,w,g,?_,rfl,dA,rfl⟩
  have:=h2 0 v rfl
  simp at this
  simp[Instr.loadAt,Instr.sureAddr,loadVar,dr hd,qe,run_load,this]
section
variable {P:Program} {w:World} {op:BinOp} {ty:TypeId} {x y:Operand}
theorem o8 {k k':IntKind}{a b:Int}:(eqGuard op ty x y (.int k a) (.int k' b)).run P w=.ok () w:=by cases op<;>rfl
theorem o9 {a b:ByteArray}:(eqGuard op ty x y (.string a) (.string b)).run P w=.ok () w:=by cases op<;>rfl
theorem gO {a b:Bool}:(eqGuard op ty x y (.bool a) (.bool b)).run P w=.ok () w:=by cases op<;>rfl
theorem wI {a b:Option Addr}:(eqGuard op ty x y (.pointer a) (.pointer b)).run P w=.ok () w:=by cases op<;>rfl
theorem rz {a b:Option Addr}{c d e f:Nat}:(eqGuard op ty x y (.slice a c d) (.slice b e f)).run P w=.ok () w:=by cases op<;>rfl
theorem wJ {a b:Option Nat}:(eqGuard op ty x y (.map a) (.map b)).run P w=.ok () w:=by cases op<;>rfl
theorem yg {f:Go.Fn}{a b:Array Value}:(eqGuard op ty x y (.func f a b) .nilFunc).run P w=.ok () w:=by cases op<;>rfl
theorem yh {f:Go.Fn}{a b:Array Value}:(eqGuard op ty x y .nilFunc (.func f a b)).run P w=.ok () w:=by cases op<;>rfl
theorem yj:(eqGuard op ty x y .nilFunc .nilFunc).run P w=.ok () w:=by cases op<;>rfl
end
section
variable {P:Program} {w:World} {ty:TypeId}
theorem pb (n:Nat)(h:P.underlying ty=some .bool)(a b:Bool):(Op.equalIn (n+1) ty (.bool a) (.bool b)).run P w=.ok (a==b) w:=by
 rw[Op.equalIn];simp only[Sem.run_bind,run_underlying h,Result.andThen_ok];rfl
theorem yk (n:Nat){k:IntKind}(h:P.underlying ty=some (.int k))(a b:Int)(k':IntKind):(Op.equalIn (n+1) ty (.int k' a) (.int k' b)).run P w=.ok (a==b) w:=by
 rw[Op.equalIn];simp only[Sem.run_bind,run_underlying h,Result.andThen_ok];simp
theorem yl (n:Nat)(h:P.underlying ty=some .string)(a b:ByteArray):(Op.equalIn (n+1) ty (.string a) (.string b)).run P w=.ok (a==b) w:=by
 rw[Op.equalIn];simp only[Sem.run_bind,run_underlying h,Result.andThen_ok];rfl
theorem eA {x y:Value}{b:Bool}(h:∀n,(Op.equalIn (n+1) ty x y).run P w=.ok b w):(Op.equal ty x y).run P w=.ok b w:=h 9999
theorem nq (h:P.underlying ty=some .bool)(a b:Bool):(Op.equal ty (.bool a) (.bool b)).run P w=.ok (a==b) w:=eA fun n=>pb n h a b
end
theorem BV {P:Program}{w0 w:World}{g:Ctx}{H:ae}{op:BinOp}{x y t:T}{vx vy:Value}{ty:TypeId}{ox oy:Operand}
  (h:SR w0 g H w) (hx:VR g w x vx) (hy:VR g w y vy) (he:bW op x y=some t):br P w0 g H w (do eqGuard op ty ox oy vx vy;binOp op ty vx vy) t H:=by
 cases hx<;>cases hy<;>(try (simp[bW]at he;done))
 case int.int k a k' b =>
  have key:∃v,(binOp op ty (.int k a) (.int k' b)).run P w=.ok v w∧VR g w t v:=by
   cases op<;>simp only[bW]at he<;>(repeat' (split at he))<;>(try (simp at he;done)) <;>
    (simp at he;subst he;first
     | (refine⟨_,?_,.int _ _⟩;simp_all [binOp,Op.shift,Op.intArith,Op.intDiv,Op.intBits,Op.intCmp];done)
     | (refine⟨_,?_,.int _ _⟩;rename_i hs;simp only[binOp,Op.shift,if_neg hs,Sem.run_pure];done)
     | (refine⟨_,?_,.bool _⟩;simp_all [binOp,Op.shift,Op.intArith,Op.intDiv,Op.intBits,Op.intCmp];done))
  obtain⟨v,hr,hv⟩:=key
  refine br.same h (v:=v) ?_ hv
  simp[o8,o9,gO,hr]
 case str.str a b =>
  have key:∃v,(binOp op ty (.string a) (.string b)).run P w=.ok v w∧VR g w t v:=by
   cases op<;>simp only[bW]at he<;>(repeat' (split at he))<;>(try (simp at he;done)) <;>
    (simp at he;subst he;first
     | (refine⟨_,?_,.str _⟩;rename_i hs;simp[binOp,Op.stringOp,IntKind.max,IntKind.signed,IntKind.bits];omega)
     | (refine⟨_,?_,.bool _⟩;simp[binOp,Op.stringOp,fS,strLt];done))
  obtain⟨v,hr,hv⟩:=key
  refine br.same h (v:=v) ?_ hv
  simp[o8,o9,gO,hr]
theorem BW {P:Program}{w0 w:World}{g:Ctx}{H:ae}{neg:Bool}{a b:Bool}{vx vy:Value}{ty:TypeId}{ox oy:Operand}(hu:P.underlying ty=some .bool)
  (h:SR w0 g H w) (hx:VR g w (.bool a) vx) (hy:VR g w (.bool b) vy) :
  br P w0 g H w (do eqGuard (if neg then .neq else .eql) ty ox oy vx vy;binOp (if neg then .neq else .eql) ty vx vy) (.bool (if neg then !(a==b)else a==b)) H:=by
 cases hx;cases hy
 cases neg
 ·refine br.same h (v:=.bool (a==b)) ?_ (.bool _)
  simp only[Bool.false_eq_true,if_false,Sem.run_bind,gO,Result.andThen_ok,binOp,nq hu,Sem.run_pure]
 ·refine br.same h (v:=.bool (!(a==b))) ?_ (.bool _)
  simp only[if_true,Sem.run_bind,gO,Result.andThen_ok,binOp,nq hu,Sem.run_pure]
def ym:BO→TypeDesc→Bool
 | .ptr,.pointer _ | .slice,.slice _ | .map,.map _ _ | .func,.func _ _ _=>true
 | _,_=>false
theorem rA {g:Ctx}{w:World}{c:BO}{x:T}{vx:Value}{b:Bool}(hx:VR g w x vx)(h:dS c x=some b) :
  match c with
  | .ptr=>∃a:Option Addr,vx=.pointer a∧a.isNone=b
  | .slice=>∃(a:Option Addr) (l p:Nat),vx=.slice a l p∧a.isNone=b
  | .map=>∃r:Option Nat,vx=.map r∧r.isNone=b
  | .func=>(b=true∧vx=.nilFunc)∨(b=false∧∃f vs,vx=.func f #[] vs):=by
 cases c<;>cases hx<;>first
  | (change (none:Option Bool)=some b at h;simp at h;done)
  | (change some true=some b at h;simp at h;subst h;simp;done)
  | (change some false=some b at h;simp at h;subst h;simp;done)
  | skip
 case slice.sl k es r o cap n b6 hk hc hn h1 h2 =>
  have hb:b=false:=by
   cases k
   ·exact hk.elim
   ·cases es with
    | nil=>change (none:Option Bool)=some b at h;simp at h
    | cons _ _=>change some false=some b at h;simpa using h.symm
   ·change some false=some b at h;simpa using h.symm
   ·change some false=some b at h;simpa using h.symm
  subst hb
  exact⟨_,_,_,rfl,rfl⟩
theorem BX {P:Program}{w0 w:World}{g:Ctx}{H:ae}{neg:Bool}{c:BO}{x y:T}{b:Bool}{vx vy:Value}{ty:TypeId}{ox oy:Operand}{d:TypeDesc}
  (hu:P.underlying ty=some d) (hc:ym c d=true)
  (h:SR w0 g H w) (hx:VR g w x vx) (hy:VR g w y vy) (he:eV c x y=some b) :
  br P w0 g H w (do eqGuard (if neg then .neq else .eql) ty ox oy vx vy;binOp (if neg then .neq else .eql) ty vx vy) (.bool (if neg then !b else b)) H:=by
 have key:(∀op,(eqGuard op ty ox oy vx vy).run P w=.ok () w)∧(Op.equal ty vx vy).run P w=.ok b w∧∀neg:Bool,(binOp (if neg then .neq else .eql) ty vx vy).run P w=((Op.equal ty vx vy).run P w).andThen fun b w'=>.ok (.bool (if neg then !b else b)) w':=by
  unfold eV at he
  cases Fe:dS c x with
  | none=>simp[Fe]at he
  | some bx =>
   cases QK:dS c y with
   | none=>cases bx<;>simp[Fe,QK]at he
   | some bY =>
    have e:b=(bx&&bY)∧(bx=true∨bY=true):=by
     cases bx<;>cases bY<;>simp_all
    obtain⟨rfl,Sf⟩:=e
    have h1:=rA hx Fe
    have h2:=rA hy QK
    cases c with
    | ptr =>
     obtain⟨a,rfl,rfl⟩:=h1
     obtain⟨a',rfl,rfl⟩:=h2
     cases d<;>simp[ym]at hc
     refine⟨fun op=>wI,eA fun n=>?_,fun neg=>by cases neg<;>simp[binOp]⟩
     rw[Op.equalIn];simp only[Sem.run_bind,run_underlying hu,Result.andThen_ok]
     cases a<;>cases a'<;>simp_all
    | slice =>
     obtain⟨a,l,p,rfl,rfl⟩:=h1
     obtain⟨a',l',p',rfl,rfl⟩:=h2
     cases d<;>simp[ym]at hc
     refine⟨fun op=>rz,eA fun n=>?_,fun neg=>by cases neg<;>simp[binOp]⟩
     rw[Op.equalIn];simp only[Sem.run_bind,run_underlying hu,Result.andThen_ok]
     cases a<;>cases a'<;>simp_all
    | map =>
     obtain⟨a,rfl,rfl⟩:=h1
     obtain⟨a',rfl,rfl⟩:=h2
     cases d<;>simp[ym]at hc
     refine⟨fun op=>wJ,eA fun n=>?_,fun neg=>by cases neg<;>simp[binOp]⟩
     rw[Op.equalIn];simp only[Sem.run_bind,run_underlying hu,Result.andThen_ok]
     cases a<;>cases a'<;>simp_all
    | func =>
     cases d<;>simp[ym]at hc
     rcases h1 with⟨rfl,rfl⟩|⟨rfl,f,vs,rfl⟩<;>rcases h2 with⟨rfl,rfl⟩|⟨rfl,f',Iz,rfl⟩
     ·refine⟨fun op=>yj,eA fun n=>?_,fun neg=>by cases neg<;>simp[binOp]⟩
      rw[Op.equalIn];simp[run_underlying hu]
     ·refine⟨fun op=>yh,eA fun n=>?_,fun neg=>by cases neg<;>simp[binOp]⟩
      rw[Op.equalIn];simp[run_underlying hu]
     ·refine⟨fun op=>yg,eA fun n=>?_,fun neg=>by cases neg<;>simp[binOp]⟩
      rw[Op.equalIn];simp[run_underlying hu]
     ·simp at Sf
 obtain⟨k1,k2,k3⟩:=key
 refine br.same h (v:=.bool (if neg then !b else b)) ?_ (.bool _)
 simp only[Sem.run_bind,k1,Result.andThen_ok,k3,k2]
section
variable {P:Program} {w0 w:World} {g:Ctx} {H:ae}
def BA:rf→TypeDesc→Bool
 | .int,.int _ | .str,.string | .bool,.bool=>true
 | _,_=>false
def flat (P:Program):List Field→Nat→List rf→Bool
 | [],_,[]=>true
 | f :: fs,off,k :: ks=>f.offset==off&&f.name != "_"&&(match P.underlying f.type with | some d=>BA k d | none=>false)&&flat P fs (off+1) ks
 | _,_,_=>false
theorem uP {n:Nat}{ty:TypeId}{d:TypeDesc}{k:rf}(hu:P.underlying ty=some d)(hk:BA k d=true){a b:T}{va vb:Value}{r:Bool}(ha:VR g w a va)(hb:VR g w b vb)(h1:a.tp k=true)(he:fQ a b=some r) :
  (Op.equalIn (n+1) ty va vb).run P w=.ok r w:=by
 cases k<;>cases d<;>simp[BA]at hk<;>cases ha<;>simp[T.tp]at h1<;>cases hb<;>simp[fQ]at he
 ·obtain⟨rfl,rfl⟩:=he
  rw[yk n hu]
 ·subst he
  rw[yl n hu,beq_toListBytes];rfl
 ·subst he
  rw[pb n hu]
theorem lB {ty:TypeId}{d:TypeDesc}{k:rf}(hu:P.underlying ty=some d)(hk:BA k d=true){xs:Array Value}{off:Nat}{v:Value}(h:xs[off]?=some v):(part ty xs off).run P w=.ok v w:=by
 have:cS d=false:=by cases k<;>cases d<;>simp_all [BA,cS]
 simp[part,dr hu,this,h]
theorem mc {n:Nat}:∀(fs:List Field) (off:Nat) (ks:List rf) (cs ds:List T) (xs ys:Array Value) (r:Bool),flat P fs off ks=true→dE ks cs=true →
  (∀(i:Nat) (t:T),cs[i]?=some t→∃v,xs[off+i]?=some v∧VR g w t v)→(∀(i:Nat) (t:T),ds[i]?=some t→∃v,ys[off+i]?=some v∧VR g w t v)→bf cs ds=some r →
  (Op.eqFields (n+1) xs ys fs).run P w=.ok r w
 | [],off,ks,cs,ds,xs,ys,r,hf,hk,hc,hd,he=>by
  cases ks with
  | nil =>
   cases cs with
   | nil=>cases ds<;>simp[bf]at he;subst he;rfl
   | cons _ _=>simp[dE]at hk
  | cons _ _=>simp[flat]at hf
 | f :: fs,off,ks,cs,ds,xs,ys,r,hf,hk,hc,hd,he=>by
  cases ks with
  | nil=>simp[flat]at hf
  | cons k ks =>
   cases cs with
   | nil=>simp[dE]at hk
   | cons c cs =>
    cases ds with
    | nil=>simp[bf]at he
    | cons d ds =>
     simp only[flat,Bool.and_eq_true,beq_iff_eq,bne_iff_ne]at hf
     obtain⟨⟨⟨wK,yn⟩,BB⟩,dw⟩:=hf
     simp only[dE,Bool.and_eq_true]at hk
     cases hu:P.underlying f.type with
     | none=>simp[hu]at BB
     | some de =>
      simp[hu]at BB
      obtain⟨va,Jp,LY⟩:=hc 0 c rfl
      obtain⟨vb,oP,ki⟩:=hd 0 d rfl
      simp only[Nat.add_zero]at Jp oP
      simp only[bf]at he
      cases e1:fQ c d with
      | none=>simp[e1]at he
      | some r1 =>
       cases e2:bf cs ds with
       | none=>simp[e1,e2]at he
       | some r2 =>
        simp[e1,e2]at he;subst he
        have ih:=mc (n:=n) fs (off+1) ks cs ds xs ys r2 dw hk.2 (fun i t hi=>by have:=hc (i+1) t (by simpa using hi);rwa[show off+1+i=off+(i+1) by omega])
         (fun i t hi=>by have:=hd (i+1) t (by simpa using hi);rwa[show off+1+i=off+(i+1) by omega]) e2
        simp only[Op.eqFields,yn,ne_eq,not_false_eq_true,if_true,Sem.run_bind,wK,lB hu BB Jp,lB hu BB oP,Result.andThen_ok,uP hu BB LY ki hk.1 e1]
        cases r1
        ·simp
        ·simp[ih]
theorem aW.eo {ts:List T}{vs:List Value}(h:aW g w ts vs)(i:Nat)(t:T)(hi:ts[i]?=some t):∃v,vs.toArray[i]?=some v∧VR g w t v:=by
 have au:i<vs.length:=by rw[←h.1];exact(List.getElem?_eq_some_iff.1 hi).1
 exact⟨vs[i],by simp[au],h.2 i t _ hi (List.getElem?_eq_getElem au)⟩
theorem pc {ty:TypeId}{fs:Array Field}{ks:List rf}(hu:P.underlying ty=some (.struct fs))(hf:flat P fs.toList 0 ks=true)(hp:P.stoodInHeld ty=false){cs ds:List T}{xs ys:List Value}{r:Bool}
  (hk:dE ks cs=true) (hx:aW g w cs xs) (hy:aW g w ds ys) (he:bf cs ds=some r) (n:Nat):(Op.equalIn (n+1+1) ty (.agg xs.toArray) (.agg ys.toArray)).run P w=.ok r w:=by
 have IA:P.fieldsOf ty=fs:=by simp[Program.fieldsOf,hu]
 rw[run_equalIn_struct w (n+1) ty _ _ (by rw[IA];exact hu) hp,IA]
 exact mc _ 0 ks cs ds _ _ r hf hk (fun i t hi=>by simpa using hx.eo i t hi) (fun i t hi=>by simpa using hy.eo i t hi) he
theorem BZ {neg:Bool}{ks:List rf}{cs ds:List T}{r:Bool}{vx vy:Value}{ty:TypeId}{ox oy:Operand}{fs:Array Field}
  (hu:P.underlying ty=some (.struct fs)) (hf:flat P fs.toList 0 ks=true) (hp:P.stoodInHeld ty=false) (hg:P.eqGuardType P.depth ty=false)
  (h:SR w0 g H w) (hx:VR g w (.agg cs) vx) (hy:VR g w (.agg ds) vy) (hk:dE ks cs=true) (he:bf cs ds=some r) :
  br P w0 g H w (do eqGuard (if neg then .neq else .eql) ty ox oy vx vy;binOp (if neg then .neq else .eql) ty vx vy) (.bool (if neg then !r else r)) H:=by
 obtain⟨xs,rfl,BC,_⟩:=hx.en
 obtain⟨ys,rfl,IB,_⟩:=hy.en
 have e:(Op.equalIn 10000 ty (.agg xs.toArray) (.agg ys.toArray)).run P w=.ok r w:=pc hu hf hp hk BC IB he 9998
 refine br.same h (v:=.bool (if neg then !r else r)) ?_ (.bool _)
 cases neg
 ·simp only[Bool.false_eq_true,if_false,Sem.run_bind,run_eqGuard_agg w _ _ _ _ _ _ hg,Result.andThen_ok,run_eql_struct,e]
 ·simp only[if_true,Sem.run_bind,run_eqGuard_agg w _ _ _ _ _ _ hg,Result.andThen_ok,run_neq_struct,e]
theorem Ff {op:UnOp}{x t:T}{vx:Value}(h:SR w0 g H w)(hx:VR g w x vx)(he:Jh op x=some t):br P w0 g H w (Op.unary op vx) t H:=by
 cases hx<;>(try (simp[Jh]at he;done))<;>cases op<;>simp[Jh]at he<;>subst he
 ·exact br.same h (by simp[Op.unary,Op.intArith]) (.int _ _)
 ·exact br.same h (by simp[Op.unary,Op.intBits]) (.int _ _)
 ·exact br.same h (by simp[Op.unary]) (.bool _)
theorem B0 {src dst:TypeId}{ds:TypeDesc}{k k0:IntKind}{n:Int}{vx:Value}(hs:P.underlying src=some ds)(hd:P.underlying dst=some (.int k))(h:SR w0 g H w)(hx:VR g w (.int k0 n) vx) :
  br P w0 g H w (convert src dst vx) (.int k (k.wrap n)) H:=by
 cases hx
 exact br.same h (by simp[convert,run_underlying hs,run_underlying hd,Conv.intToInt]) (.int _ _)
theorem yo {c:Bool}{x y:T}{vc vx vy:Value}(h:SR w0 g H w)(hc:VR g w (.bool c) vc)(hx:VR g w x vx)(hy:VR g w y vy) :
  br P w0 g H w (do pure (if ←asBool vc then vx else vy)) (if c then x else y) H:=by
 cases hc
 refine br.same h (v:=if c then vx else vy) (by simp[asBool]) ?_
 cases c<;>simpa
def M7:Lc→TypeDesc→Bool
 | .str,.string | .sl,.slice _ | .map,.map _ _=>true
 | _,_=>false
theorem B1 {ty rt:TypeId}{d:TypeDesc}{k:Lc}{x:T}{vx:Value}{n:Nat}(hu:P.underlying ty=some d)(hd:M7 k d=true)
  (h:SR w0 g H w) (hx:VR g w x vx) (he:ey H k x=some n):br P w0 g H w (Builtin.len_ #[ty] rt #[vx]) (.int .i64 n) H:=by
 refine br.same h (v:=.int .i64 n) ?_ (.int _ _)
 cases k<;>cases d<;>(first|(simp[M7]at hd;done)|skip)<;>cases hx<;>simp[ey]at he
 ·subst he;simp[Builtin.len_,run_underlying hu,goInt]
 ·subst he;simp[Builtin.len_,run_underlying hu,goInt]
 ·subst he;simp[Builtin.len_,run_underlying hu,goInt]
 ·subst he;simp[Builtin.len_,run_underlying hu,goInt]
 ·subst he;simp[Builtin.len_,run_underlying hu,goInt]
 ·subst he;simp[Builtin.len_,run_underlying hu,goInt]
 ·subst he;simp[Builtin.len_,run_underlying hu,goInt]
 ·rename_i b r o q hφ
  cases hb:H[b]? with
  | none=>simp[hb]at he
  | some y =>
   cases y<;>simp[hb]at he
   ·rename_i es
    obtain⟨_,al,c,h2,h3,_⟩:=h.cu b _ hb r o q hφ
    subst he
    simp[Builtin.len_,run_underlying hu,goInt,getObj,Sem.run,h2,h3.1]
   ·rename_i es _ _ _
    obtain⟨r',o',q',iw,_,al,c,h2,h3,_⟩:=h.cu b _ hb
    rw[hφ]at iw;cases iw
    subst he
    simp[Builtin.len_,run_underlying hu,goInt,getObj,Sem.run,h2,h3.1]
theorem kD {n:Nat}{x:T}{vx:Value}{es:List (List T)}(h:SR w0 g H w)(hx:VR g w x vx)(he:aP H n x=some es)(hs:∀s,x≠.str s) :
  ∃(a:Option Addr) (cap:Nat) (vs:List Value),vx=.slice a es.length cap∧es.length≤cap∧(a=none→es=[]∧cap=0)∧(∀a',a=some a'→(es≠[]→a'.spot=none)∧∀(j:Nat) (v:Value),vs[j]?=some v→w.cell? (a'.add j)=some v) ∧
   aW g w es.flatten vs∧vs.length=es.length*n∧bL es.flatten∧∀c∈es,c.length=n:=by
 cases hx with
 | slnil=>simp[aP]at he;subst he;exact⟨none,0,[],rfl,Nat.le_refl _,fun _=>⟨rfl,rfl⟩,(by simp),aW.nil,by simp,by simp[bL],by simp⟩
 | fT a=>simp[aP]at he;subst he;exact⟨a,0,[],rfl,Nat.le_refl _,fun _=>⟨rfl,rfl⟩,(by simp),aW.nil,by simp,by simp[bL],by simp⟩
 | @sl k xW r o cap n' b6 hk hc hn h1 h2 =>
  simp only[aP]at he
  split at he
  ·rename_i dI
   simp at he;subst he
   have jH:∀c∈xW,c.length=n:=by simpa using dI
   have key:∀(i j:Nat),i<xW.length→j<n→∃c t,xW[i]?=some c∧c[j]?=some t∧t.one=true∧w.cell? ⟨r,o+i*n+j,none⟩=some (b6 i j)∧VR g w t (b6 i j):=by
    intro i j hi hj
    have e1:xW[i]?=some xW[i]:=List.getElem?_eq_getElem hi
    have l1:(xW[i]).length=n:=jH _ (List.getElem_mem hi)
    have l2:(xW[i]).length=n':=hn _ (List.getElem_mem hi)
    have e2:(xW[i])[j]?=some ((xW[i])[j]'(by omega)):=List.getElem?_eq_getElem _
    have a:=h1 i j _ _ e1 e2
    have qf:n'=n:=by omega
    exact⟨_,_,e1,e2,a.1,by rw[←qf];exact a.2.2,h2 i j _ _ e1 e2⟩
   have build:∀(l:List (List T)) (k:Nat),(∀i c,l[i]?=some c→xW[k+i]?=some c)→∃vs:List Value,vs.length=l.length*n∧aW g w l.flatten vs∧bL l.flatten ∧
     ∀(j:Nat) (v:Value),vs[j]?=some v→w.cell? ⟨r,o+k*n+j,none⟩=some v:=by
    intro l
    induction l with
    | nil=>intro k _;exact⟨[],by simp,aW.nil,by simp[bL],by simp⟩
    | cons c l ih =>
     intro k hk
     have mM:=hk 0 c rfl
     simp only[Nat.add_zero]at mM
     have Fg:k<xW.length:=(List.getElem?_eq_some_iff.1 mM).1
     have jI:c.length=n:=jH c (List.mem_of_getElem? mM)
     obtain⟨vs,a1,a2,a3,a4⟩:=ih (k+1) (fun i c' hi=>by have:=hk (i+1) c' (by simpa using hi);rwa[show k+1+i=k+(i+1) by omega])
     refine⟨(List.range n).map (b6 k)++vs,by simp[a1,Nat.succ_mul];omega,?_,?_,fun j v hj=>?_⟩
     ·rw[List.flatten_cons]
      refine aW.append ⟨by simp[jI],fun i t v hi hv=>?_⟩ a2
      have au:i<n:=by have:=(List.getElem?_eq_some_iff.1 hv).1;simpa using this
      obtain⟨c',t',e1,e2,_,_,e5⟩:=key k i Fg au
      rw[mM]at e1;cases e1
      rw[hi]at e2;cases e2
      simp[au]at hv
      rw[←hv];exact e5
     ·rw[List.flatten_cons]
      intro t ht
      rcases List.mem_append.1 ht with ht|ht
      ·obtain⟨i,hi,rfl⟩:=List.getElem_of_mem ht
       obtain⟨c',t',e1,e2,e3,_,_⟩:=key k i Fg (by omega)
       rw[mM]at e1;cases e1
       rw[List.getElem?_eq_getElem hi]at e2;cases e2
       exact e3
      ·exact a3 t ht
     ·rw[List.getElem?_append]at hj
      split at hj
      ·rename_i au
       simp at au
       simp[au]at hj
       obtain⟨c',t',_,_,_,e4,_⟩:=key k j Fg au
       rw[←hj];exact e4
      ·rename_i fN
       simp at fN hj
       have:=a4 _ v hj
       rwa[show o+(k+1)*n+(j-n)=o+k*n+j by rw[Nat.succ_mul];omega]at this
   obtain⟨vs,a1,a2,a3,a4⟩:=build xW 0 (fun i c h=>by simpa using h)
   refine⟨some ⟨r,o,none⟩,cap,vs,rfl,hc,by simp,fun a' ha=>?_,a2,a1,a3,jH⟩
   cases ha
   exact⟨fun _=>rfl,fun j v hj=>by rw[b7];simpa using a4 j v hj⟩
  ·simp at he
 | @aE b off len n' r o q cap hφ hc hq =>
  simp only[aP]at he
  cases hb:H[b]? with
  | none=>simp[hb]at he
  | some y =>
   cases y with
   | cells cs =>
    simp only[hb]at he
    split at he
    ·rename_i bF
     obtain⟨rfl,hle⟩:=bF
     simp at he
     obtain⟨h1,h2,h3⟩:=h.cu b _ hb r o q hφ
     have hlen:es.length=len:=by rw[←he];simp
     have hn:∀c∈es,c.length=n':=by
      rw[←he]
      intro c eB
      obtain⟨i,hi,rfl⟩:=List.mem_map.1 eB
      simp at hi
      have:i*n'+n'≤len*n':=by rw[←Nat.succ_mul];exact Nat.mul_le_mul_right _ hi
      simp;omega
     have mN:∀m,m≤len→((List.range m).map fun i=>(cs.drop (off+i*n')).take n').flatten=(cs.drop off).take (m*n'):=by
      intro m
      induction m with
      | zero=>intro _;simp
      | succ m ih =>
       intro hm
       rw[List.range_succ,List.map_append,List.flatten_append,ih (by omega)]
       simp only[List.map_cons,List.map_nil,List.flatten_cons,List.flatten_nil,List.append_nil]
       rw[Nat.succ_mul,List.take_add,List.drop_drop]
     have rB:es.flatten=(cs.drop off).take (len*n'):=by rw[←he];exact mN len (Nat.le_refl _)
     have hp:ku H (len*n') (.ptr b off)=some ((cs.drop off).take (len*n')):=by simp[ku,hb,hle]
     obtain⟨r',o',vs,e1,e2,e3,e4,e5⟩:=jU h (.ptr hφ) hp
     cases e1
     refine⟨some ⟨r,o+off,none⟩,cap,vs,by rw[hlen],by omega,by simp,fun a' ha=>?_,by rw[rB];exact e4,by rw[e2,hlen],by rw[rB];exact e5,hn⟩
     cases ha
     exact⟨fun _=>rfl,fun j v hj=>by rw[b7];exact e3 j v hj⟩
    ·simp at he
   | fz cs =>
    simp only[hb]at he
    split at he
    ·rename_i bF
     obtain⟨rfl,hle⟩:=bF
     simp at he
     have hlen:es.length=len:=by rw[←he];simp
     have hn:∀c∈es,c.length=n':=by
      rw[←he]
      intro c eB
      obtain⟨i,hi,rfl⟩:=List.mem_map.1 eB
      simp at hi
      have:i*n'+n'≤len*n':=by rw[←Nat.succ_mul];exact Nat.mul_le_mul_right _ hi
      simp;omega
     have mN:∀m,m≤len→((List.range m).map fun i=>(cs.drop (off+i*n')).take n').flatten=(cs.drop off).take (m*n'):=by
      intro m
      induction m with
      | zero=>intro _;simp
      | succ m ih =>
       intro hm
       rw[List.range_succ,List.map_append,List.flatten_append,ih (by omega)]
       simp only[List.map_cons,List.map_nil,List.flatten_cons,List.flatten_nil,List.append_nil]
       rw[Nat.succ_mul,List.take_add,List.drop_drop]
     have rB:es.flatten=(cs.drop off).take (len*n'):=by rw[←he];exact mN len (Nat.le_refl _)
     have hp:ku H (len*n') (.ptr b off)=some ((cs.drop off).take (len*n')):=by simp[ku,hb,hle]
     obtain⟨r',o',vs,e1,e2,e3,e4,e5⟩:=jU h (.ptr hφ) hp
     cases e1
     refine⟨some ⟨r,o+off,none⟩,cap,vs,by rw[hlen],by omega,by simp,fun a' ha=>?_,by rw[rB];exact e4,by rw[e2,hlen],by rw[rB];exact e5,hn⟩
     cases ha
     exact⟨fun _=>rfl,fun j v hj=>by rw[b7];exact e3 j v hj⟩
    ·simp at he
   | map _=>simp[hb]at he
   | tok _=>simp[hb]at he
   | _=>simp[hb]at he
 | str s=>exact absurd rfl (hs s)
 | _=>simp[aP]at he
theorem nr:∀(es:List (List T)) (l:List UInt8),bytesOf es=some l→∃ns:List Int,es=ns.map (fun n=>[T.int .u8 n])∧l=ns.map (fun n=>UInt8.ofNat n.toNat)
 | [],l,h=>⟨[],rfl,by simpa[bytesOf]using h.symm⟩
 | [.int .u8 n] :: es,l,h=>by
  simp only[bytesOf,Option.map_eq_some_iff]at h
  obtain⟨l',h1,rfl⟩:=h
  obtain⟨ns,rfl,rfl⟩:=nr es l' h1
  exact⟨n :: ns,rfl,rfl⟩
 | [] :: es,l,h=>by simp[bytesOf]at h
 | (_ :: _ :: _) :: es,l,h=>by simp[bytesOf]at h
 | [.int .i8 n] :: es,l,h=>by simp[bytesOf]at h
 | [.int .i16 n] :: es,l,h=>by simp[bytesOf]at h
 | [.int .i32 n] :: es,l,h=>by simp[bytesOf]at h
 | [.int .i64 n] :: es,l,h=>by simp[bytesOf]at h
 | [.int .u16 n] :: es,l,h=>by simp[bytesOf]at h
 | [.int .u32 n] :: es,l,h=>by simp[bytesOf]at h
 | [.int .u64 n] :: es,l,h=>by simp[bytesOf]at h
 | [.bool _] :: es,l,h=>by simp[bytesOf]at h
 | [.str _] :: es,l,h=>by simp[bytesOf]at h
 | [.fb] :: es,l,h=>by simp[bytesOf]at h
 | [.ptr _ _] :: es,l,h=>by simp[bytesOf]at h
 | [.cy _] :: es,l,h=>by simp[bytesOf]at h
 | [.fc] :: es,l,h=>by simp[bytesOf]at h
 | [.map _] :: es,l,h=>by simp[bytesOf]at h
 | [.sl _ _] :: es,l,h=>by simp[bytesOf]at h
 | [.aE _ _ _ _] :: es,l,h=>by simp[bytesOf]at h
 | [.kr] :: es,l,h=>by simp[bytesOf]at h
 | [.fn _ _] :: es,l,h=>by simp[bytesOf]at h
 | [.eJ] :: es,l,h=>by simp[bytesOf]at h
 | [.agg _] :: es,l,h=>by simp[bytesOf]at h
 | [.bE _] :: es,l,h=>by simp[bytesOf]at h
theorem foldl_push (ns:List Int):∀(b:ByteArray),ns.foldl (fun r n=>r.push (UInt8.ofNat n.toNat)) b=⟨b.data++(ns.map (fun n=>UInt8.ofNat n.toNat)).toArray⟩:=by
 induction ns with
 | nil=>intro b;simp
 | cons n ns ih=>intro b;rw[List.foldl_cons,ih];cases b;simp[ByteArray.push]
theorem Jq (ns:List Int):(ns.map fun n=>[T.int .u8 n]).flatten=ns.map (T.int .u8):=by
 induction ns with
 | nil=>rfl
 | cons n ns ih=>simp only[List.map_cons,List.flatten_cons,ih];rfl
theorem B2 {src dst e:TypeId}{x:T}{vx:Value}{es:List (List T)}{l:List UInt8}(hs:P.underlying src=some (.slice e))(hb:P.underlying e=some (.int .u8))(hd:P.underlying dst=some .string)
  (h:SR w0 g H w) (hx:VR g w x vx) (he:aP H 1 x=some es) (hn:∀s,x≠.str s) (hl:bytesOf es=some l):br P w0 g H w (convert src dst vx) (.str ⟨l.toArray⟩) H:=by
 obtain⟨a,cap,vs,rfl,_,h1,h2,h3,h4,h5,_⟩:=kD h hx he hn
 obtain⟨ns,rfl,rfl⟩:=nr es l hl
 refine br.same h ?_ (.str _)
 rw[run_convert_bytes_string w src dst e a _ cap hs hb hd]
 cases a with
 | none =>
  have:=h1 rfl
  have wL:ns=[]:=by simpa using this.1
  subst wL
  simp[Conv.bytesToString];rfl
 | some a =>
  obtain⟨_,h6⟩:=h2 a rfl
  have gP:vs=ns.map (Value.int .u8):=by
   apply List.ext_getElem?
   intro i
   have hlen:vs.length=ns.length:=by simpa using h4
   by_cases hi:i<ns.length
   ·have hv:vs[i]?=some vs[i]:=List.getElem?_eq_getElem (by omega)
    have ht:((ns.map fun n=>[T.int .u8 n]).flatten)[i]?=some (T.int .u8 ns[i]):=by
     rw[Jq];simp[hi]
    have:=h3.2 i _ _ ht hv
    rw[hv]
    simp only[List.getElem?_map,List.getElem?_eq_getElem hi,Option.map_some]
    congr 1
    generalize vs[i]=vv at this
    cases this;rfl
   ·rw[List.getElem?_eq_none (by omega),List.getElem?_eq_none (by simpa using hi)]
  have:=run_loadCells_list (P:=P) w a vs h6
  rw[h4]at this
  have hl:(ns.map fun n=>[T.int .u8 n]).length*1=(ns.map fun n=>[T.int .u8 n]).length:=Nat.mul_one _
  rw[hl]at this
  rw[run_bytesToString w a _ cap ns (by rw[this,gP]),foldl_push]
  show Result.ok (Value.string ⟨#[]++_⟩) w=_
  simp
end
section
variable {P:Program} {w0 w:World} {g:Ctx} {H:ae}
def nu:Value→Option T
 | .int k n=>some (.int k n)
 | .bool b=>some (.bool b)
 | .string s=>some (.str s)
 | .pointer none=>some .fb
 | .slice none 0 0=>some (.sl .nil [])
 | .map none=>some .fc
 | .nilFunc=>some .kr
 | .nilIface=>some .eJ
 | _=>none
def dt:List Value→Option (List T)
 | []=>some []
 | v :: vs=>match nu v,dt vs with
  | some t,some ts=>some (t :: ts)
  | _,_=>none
def jV:Value→Option T
 | .agg cs=>(dt cs.toList).map .agg
 | .tuple cs=>if cs.size=0 then some (.bE [])else none
 | v=>nu v
theorem pd {v:Value}{t:T}(h:nu v=some t):VR g w t v∧t.one=true:=by
 unfold nu at h
 split at h<;>simp at h<;>subst h
 ·exact⟨.int _ _,rfl⟩
 ·exact⟨.bool _,rfl⟩
 ·exact⟨.str _,rfl⟩
 ·exact⟨.fb,rfl⟩
 ·exact⟨.slnil,rfl⟩
 ·exact⟨.fc,rfl⟩
 ·exact⟨.kr,rfl⟩
 ·exact⟨.eJ,rfl⟩
theorem cG:∀(vs:List Value) (ts:List T),dt vs=some ts→aW g w ts vs∧bL ts
 | [],ts,h=>by simp[dt]at h;subst h;exact⟨aW.nil,by simp[bL]⟩
 | v :: vs,ts,h=>by
  simp only[dt]at h
  cases h1:nu v with
  | none=>simp[h1]at h
  | some t =>
   cases h2:dt vs with
   | none=>simp[h1,h2]at h
   | some Fb =>
    simp[h1,h2]at h;subst h
    obtain⟨a,b⟩:=pd (g:=g) (w:=w) h1
    obtain⟨c,d⟩:=cG vs Fb h2
    exact⟨aW.cons a c,by intro x hx;rcases List.mem_cons.1 hx with rfl|hx;exact b;exact d x hx⟩
theorem ji {v:Value}{t:T}(h:jV v=some t):VR g w t v:=by
 unfold jV at h
 split at h
 ·rename_i cs
  simp only[Option.map_eq_some_iff]at h
  obtain⟨ts,h1,rfl⟩:=h
  obtain⟨a,b⟩:=cG (g:=g) (w:=w) _ _ h1
  have:=a.agg b
  simpa using this
 ·rename_i cs
  split at h
  ·rename_i hs
   simp at h;subst h
   have:cs=#[]:=Array.eq_empty_of_size_eq_zero hs
   subst this
   exact .bE rfl (by simp)
  ·simp at h
 ·exact(pd h).1
theorem cT {x:T}{vx:Value}{i:Nat}(hx:VR g w x vx)(h:bB x=some i):∃(k:IntKind) (n:Int),vx=.int k n∧0≤n∧n.toNat=i:=by
 cases hx<;>simp[bB]at h
 exact⟨_,_,rfl,h.1,h.2⟩
theorem wO {cs:List T}{r o off:Nat}(h:VR g w (.cy cs) (.pointer (some ⟨r,o,none⟩))):VR g w (.cy (cs.drop off)) (.pointer (some ⟨r,o+off,none⟩)):=by
 cases h with
 | cy b6 h1 h2 =>
  refine .cy (fun j=>b6 (off+j)) (fun j t e=>?_) (fun j t e=>?_)
  ·rw[List.getElem?_drop]at e
   have:=h1 (off+j) t e
   exact⟨this.1,by rw[Nat.add_assoc];exact this.2⟩
  ·rw[List.getElem?_drop]at e
   exact h2 (off+j) t e
theorem B3 {ty:TypeId}{fs:Array Field}{i:Nat}{f:Field}{fi:TypeInfo}{x t:T}{vx:Value}(hu:P.underlying ty=some (.struct fs))(hf:fs[i]?=some f)(hi:P.info? f.type=some fi)(hz:fi.size≠0)
  (h:SR w0 g H w) (hx:VR g w x vx) (he:m4 f.offset x=some t) :
  br P w0 g H w (Instr.fieldAt ty vx i) t H:=by
 cases hx<;>simp[m4]at he
 case ptr b off r o q hφ =>
  subst he
  refine br.same h (v:=.pointer (some ⟨r,o+(off+f.offset),none⟩)) ?_ (.ptr hφ)
  simp[Instr.fieldAt,Instr.sureAddr,run_underlying hu,hf,fieldPlace,sizeOf,aO hi,hz,b7,Nat.add_assoc]
 case cy cs r o b6 h1 h2 =>
  obtain⟨_,rfl⟩:=he
  refine br.same h (v:=.pointer (some ⟨r,o+f.offset,none⟩)) ?_ (wO (.cy b6 h1 h2))
  simp[Instr.fieldAt,Instr.sureAddr,run_underlying hu,hf,fieldPlace,sizeOf,aO hi,hz,b7]
theorem rC {ty:TypeId}{d:TypeDesc}{i:TypeInfo}{ag:Bool}{n off:Nat}{cs:List T}{vs:List Value}{t:T}(hd:P.underlying ty=some d)(hi:P.info? ty=some i)(qe:cS d=ag)(hn:i.size=n)
  (hv:aW g w cs vs) (ho:bL cs) (hle:off+n≤cs.length) (he:valOf ag ((cs.drop off).take n)=some t):∃v,(part ty vs.toArray off).run P w=.ok v w∧VR g w t v:=by
 have h1:=(hv.drop off).take n
 have h2:bL ((cs.drop off).take n):=fun x hx=>ho x (List.mem_of_mem_drop (List.mem_of_mem_take hx))
 obtain⟨ha,hb⟩:=nk h1 h2 he
 cases ag with
 | true =>
  refine⟨_,?_,ha rfl⟩
  simp[part,dr hd,qe,sizeOf,aO hi,hn]
 | false =>
  obtain⟨v,h3,h4⟩:=hb rfl
  refine⟨v,?_,h4⟩
  have h5:vs[off]?=some v:=by
   have:((vs.drop off).take n)[0]?=some v:=by rw[h3];rfl
   rw[List.getElem?_take]at this
   split at this
   ·rw[List.getElem?_drop]at this;simpa using this
   ·simp at this
  simp[part,dr hd,qe,h5]
theorem B4 {ty:TypeId}{fs:Array Field}{i:Nat}{f:Field}{fi:TypeInfo}{d:TypeDesc}{cs:List T}{t:T}{vx:Value}{ag:Bool}(hu:P.underlying ty=some (.struct fs))(hf:fs[i]?=some f)(hd:P.underlying f.type=some d)(hi:P.info? f.type=some fi)
  (qe:cS d=ag) (h:SR w0 g H w) (hx:VR g w (.agg cs) vx) (hle:f.offset+fi.size≤cs.length) (he:valOf ag ((cs.drop f.offset).take fi.size)=some t):br P w0 g H w (Instr.field ty vx i) t H:=by
 obtain⟨vs,rfl,h1,h2⟩:=hx.en
 obtain⟨v,hr,hv⟩:=rC (P:=P) hd hi qe rfl h1 h2 hle he
 exact br.same h (by simp[Instr.field,run_underlying hu,hf,asAgg,hr]) hv
theorem B5 {ty elem:TypeId}{ei:TypeInfo}{x ix t:T}{i:Nat}{vx vi:Value}(hu:P.underlying ty=some (.slice elem))(hi:P.info? elem=some ei)
  (h:SR w0 g H w) (hx:VR g w x vx) (uQ:VR g w ix vi) (hn:bB ix=some i) (he:ew ei.size i x=some t):br P w0 g H w (Instr.indexAt ty vx vi) t H:=by
 obtain⟨k,m,rfl,wP,BD⟩:=cT uQ hn
 cases hx<;>simp[ew]at he
 case sl k' es r o cap n b6 hk hc Fh h1 h2 =>
  cases iz:es[i]? with
  | none=>simp[iz]at he
  | some c =>
   simp[iz]at he
   obtain⟨⟨jI,ba⟩,rfl⟩:=he
   have au:i<es.length:=(List.getElem?_eq_some_iff.1 iz).1
   have Vs:c.length=n:=Fh c (List.mem_of_getElem? iz)
   have qf:n=ei.size:=by omega
   subst qf
   refine br.same h (v:=.pointer (some ⟨r,o+i*ei.size,none⟩)) ?_ (.cy (b6 i) (fun j t e=>h1 i j c t iz e) (fun j t e=>h2 i j c t iz e))
   have tv:m<es.length:=by omega
   simp[Instr.indexAt,asIntOf,run_underlying hu,wP,tv,sizeOf,aO hi,b7,BD]
 case aE b off len n r o q cap hφ hc hq =>
  obtain⟨⟨rfl,au,ba⟩,rfl⟩:=he
  refine br.same h (v:=.pointer (some ⟨r,o+(off+i*ei.size),none⟩)) ?_ (.ptr hφ)
  have tv:m<len:=by omega
  simp[Instr.indexAt,asIntOf,run_underlying hu,wP,tv,sizeOf,aO hi,b7,BD,Nat.add_assoc]
theorem B6 {ty elem:TypeId}{len:Nat}{ei:TypeInfo}{ix:T}{b off i:Nat}{vx vi:Value}(hu:P.underlying ty=some (.array len elem))(hi:P.info? elem=some ei)
  (h:SR w0 g H w) (hx:VR g w (.ptr b off) vx) (uQ:VR g w ix vi) (hn:bB ix=some i) (au:i<len):br P w0 g H w (Instr.indexAt ty vx vi) (.ptr b (off+i*ei.size)) H:=by
 obtain⟨k,m,rfl,wP,BD⟩:=cT uQ hn
 cases hx with
 | @ptr _ _ r o q hφ =>
  refine br.same h (v:=.pointer (some ⟨r,o+(off+i*ei.size),none⟩)) ?_ (.ptr hφ)
  have tv:m<len:=by omega
  simp[Instr.indexAt,Instr.sureAddr,asIntOf,run_underlying hu,wP,tv,sizeOf,aO hi,b7,BD,Nat.add_assoc]
theorem B7 {ty:TypeId}{ix:T}{s:ByteArray}{i:Nat}{c:UInt8}{vx vi:Value}(hu:P.underlying ty=some .string)
  (h:SR w0 g H w) (hx:VR g w (.str s) vx) (uQ:VR g w ix vi) (hn:bB ix=some i) (hc:s.data[i]?=some c):br P w0 g H w (Instr.index ty vx vi) (.int .u8 c.toNat) H:=by
 obtain⟨k,m,rfl,wP,BD⟩:=cT uQ hn
 cases hx
 refine br.same h ?_ (.int _ _)
 have eB:s[i]?=some c:=by
  have au:i<s.data.size:=(Array.getElem?_eq_some_iff.1 hc).1
  have h2:=(Array.getElem?_eq_some_iff.1 hc).2
  have tz:i<s.size:=au
  rw[getElem?_pos s i tz]
  exact congrArg some h2
 simp[Instr.index,asIntOf,run_underlying hu,wP,BD,eB]
theorem B8 {ty elem:TypeId}{len i:Nat}{ei:TypeInfo}{d:TypeDesc}{ag:Bool}{ix t:T}{cs:List T}{vx vi:Value}(hu:P.underlying ty=some (.array len elem))(hd:P.underlying elem=some d)(hi:P.info? elem=some ei)(qe:cS d=ag)
  (h:SR w0 g H w) (hx:VR g w (.agg cs) vx) (uQ:VR g w ix vi) (hn:bB ix=some i) (au:i<len) (hle:i*ei.size+ei.size≤cs.length) (he:valOf ag ((cs.drop (i*ei.size)).take ei.size)=some t):br P w0 g H w (Instr.index ty vx vi) t H:=by
 obtain⟨k,m,rfl,wP,BD⟩:=cT uQ hn
 obtain⟨vs,rfl,h1,h2⟩:=hx.en
 obtain⟨v,hr,hv⟩:=rC (P:=P) hd hi qe rfl h1 h2 hle he
 have tv:m<len:=by omega
 exact br.same h (by simp[Instr.index,asIntOf,run_underlying hu,wP,tv,sizeOf,aO hi,BD,hr]) hv
def OV (g:Ctx)(w:World)(R:aj):Option X→Option Value→Prop
 | none,none=>True
 | some x,some v=>VR g w (x.ev R) v
 | _,_=>False
def Fi (l:Nat):Option Value→Prop
 | none=>l=0
 | some v=>∃k n,v=.int k n∧0≤n∧n.toNat=l
theorem run_sliceBound {k:IntKind}{n:Int}{y:Nat}{c:BoundsCode}(h0:0≤n)(hy:n.toNat≤y):(Instr.sliceBound (.int k n) y c).run P w=.ok n.toNat w:=by
 have:n≤y:=by omega
 simp[Instr.sliceBound,asIntOf,h0,this]
theorem dW {R:aj}{yp:Bool}{len cap d l hh:Nat}{lo hi:Option X}{gJ hY:Option Value}(me:OV g w R lo gJ)
  (rD:OV g w R hi hY) (hl:fy R 0 lo=some l) (oF:fy R d hi=some hh) (hd:hi=none→d=len) (h1:l≤hh) (h2:hh≤cap) :
  (Instr.sliceBounds yp len cap gJ hY none).run P w=.ok (l,hh,cap) w:=by
 have eh:∀c,(match hY with|some v=>Instr.sliceBound v cap c|none=>pure len:Sem Nat).run P w=.ok hh w:=by
  intro c
  cases hi with
  | none =>
   cases hY with
   | none=>simp[fy]at oF;simp[←oF,hd rfl]
   | some _=>exact rD.elim
  | some x =>
   cases hY with
   | none=>exact rD.elim
   | some v =>
    obtain⟨k,n,rfl,a,b⟩:=cT rD oF
    subst b
    exact run_sliceBound a h2
 have el:∀c,(match gJ with|some v=>Instr.sliceBound v hh c|none=>pure 0:Sem Nat).run P w=.ok l w:=by
  intro c
  cases lo with
  | none =>
   cases gJ with
   | none=>simp[fy]at hl;simp[←hl]
   | some _=>exact me.elim
  | some x =>
   cases gJ with
   | none=>exact me.elim
   | some v =>
    obtain⟨k,n,rfl,a,b⟩:=cT me hl
    subst b
    exact run_sliceBound a h1
 have Vt:=eh (if yp then .sliceAcap else .sliceAlen)
 have Vu:=el .sliceB
 cases hY<;>cases gJ<;>simp_all [Instr.sliceBounds]
theorem B9 {R:aj}{ty:TypeId}{s:ByteArray}{l hh:Nat}{lo hi:Option X}{gJ hY:Option Value}{vx:Value}(hu:P.underlying ty=some .string)
  (h:SR w0 g H w) (hx:VR g w (.str s) vx) (me:OV g w R lo gJ)
  (rD:OV g w R hi hY) (hl:fy R 0 lo=some l) (oF:fy R s.size hi=some hh) (h1:l≤hh) (h2:hh≤s.size) :
  br P w0 g H w (Instr.sliceAt ty vx gJ hY none) (.str (s.extract l hh)) H:=by
 cases hx
 refine br.same h ?_ (.str _)
 have:=dW (P:=P) (yp:=false) me rD hl oF (fun _=>rfl) h1 h2
 simp[Instr.sliceAt,run_underlying hu,Instr.slice,this]
theorem uR {k k':SK}{es:List (List T)}{r o cap qg n l m:Nat}{a:Option Addr}(b6:Nat→Nat→Value)(hn:∀c∈es,c.length=n)
  (h1:∀(i j:Nat) (c:List T) (t:T),es[i]?=some c→c[j]?=some t→t.one=true∧tt g w r (o+i*n+j) (b6 i j))
  (h2:∀(i j:Nat) (c:List T) (t:T),es[i]?=some c→c[j]?=some t→VR g w t (b6 i j))
  (Vv:l≤m) (hm:m≤es.length) (iD:m-l≤qg) (hk:jh g k' r (o+l*n) (m-l) qg n) :
  VR g w (.sl k' ((es.take m).drop l)) (.slice (some ⟨r,o+l*n,none⟩) (m-l) qg):=by
 have hlen:((es.take m).drop l).length=m-l:=by simp;omega
 have get:∀i c,((es.take m).drop l)[i]?=some c→es[l+i]?=some c:=by
  intro i c hi
  rw[List.getElem?_drop,List.getElem?_take]at hi
  split at hi
  ·exact hi
  ·simp at hi
 have:=VR.sl (g:=g) (w:=w) (k:=k') (es:=(es.take m).drop l) (r:=r) (o:=o+l*n) (cap:=qg) (n:=n) (fun i j=>b6 (l+i) j) (by rw[hlen];exact hk) (by omega)
  (fun c hc=>hn c (List.mem_of_mem_take (List.mem_of_mem_drop hc)))
  (fun i j c t a b=>⟨(h1 (l+i) j c t (get i c a) b).1,by
   have:=(h1 (l+i) j c t (get i c a) b).2
   rwa[show o+l*n+i*n+j=o+(l+i)*n+j by rw[Nat.add_mul];omega]⟩)
  (fun i j c t a b=>h2 (l+i) j c t (get i c a) b)
 rwa[hlen]at this
theorem Ca {R : aj}{ty elem : TypeId}{ei : TypeInfo}{k : SK}{es : List (List T)}{l hh : Nat}{lo hi : Option X}{gJ hY : Option Value}{vx : Value}(hu : P.underlying ty = some (.slice elem))(jy : P.info? elem = some ei)
    (h : SR w0 g H w) (hx : VR g w (.sl k es) vx) (me : OV g w R lo gJ)
    (rD : OV g w R hi hY) (hl : fy R 0 lo = some l) (oF : fy R es.length hi = some hh) (h1 : l ≤ hh) (h2 : hh ≤ es.length) (dI : es.all (·.length == ei.size) = true) :
    br P w0 g H w (Instr.sliceAt ty vx gJ hY none) (.sl (k.cut es.length l hh) ((es.take hh).drop l)) H := by
  have jH : ∀c ∈ es, c.length = ei.size := by simpa using dI
  cases hx with
  | slnil =>
    simp at h2; subst h2
    have yq : l = 0 := by omega
    subst yq
    have := dW (P := P) (w := w) (g := g) (yp := true) (cap := 0) me rD hl oF (fun _ => rfl) h1 (Nat.le_refl _)
    simp only[List.length_nil]at this
    exact br.same h (v := .slice none 0 0) (by simp[Instr.sliceAt, run_underlying hu, Instr.slice, this, sizeOf, aO jy]) (by simpa[SK.cut]using VR.slnil)
  | fT a =>
    simp at h2; subst h2
    have yq : l = 0 := by omega
    subst yq
    have := dW (P := P) (w := w) (g := g) (yp := true) (cap := 0) me rD hl oF (fun _ => rfl) h1 (Nat.le_refl _)
    simp only[List.length_nil]at this
    exact br.same h (v := .slice a 0 0) (by cases a<;>simp[Instr.sliceAt, run_underlying hu, Instr.slice, this, sizeOf, aO jy]) (by simpa[SK.cut]using VR.fT a)
  | @sl _ _ r o cap n b6 hk hc hn h3 h4 =>
    have := dW (P := P) (w := w) (g := g) (yp := true) (cap := cap) me rD hl oF (fun _ => rfl) h1 (by omega)
    have hr : (Instr.sliceAt ty (.slice (some ⟨r, o, none⟩) es.length cap) gJ hY none).run P w = .ok (.slice (some (if cap = l then⟨r, o, none⟩else⟨r, o + l * ei.size, none⟩)) (hh - l) (cap - l)) w := by
      simp[Instr.sliceAt, run_underlying hu, Instr.slice, this, sizeOf, aO jy, b7]
      split<;>rfl
    by_cases he : l<hh
    · -- IC is left
      have jI : cap ≠ l := by omega
      simp only[jI, if_false]at hr
      have qf : n = ei.size := by
        cases es with
        | nil => simp at h2; omega
        | cons c es => have a := hn c (by simp); have b := jH c (by simp); omega
      subst qf
      refine br.same h hr (uR (k := k) (cap := cap) (a := none) b6 hn h3 h4 h1 h2 (by omega) ?_)
      cases k with
      | nil => exact hk.elim
      | arg => trivial
      | full =>
        simp only[SK.cut]; split
        · rename_i e; simp only[jh]at hk ⊢; omega
        · trivial
      | own t e =>
        simp only[SK.cut]; split
        · rename_i e'
          simp only[jh]at hk ⊢
          refine⟨?_, by omega⟩
          rw[hk.1]
          have e1 : o + l * ei.size + (hh - l) * ei.size = o + es.length * ei.size := by
            rw[Nat.add_assoc, ←Nat.add_mul]; congr 2; omega
          have e2 : o + l * ei.size + (cap - l) * ei.size = o + cap * ei.size := by
            rw[Nat.add_assoc, ←Nat.add_mul]; congr 2; omega
          rw[e1, e2]
        · trivial
    · have hle : l = hh := by omega
      subst hle
      have hd : (es.take l).drop l = [] := by simp
      rw[hd]
      have vr : ∀a : Addr, a.spot = none → VR g w (.sl .arg []) (.slice (some a) 0 (cap - l)) := by
        intro a ha
        obtain⟨ab, ao, as⟩ := a
        simp at ha; subst ha
        exact .sl (n := 0) (fun _ _ => .nilIface) trivial (by simp) (by simp) (by simp) (by simp)
      have cd : k.cut es.length l l = .arg ∨ (k.cut es.length l l = .full ∧ cap = l) := by
        cases k with
        | nil => exact hk.elim
        | arg => exact .inl rfl
        | full => simp only[SK.cut]; split
                  · rename_i e; right; simp only[jh]at hk; exact⟨rfl, by omega⟩
                  · exact .inl rfl
        | own t e => simp only[SK.cut]; split
                     · omega
                     · exact .inl rfl
      rcases cd with e|⟨e, jI⟩
      · rw[e]
        refine br.same h hr ?_
        rw[Nat.sub_self]
        exact vr _ (by split<;>rfl)
      · rw[e]
        refine br.same h hr ?_
        rw[Nat.sub_self, jI, Nat.sub_self]
        have uS : ∀a : Addr, a.spot = none → VR g w (.sl .full []) (.slice (some a) 0 0) := by
          intro a ha
          obtain⟨ab, ao, as⟩ := a
          simp at ha; subst ha
          exact .sl (n := 0) (fun _ _ => .nilIface) rfl (by simp) (by simp) (by simp) (by simp)
        exact uS _ (by split<;>rfl)
theorem lC {yp:Bool}{len cap l hh m:Nat}{gJ:Option Value}{k:IntKind}{nm:Int}{vh:Value}
  (wP:0≤nm) (Jr:nm.toNat=m) (LZ:m≤cap) (oF:∃k n,vh=.int k n∧0≤n∧n.toNat=hh) (h2:hh≤m)
  (hl:Fi l gJ) (h1:l≤hh) :
  (Instr.sliceBounds yp len cap gJ (some vh) (some (.int k nm))).run P w=.ok (l,hh,m) w:=by
 subst Jr
 obtain⟨kh,nh,rfl,a,b⟩:=oF
 subst b
 cases gJ with
 | none=>simp only[Fi]at hl;subst hl;simp[Instr.sliceBounds,run_sliceBound wP LZ,run_sliceBound a h2]
 | some v =>
  obtain⟨kl,nl,rfl,c,d⟩:=hl
  subst d
  simp[Instr.sliceBounds,run_sliceBound wP LZ,run_sliceBound a h2,run_sliceBound c h1]
theorem yr {R:aj}{ty elem:TypeId}{ei:TypeInfo}{k:SK}{es:List (List T)}{l hh m:Nat}{lo:Option X}{hi mx:X}{gJ:Option Value}{hY vm:Value}{vx:Value}(hu:P.underlying ty=some (.slice elem))(jy:P.info? elem=some ei)
  (h:SR w0 g H w) (hx:VR g w (.sl k es) vx) (me:OV g w R lo gJ)
  (rD:VR g w (hi.ev R) hY) (Sg:VR g w (mx.ev R) vm) (hl:fy R 0 lo=some l) (oF:bB (hi.ev R)=some hh) (hm:bB (mx.ev R)=some m) (h1:l≤hh) (h2:hh≤m) (Js:m≤es.length) (dI:es.all (·.length==ei.size)=true) :
  br P w0 g H w (Instr.sliceAt ty vx gJ (some hY) (some vm)) (.sl (if k=.nil then .nil else if es=[]∧k=.arg then .arg else if hh=m then .full else .arg) ((es.take hh).drop l)) H:=by
 have jH:∀c∈es,c.length=ei.size:=by simpa using dI
 have pf:Fi l gJ:=by
  cases lo<;>cases gJ
  ·simp[fy]at hl;exact hl.symm
  ·exact me.elim
  ·exact me.elim
  ·exact cT me hl
 obtain⟨km,nm,rfl,wP,Jr⟩:=cT Sg hm
 have hb:∀cap,m≤cap→(Instr.sliceBounds true es.length cap gJ (some hY) (some (.int km nm))).run P w=.ok (l,hh,m) w :=
  fun cap hc=>lC wP Jr hc (cT rD oF) h2 pf h1
 cases hx with
 | slnil =>
  simp at Js;subst Js
  obtain rfl:hh=0:=by omega
  obtain rfl:l=0:=by omega
  have:=hb 0 (Nat.le_refl _)
  simp only[List.length_nil]at this
  exact br.same h (v:=.slice none 0 0) (by simp[Instr.sliceAt,run_underlying hu,Instr.slice,this,sizeOf,aO jy]) (by simpa using VR.slnil)
 | fT a =>
  simp at Js;subst Js
  obtain rfl:hh=0:=by omega
  obtain rfl:l=0:=by omega
  have:=hb 0 (Nat.le_refl _)
  simp only[List.length_nil]at this
  exact br.same h (v:=.slice a 0 0) (by cases a<;>simp[Instr.sliceAt,run_underlying hu,Instr.slice,this,sizeOf,aO jy]) (by simpa using VR.fT a)
 | @sl _ _ r o cap n b6 hk hc hn h3 h4 =>
  have Jt:k≠.nil:=by rintro rfl;exact hk.elim
  simp only[Jt,if_false]
  have hr:(Instr.sliceAt ty (.slice (some ⟨r,o,none⟩) es.length cap) gJ (some hY) (some (.int km nm))).run P w=.ok (.slice (some (if m=l then⟨r,o,none⟩else⟨r,o+l*ei.size,none⟩)) (hh-l) (m-l)) w:=by
   simp[Instr.sliceAt,run_underlying hu,Instr.slice,hb cap (by omega),sizeOf,aO jy,b7]
   split<;>rfl
  by_cases he:l<hh
  ·have jI:m≠l:=by omega
   simp only[jI,if_false]at hr
   have ba:es≠[]:=by rintro rfl;simp at Js;omega
   have qf:n=ei.size:=by
    cases es with
    | nil=>exact absurd rfl ba
    | cons c es=>have a:=hn c (by simp);have b:=jH c (by simp);omega
   subst qf
   simp only[ba,false_and,if_false]
   refine br.same h hr (uR (k:=k) (cap:=cap) (a:=none) b6 hn h3 h4 h1 (by omega) (by omega) ?_)
   split
   ·rename_i e;simp only[jh];omega
   ·trivial
  ·obtain rfl:l=hh:=by omega
   have hd:(es.take l).drop l=[]:=by simp
   rw[hd]
   have uS:∀(a:Addr) (c:Nat) (k':SK),a.spot=none→(k'=.arg∨(k'=.full∧c=0))→VR g w (.sl k' []) (.slice (some a) 0 c):=by
    intro a c k' ha jJ
    obtain⟨ab,ao,as⟩:=a
    simp at ha;subst ha
    refine .sl (n:=0) (fun _ _=>.nilIface) ?_ (by simp) (by simp) (by simp) (by simp)
    rcases jJ with rfl|⟨rfl,rfl⟩
    ·trivial
    ·rfl
   refine br.same h hr ?_
   rw[Nat.sub_self]
   refine uS _ _ _ (by split<;>rfl) ?_
   split
   ·exact .inl rfl
   ·split
    ·exact .inr ⟨rfl,by omega⟩
    ·exact .inl rfl
theorem yu {R:aj}{ty elem:TypeId}{ei:TypeInfo}{b off len l hh:Nat}{lo hi:Option X}{gJ hY:Option Value}{vx:Value}(hu:P.underlying ty=some (.slice elem))(jy:P.info? elem=some ei)
  (h:SR w0 g H w) (hx:VR g w (.aE b off len ei.size) vx) (me:OV g w R lo gJ)
  (rD:OV g w R hi hY) (hl:fy R 0 lo=some l) (oF:fy R len hi=some hh) (h1:l≤hh) (h2:hh≤len) :
  br P w0 g H w (Instr.sliceAt ty vx gJ hY none) (if l=hh then(if l=0 then .aE b off 0 ei.size else .sl .arg [])else .aE b (off+l*ei.size) (hh-l) ei.size) H:=by
 cases hx with
 | @aE _ _ _ _ r o q cap hφ hc hq =>
  have:=dW (P:=P) (w:=w) (g:=g) (yp:=true) (cap:=cap) me rD hl oF (fun _=>rfl) h1 (by omega)
  have hr:(Instr.sliceAt ty (.slice (some ⟨r,o+off,none⟩) len cap) gJ hY none).run P w=.ok (.slice (some (if cap=l then⟨r,o+off,none⟩else⟨r,o+off+l*ei.size,none⟩)) (hh-l) (cap-l)) w:=by
   simp[Instr.sliceAt,run_underlying hu,Instr.slice,this,sizeOf,aO jy,b7]
   split<;>rfl
  refine br.same h hr ?_
  have key:∀a:Addr,a=⟨r,o+(off+l*ei.size),none⟩→(cap≠l∨l=0)→VR g w (.aE b (off+l*ei.size) (hh-l) ei.size) (.slice (some a) (hh-l) (cap-l)):=by
   rintro a rfl jI
   refine .aE hφ (by omega) ?_
   rw[←hq]
   have:l*ei.size+(cap-l)*ei.size=cap*ei.size:=by rw[←Nat.add_mul];congr 1;omega
   omega
  split
  ·rename_i e;subst e
   split
   ·rename_i e;subst e
    have:=key (if cap=0 then⟨r,o+off,none⟩else⟨r,o+off+0*ei.size,none⟩) (by split<;>simp) (.inr rfl)
    simpa using this
   ·rw[Nat.sub_self]
    have uS:∀(a:Addr) (c:Nat),a.spot=none→VR g w (.sl .arg []) (.slice (some a) 0 c):=by
     intro a c ha
     obtain⟨ab,ao,as⟩:=a
     simp at ha;subst ha
     exact .sl (n:=0) (fun _ _=>.nilIface) trivial (by simp) (by simp) (by simp) (by simp)
    exact uS _ _ (by split<;>rfl)
  ·have jI:cap≠l:=by omega
   exact key _ (by rw[if_neg jI,Nat.add_assoc]) (.inl jI)
theorem Cb {R:aj}{ty elem:TypeId}{ei:TypeInfo}{b off len hh:Nat}{hi:X}{hY:Value}{vx:Value}(hu:P.underlying ty=some (.slice elem))(jy:P.info? elem=some ei)
  (h:SR w0 g H w) (hx:VR g w (.aE b off len ei.size) vx)
  (rD:OV g w R (some hi) (some hY)) (oF:bB (hi.ev R)=some hh) (hn:ei.size≠0) (h0:0<hh) (hr:off+hh*ei.size≤ya H b) :
  br P w0 g H w (Instr.sliceAt ty vx none (some hY) none) (.aE b off hh ei.size) H:=by
 cases hx with
 | @aE _ _ _ _ r o q cap hφ hc hq =>
  have tC:o+(off+hh*ei.size)≤q:=by
   unfold ya at hr
   split at hr
   ·rename_i cs hb
    have:=(h.cu _ _ hb r o q hφ).1;omega
   ·rename_i cs hb
    have:=(h.cu _ _ hb r o q hφ).1;omega
   ·have:0<hh*ei.size:=Nat.mul_pos h0 (Nat.pos_of_ne_zero hn)
    omega
  have iD:hh≤cap:=by
   have h1:hh*ei.size≤cap*ei.size:=by omega
   exact Nat.le_of_mul_le_mul_right h1 (Nat.pos_of_ne_zero hn)
  have:=dW (P:=P) (w:=w) (g:=g) (R:=R) (yp:=true) (d:=len) (len:=len) (cap:=cap) (lo:=none) (gJ:=none) (l:=0) trivial rD rfl oF (fun _=>rfl) (Nat.zero_le _) iD
  have hr:(Instr.sliceAt ty (.slice (some ⟨r,o+off,none⟩) len cap) none (some hY) none).run P w=.ok (.slice (some (if cap=0 then⟨r,o+off,none⟩else⟨r,o+off+0*ei.size,none⟩)) (hh-0) (cap-0)) w:=by
   simp[Instr.sliceAt,run_underlying hu,Instr.slice,this,sizeOf,aO jy,b7]
  refine br.same h hr ?_
  have:VR g w (.aE b off hh ei.size) (.slice (some ⟨r,o+off,none⟩) hh cap):=.aE hφ iD hq
  simpa using this
theorem yv {R:aj}{ty elem:TypeId}{ei:TypeInfo}{b off len c l hh:Nat}{lo hi:Option X}{gJ hY:Option Value}{vx:Value}(hu:P.underlying ty=some (.slice elem))(jy:P.info? elem=some ei)
  (h:SR w0 g H w) (hx:VR g w (.cQ b off len ei.size c) vx) (me:OV g w R lo gJ)
  (rD:OV g w R hi hY) (hl:fy R 0 lo=some l) (oF:fy R len hi=some hh) (h1:l≤hh) (h2:hh≤c) :
  br P w0 g H w (Instr.sliceAt ty vx gJ hY none) (if l<c∨l=0 then .cQ b (off+l*ei.size) (hh-l) ei.size (c-l)else .sl .arg []) H:=by
 cases hx with
 | @cQ _ _ _ _ r o q cap hφ hc hq =>
  have:=dW (P:=P) (w:=w) (g:=g) (yp:=true) (cap:=c) me rD hl oF (fun _=>rfl) h1 (by omega)
  have hr:(Instr.sliceAt ty (.slice (some ⟨r,o+off,none⟩) len c) gJ hY none).run P w=.ok (.slice (some (if c=l then⟨r,o+off,none⟩else⟨r,o+off+l*ei.size,none⟩)) (hh-l) (c-l)) w:=by
   simp[Instr.sliceAt,run_underlying hu,Instr.slice,this,sizeOf,aO jy,b7]
   split<;>rfl
  refine br.same h hr ?_
  by_cases h3:l<c∨l=0
  case neg =>
   rw[if_neg h3]
   have e0:hh-l=0:=by omega
   have uS:∀(a:Addr) (c:Nat),a.spot=none→VR g w (.sl .arg []) (.slice (some a) 0 c):=by
    intro a c ha
    obtain⟨ab,ao,as⟩:=a
    simp at ha;subst ha
    exact .sl (n:=0) (fun _ _=>.nilIface) trivial (by simp) (by simp) (by simp) (by simp)
   rw[e0]
   exact uS _ _ (by split<;>rfl)
  rw[if_pos h3]
  have e:(if c=l then(⟨r,o+off,none⟩:Addr)else⟨r,o+off+l*ei.size,none⟩)=⟨r,o+(off+l*ei.size),none⟩:=by
   split
   ·have:l=0:=by omega
    subst this;simp
   ·simp[Nat.add_assoc]
  rw[e]
  refine .cQ hφ (by omega) ?_
  rw[←hq]
  have:l*ei.size+(c-l)*ei.size=c*ei.size:=by rw[←Nat.add_mul];congr 1;omega
  omega
end
section
variable {P:Program} {w0 w:World} {g:Ctx} {H:ae}
def jW (P:Program)(ty:TypeId):KT→Bool
 | .sc t=>match P.underlying ty with|some d=>BA t d|none=>false
 | .st ks=>match P.underlying ty with|some (.struct fs)=>flat P fs.toList 0 ks&&!P.stoodInHeld ty|_=>false
theorem yw {e:Bool}{n:Nat}{ty:TypeId}{d:TypeDesc}{k:rf}{v:Value}(hu:P.underlying ty=some d)(hk:BA k d=true):(Instr.checkKey e (n+1) ty v).run P w=.ok () w:=by
 rw[Instr.checkKey];simp only[Sem.run_bind,run_underlying hu,Result.andThen_ok]
 cases k<;>cases d<;>simp[BA]at hk<;>cases v<;>rfl
theorem kE {e:Bool}{n:Nat}:∀(fs:List Field) (off:Nat) (ks:List rf) (cs:List T) (xs:Array Value),flat P fs off ks=true→cs.length=ks.length →
  (∀(i:Nat) (t:T),cs[i]?=some t→∃v,xs[off+i]?=some v∧VR g w t v) →
  (forIn fs PUnit.unit (fun f _=>if f.name≠"_" then (do let x ← part f.type xs f.offset;Instr.checkKey e (n+1) f.type x;pure (ForInStep.yield PUnit.unit))
   else pure (ForInStep.yield PUnit.unit)):Sem PUnit).run P w=.ok PUnit.unit w
 | [],off,ks,cs,xs,hf,hl,hc=>by simp
 | f :: fs,off,ks,cs,xs,hf,hl,hc=>by
  cases ks with
  | nil=>simp[flat]at hf
  | cons k ks =>
   cases cs with
   | nil=>simp at hl
   | cons c cs =>
    simp only[flat,Bool.and_eq_true,beq_iff_eq,bne_iff_ne]at hf
    obtain⟨⟨⟨wK,yn⟩,BB⟩,dw⟩:=hf
    cases hu:P.underlying f.type with
    | none=>simp[hu]at BB
    | some de =>
     simp[hu]at BB
     obtain⟨va,Jp,LY⟩:=hc 0 c rfl
     simp only[Nat.add_zero]at Jp
     have ih:=kE (e:=e) (n:=n) fs (off+1) ks cs xs dw (by simpa using hl) (fun i t hi=>by have:=hc (i+1) t (by simpa using hi);rwa[show off+1+i=off+(i+1) by omega])
     simp only[List.forIn_cons,Sem.run_bind,yn,ne_eq,not_false_eq_true,if_true,wK,lB hu BB Jp,Result.andThen_ok,yw hu BB,Sem.run_pure]
     exact ih
theorem nv:∀(ks:List rf) (cs:List T),dE ks cs=true→cs.length=ks.length
 | [],[],_=>rfl
 | _ :: ks,_ :: cs,h=>by simp[dE]at h;simp[nv ks cs h.2]
 | [],_ :: _,h=>by simp[dE]at h
 | _ :: _,[],h=>by simp[dE]at h
theorem iE {e:Bool}{ty:TypeId}{kt:KT}{k:T}{vk:Value}(gQ:jW P ty kt=true)(hk:VR g w k vk)(h:k.ga kt=true):(Instr.checkKey e 10000 ty vk).run P w=.ok () w:=by
 cases kt with
 | sc t =>
  simp only[jW]at gQ
  cases hu:P.underlying ty with
  | none=>simp[hu]at gQ
  | some d=>simp[hu]at gQ;exact yw (n:=9999) hu gQ
 | st ks =>
  simp only[jW]at gQ
  cases hu:P.underlying ty with
  | none=>simp[hu]at gQ
  | some d =>
   cases d<;>simp[hu]at gQ
   rename_i fs
   cases k<;>simp[T.ga]at h
   rename_i cs
   obtain⟨xs,rfl,BC,_⟩:=hk.en
   show(Instr.checkKey e (9998+1+1) ty _).run P w=_
   rw[Instr.checkKey];simp only[Sem.run_bind,run_underlying hu,Result.andThen_ok]
   rw[←Array.forIn_toList]
   rw[kE (g:=g) (e:=e) (n:=9998) fs.toList 0 ks cs xs.toArray gQ.1 (nv _ _ h) (fun i t hi=>by simpa using BC.eo i t hi)]
   rfl
theorem yx {n:Nat}{ty:TypeId}{kt:KT}{a b:T}{va vb:Value}{r:Bool}(gQ:jW P ty kt=true)(ha:VR g w a va)(hb:VR g w b vb)(hk:a.ga kt=true)(he:fx a b=some r) :
  (Op.equalIn (n+1+1) ty va vb).run P w=.ok r w:=by
 cases kt with
 | sc t =>
  simp only[jW]at gQ
  cases hu:P.underlying ty with
  | none=>simp[hu]at gQ
  | some d =>
   simp[hu]at gQ
   have D7:fQ a b=some r:=by
    cases a<;>simp[T.ga]at hk<;>(first|exact he|(cases t<;>simp[T.tp]at hk))
   exact uP hu gQ ha hb hk D7
 | st ks =>
  simp only[jW]at gQ
  cases hu:P.underlying ty with
  | none=>simp[hu]at gQ
  | some d =>
   cases d<;>simp[hu]at gQ
   rename_i fs
   cases a<;>simp[T.ga]at hk
   rename_i cs
   cases b<;>simp[fx,fQ]at he
   rename_i ds
   obtain⟨xs,rfl,BC,_⟩:=ha.en
   obtain⟨ys,rfl,IB,_⟩:=hb.en
   exact pc hu gQ.1 (by simpa using gQ.2) hk BC IB he n
theorem tD {t:rf}{d:TypeDesc}{a b:T}{va vb:Value}{r:Bool}(hd:BA t d=true)(ha:VR g w a va)(hb:VR g w b vb)(hk:a.tp t=true)(he:fx a b=some r):Instr.sameNow d va vb=some r:=by
 cases t<;>cases d<;>simp[BA]at hd<;>cases ha<;>simp[T.tp]at hk<;>cases hb<;>simp[fx,fQ]at he
 ·obtain⟨rfl,rfl⟩:=he;simp[Instr.sameNow]
 ·subst he;simp[Instr.sameNow,fS,beq_toListBytes]
 ·subst he;simp[Instr.sameNow]
theorem qh {ty:TypeId}{kt:KT}{k:T}{vk:Value}(gQ:jW P ty kt=true)(hk:VR g w k vk)(h:k.ga kt=true)(es:List (T×T))(al:List MapEntry)(hl:al.length=es.length)
  (hh:∀(i:Nat) (e:T×T) (m:MapEntry),es[i]?=some e→al[i]?=some m→VR g w e.1 m.key∧VR g w e.2 m.val) {r:Option Nat} (hr:cq k es=some r) :
  (Instr.findKey ty vk al).run P w=.ok (r.bind fun i=>(al[i]?).map fun m=>(i,m.val)) w:=by
 cases kt with
 | sc t =>
  simp only[jW]at gQ
  cases hu:P.underlying ty with
  | none=>simp[hu]at gQ
  | some d =>
   simp[hu]at gQ
   have key:∀(es:List (T×T)) (al:List MapEntry) (j:Nat) (r:Option Nat),al.length=es.length→(∀(i:Nat) (e:T×T) (m:MapEntry),es[i]?=some e→al[i]?=some m→VR g w e.1 m.key∧VR g w e.2 m.val) →
     cq k es=some r→Instr.findNow d vk al j=some (r.bind fun i=>(al[i]?).map fun m=>(j+i,m.val)):=by
    intro es
    induction es with
    | nil =>
     intro al j r hl _ hr
     simp[cq]at hr;subst hr
     cases al with
     | nil=>rfl
     | cons _ _=>simp at hl
    | cons e es ih =>
     intro al j r hl hh hr
     cases al with
     | nil=>simp at hl
     | cons m al =>
      have h0:=hh 0 e m rfl rfl
      simp only[cq]at hr
      cases he:fx k e.1 with
      | none=>simp[he]at hr
      | some b =>
       have hs:=tD gQ hk h0.1 h he
       cases b with
       | true=>simp[he]at hr;subst hr;simp[Instr.findNow,hs]
       | false =>
        simp only[he,Option.map_eq_some_iff]at hr
        obtain⟨r',h1,rfl⟩:=hr
        simp only[Instr.findNow,hs]
        rw[ih al (j+1) r' (by simpa using hl) (fun i e' m' a b=>hh (i+1) e' m' (by simpa using a) (by simpa using b)) h1]
        cases r' with
        | none=>rfl
        | some i=>simp;cases al[i]?<;>simp;omega
   have:=key es al 0 r hl hh hr
   simp only[Instr.findKey,Sem.run_bind,run_underlying hu,Result.andThen_ok,this,Sem.run_pure]
   simp
 | st ks =>
  have M8:=gQ
  simp only[jW]at gQ
  cases hu:P.underlying ty with
  | none=>simp[hu]at gQ
  | some d =>
   cases d<;>simp[hu]at gQ
   rename_i fs
   have key:∀(es:List (T×T)) (al:List MapEntry) (j:Nat) (r:Option Nat),al.length=es.length→(∀(i:Nat) (e:T×T) (m:MapEntry),es[i]?=some e→al[i]?=some m→VR g w e.1 m.key∧VR g w e.2 m.val) →
     cq k es=some r→(Instr.findAsking ty vk al j).run P w=.ok (r.bind fun i=>(al[i]?).map fun m=>(j+i,m.val)) w:=by
    intro es
    induction es with
    | nil =>
     intro al j r hl _ hr
     simp[cq]at hr;subst hr
     cases al with
     | nil=>rfl
     | cons _ _=>simp at hl
    | cons e es ih =>
     intro al j r hl hh hr
     cases al with
     | nil=>simp at hl
     | cons m al =>
      have h0:=hh 0 e m rfl rfl
      simp only[cq]at hr
      cases he:fx k e.1 with
      | none=>simp[he]at hr
      | some b =>
       have hs:(Op.equal ty vk m.key).run P w=.ok b w:=yx (n:=9998) M8 hk h0.1 h he
       cases b with
       | true=>simp[he]at hr;subst hr;simp[Instr.findAsking,hs]
       | false =>
        simp only[he,Option.map_eq_some_iff]at hr
        obtain⟨r',h1,rfl⟩:=hr
        simp only[Instr.findAsking,Sem.run_bind,hs,Result.andThen_ok,Bool.false_eq_true,if_false]
        rw[ih al (j+1) r' (by simpa using hl) (fun i e' m' a b=>hh (i+1) e' m' (by simpa using a) (by simpa using b)) h1]
        cases r' with
        | none=>rfl
        | some i=>simp;cases al[i]?<;>simp;omega
   have jJ:=key es al 0 r hl hh hr
   cases al with
   | nil =>
    simp only[Instr.findKey,Sem.run_bind,run_underlying hu,Result.andThen_ok,Instr.findNow,Sem.run_pure]
    exact jJ
   | cons m al =>
    have:Instr.findNow (.struct fs) vk (m :: al) 0=none:=by simp[Instr.findNow,Instr.sameNow]
    simp only[Instr.findKey,Sem.run_bind,run_underlying hu,Result.andThen_ok,this]
    simpa using jJ
def yz (w:World)(vm:Value)(al:Array MapEntry):Prop:=(vm=.map none∧al=#[])∨∃r c,vm=.map (some r)∧w.heap[r]?=some (.map al c)
theorem wQ {m:T}{vm:Value}{es:List (T×T)}(h:SR w0 g H w)(hm:VR g w m vm)(iz:eX H m=some es):∃al,yz w vm al∧cR g w es al:=by
 cases hm<;>simp[eX]at iz
 ·subst iz;exact⟨#[],.inl ⟨rfl,rfl⟩,⟨rfl,by simp⟩⟩
 ·rename_i b r' o q hφ
  cases hb:H[b]? with
  | none=>simp[hb]at iz
  | some y =>
   cases y<;>simp[hb]at iz
   ·subst iz
    obtain⟨_,al,c,h2,h3,_⟩:=h.cu b _ hb r' o q hφ
    exact⟨al,.inr ⟨r',c,rfl,h2⟩,h3⟩
   ·subst iz
    obtain⟨r2,o',q',iw,_,al,c,h2,h3,_⟩:=h.cu b _ hb
    rw[hφ]at iw;cases iw
    exact⟨al,.inr ⟨r',c,rfl,h2⟩,h3⟩
theorem nw {ty key elem:TypeId}{ei:TypeInfo}{zv vm vk:Value}{ok:Bool}{al:Array MapEntry}{r:Option (Nat×Value)}(hu:P.underlying ty=some (.map key elem))(hi:P.info? elem=some ei)(hz:ei.zero=some zv)
  (he:yz w vm al) (hc:(Instr.checkKey al.isEmpty 10000 key vk).run P w=.ok () w) (hf:(Instr.findKey key vk al.toList).run P w=.ok r w) :
  (Instr.lookup ty vm vk ok).run P w=.ok (match r with|some (_,v)=>if ok then .tuple #[v,.bool true]else v|none=>if ok then .tuple #[zv,.bool false]else zv) w:=by
 rcases he with⟨rfl,rfl⟩|⟨rr,c,rfl,h2⟩
 ·have uT:(Instr.findKey key vk []).run P w=.ok r w:=hf
  have eB:(Instr.checkKey true 10000 key vk).run P w=.ok () w:=hc
  simp only[Instr.lookup,Sem.run_bind,run_underlying hu,Result.andThen_ok]
  cases r with
  | none=>simp[eB,uT,zeroValue,aO hi,hz]
  | some x=>obtain⟨i,v⟩:=x;simp[eB,uT]
 ·simp only[Instr.lookup,Sem.run_bind,run_underlying hu,Result.andThen_ok]
  cases r with
  | none=>simp[getObj,Sem.run,h2,hc,hf,zeroValue,aO hi,hz]
  | some x=>obtain⟨i,v⟩:=x;simp[getObj,Sem.run,h2,hc,hf]
theorem uU {ty key elem:TypeId}{ei:TypeInfo}{zv:Value}{kt:KT}{z m k t:T}{ok:Bool}{vm vk:Value}{es:List (T×T)}{r:Option Nat}(hu:P.underlying ty=some (.map key elem))(hi:P.info? elem=some ei)(hz:ei.zero=some zv)(mO:jV zv=some z)
  (gQ:jW P key kt=true) (h:SR w0 g H w) (hm:VR g w m vm) (hk:VR g w k vk) (tE:k.ga kt=true)
  (iz:eX H m=some es) (hr:cq k es=some r)
  (ht:(match r with|some i=>(es[i]?).map fun e=>if ok then T.bE [e.2,.bool true]else e.2|none=>some (if ok then .bE [z,.bool false]else z))=some t):br P w0 g H w (Instr.lookup ty vm vk ok) t H:=by
 obtain⟨al,Ju,hE⟩:=wQ h hm iz
 have hf:=qh gQ hk tE es al.toList (by simpa using hE.1) (fun i e m a b=>hE.2 i e m a (by simpa using b)) hr
 have hc:=iE (e:=al.isEmpty) gQ hk tE
 have QL:VR g w z zv:=ji mO
 cases r with
 | none =>
  simp only[Option.some.injEq]at ht
  subst ht
  refine br.same h (nw hu hi hz Ju hc hf) ?_
  cases ok
  ·exact QL
  ·exact aW.bE (aW.cons QL (aW.cons (.bool _) aW.nil))
 | some i =>
  cases he:es[i]? with
  | none=>simp[he]at ht
  | some e =>
   have au:i<al.size:=by rw[hE.1];exact(List.getElem?_eq_some_iff.1 he).1
   have Cc:al[i]?=some al[i]:=Array.getElem?_eq_getElem au
   have hv:=(hE.2 i e _ he Cc).2
   simp only[he,Option.map_some,Option.some.injEq]at ht
   subst ht
   have hx:((some i:Option Nat).bind fun i=>(al.toList[i]?).map fun m=>(i,m.val))=some (i,al[i].val):=by simp[au]
   rw[hx]at hf
   refine br.same h (nw hu hi hz Ju hc hf) ?_
   cases ok
   ·exact hv
   ·exact aW.bE (aW.cons hv (aW.cons (.bool _) aW.nil))
theorem Cd {vs:List T}{i:Nat}{t:T}{vx:Value}(h:SR w0 g H w)(hx:VR g w (.bE vs) vx)(he:vs[i]?=some t):br P w0 g H w (Instr.extract vx i) t H:=by
 obtain⟨xs,rfl,BC⟩:=hx.BT
 obtain⟨v,h1,h2⟩:=BC.eo i t he
 exact br.same h (by simp at h1;simp[Instr.extract,h1]) h2
theorem Fj {rt:TypeId}{fV:Array TypeId}{k k':IntKind}{a b:Int}{vx vy:Value}(h:SR w0 g H w)(hx:VR g w (.int k a) vx)(hy:VR g w (.int k' b) vy):br P w0 g H w (Builtin.min_ fV rt #[vx,vy]) (.int k (if b<a then b else a)) H:=by
 cases hx;cases hy
 exact br.same h (by simp[Builtin.min_,Builtin.min2]) (.int _ _)
theorem Fk {rt:TypeId}{fV:Array TypeId}{k k':IntKind}{a b:Int}{vx vy:Value}(h:SR w0 g H w)(hx:VR g w (.int k a) vx)(hy:VR g w (.int k' b) vy):br P w0 g H w (Builtin.max_ fV rt #[vx,vy]) (.int k (if b>a then b else a)) H:=by
 cases hx;cases hy
 exact br.same h (by simp[Builtin.max_,Builtin.max2]) (.int _ _)
end
section
variable {P:Program} {w0 w:World} {g:Ctx} {H:ae}
def eY:Nat→Nat→Prop:=fun _ _=>False
def fW:Nat→Prop:=fun _=>False
theorem Tr.drew (w:World):Tr w w.drew eY fW:=⟨Nat.le_refl _,fun _ _ _ _=>rfl,fun _ _ _=>rfl,fun _ _ _ h=>h,fun _ _ _ _ h=>h,fun _ _ _ _=>rfl,fun _ _ h=>bR h,rfl,rfl⟩
theorem Tr.refl (w:World):Tr w w eY fW:=⟨Nat.le_refl _,fun _ _ _ _=>rfl,fun _ _ _=>rfl,fun _ _ _ h=>h,fun _ _ _ _ h=>h,fun _ _ _ _=>rfl,fun _ _ h=>bR h,rfl,rfl⟩
theorem Tr.alloc (w:World)(o:Obj)(ho:dH o=true∨∃c t,o=.cells c t):Tr w (w.alloc o) eY fW where
 size:=by simp
 cell r j hr _:=World.cell?_alloc_lt w o ⟨r,j,none⟩ hr
 ng r j hr:=World.frozen?_alloc_old w o ⟨r,j,none⟩ (Nat.ne_of_lt hr)
 cP r j hr h:=by rw[World.cell?_alloc_lt w o ⟨r,j,none⟩ hr];exact h
 maps r x _ _ h:=by
  have hr:r<w.heap.size:=(Array.getElem?_eq_some_iff.1 h).1
  simp only[World.alloc,Array.getElem?_push];rw[if_neg (by omega)];exact h
 gM r hr _ _:=by simp only[World.alloc,Array.getElem?_push];rw[if_neg (by omega)]
 tu r j hr:=by
  by_cases e:r=w.heap.size
  ·subst e
   have e1:(w.alloc o).heap[w.heap.size]?=some o:=by show(w.heap.push o)[w.heap.size]?=some o;simp
   unfold World.frozen?
   rw[e1]
   rcases ho with ho|⟨c,t,rfl⟩
   ·cases o<;>simp[dH]at ho<;>rfl
   ·simp
  ·rw[World.frozen?_alloc_old w o ⟨r,j,none⟩ e];exact bR hr
 env:=⟨rfl,rfl⟩
theorem Tr.trans {w w' Jm:World}{S:Nat→Nat→Prop}{M:Nat→Prop}(h:Tr w w' S M)(h':Tr w' Jm S M):Tr w Jm S M where
 size:=Nat.le_trans h.size h'.size
 cell r j hr hs:=(h'.cell r j (Nat.lt_of_lt_of_le hr h.size) hs).trans (h.cell r j hr hs)
 ng r j hr:=(h'.ng r j (Nat.lt_of_lt_of_le hr h.size)).trans (h.ng r j hr)
 cP r j hr hs:=h'.cP r j (Nat.lt_of_lt_of_le hr h.size) (h.cP r j hr hs)
 maps r x hm hs h1:=h'.maps r x hm hs (h.maps r x hm hs h1)
 gM r hr hm hs:=(h'.gM r (Nat.lt_of_lt_of_le hr h.size) hm hs).trans (h.gM r hr hm hs)
 tu r j hr:=by
  by_cases hw:r<w'.heap.size
  ·rw[h'.ng r j hw];exact h.tu r j hr
  ·exact h'.tu r j (by omega)
 env:=⟨h'.env.1.trans h.env.1,h'.env.2.trans h.env.2⟩
theorem bS (r:Nat):∀(vs:List Value) (o:Nat) (w:World) (r' j:Nat),¬(r'=r∧o≤j∧j<o+vs.length)→(w.setCells r o vs).cell? ⟨r',j,none⟩=w.cell? ⟨r',j,none⟩
 | [],_,_,_,_,_=>rfl
 | v :: vs,o,w,r',j,h=>by
  rw[World.setCells,bS r vs (o+1) _ r' j (by simp at h ⊢;omega),World.cell?_setCell_other]
  intro e
  simp at e
  exact h ⟨e.1.symm,by omega,by simp;omega⟩
theorem bX (r:Nat):∀(vs:List Value) (o:Nat) (w:World),(∀j,o≤j→j<o+vs.length→(w.cell? ⟨r,j,none⟩).isSome=true)→∀(i:Nat) (v:Value),vs[i]?=some v→(w.setCells r o vs).cell? ⟨r,o+i,none⟩=some v
 | [],_,_,_,i,v,h=>by simp at h
 | u :: vs,o,w,hs,i,v,h=>by
  rw[World.setCells]
  cases i with
  | zero =>
   simp at h;subst h
   rw[bS r vs (o+1) _ r _ (by omega)]
   obtain⟨x,hx⟩:=Option.isSome_iff_exists.1 (hs o (Nat.le_refl _) (by simp))
   exact World.cell?_setCell_same w ⟨r,o,none⟩ u hx
  | succ i =>
   have:=bX r vs (o+1) (w.setCell ⟨r,o,none⟩ u) (fun j h1 h2=>by
    rw[World.cell?_setCell_other _ _ _ _ (by simp;omega)]
    exact hs j (by omega) (by simp;omega)) i v (by simpa using h)
   rwa[show o+(i+1)=o+1+i by omega]
theorem cH (r:Nat):∀(vs:List Value) (o:Nat) (w:World),(w.setCells r o vs).heap.size=w.heap.size
 | [],_,_=>rfl
 | v :: vs,o,w=>by rw[World.setCells,cH r vs,World.size_setCell]
theorem jK (r:Nat):∀(vs:List Value) (o:Nat) (w:World) (r':Nat),r'≠r→(w.setCells r o vs).heap[r']?=w.heap[r']?
 | [],_,_,_,_=>rfl
 | v :: vs,o,w,r',h=>by
  rw[World.setCells,jK r vs _ _ r' h]
  simp only[World.setCell,Array.getElem?_modify];rw[if_neg (fun e=>h e.symm)]
theorem kF (r:Nat):∀(vs:List Value) (o:Nat) (w:World) (r':Nat) (x:Obj),dH x=true→w.heap[r']?=some x→(w.setCells r o vs).heap[r']?=some x
 | [],_,_,_,_,_,h=>h
 | v :: vs,o,w,r',x,hs,h=>by
  rw[World.setCells]
  refine kF r vs _ _ r' x hs ?_
  simp only[World.setCell,Array.getElem?_modify]
  split
  ·rename_i e;rw[h];cases x<;>simp[dH]at hs<;>rfl
  ·exact h
theorem kG (r:Nat):∀(vs:List Value) (o:Nat) (w:World),(w.setCells r o vs).os=w.os∧(w.setCells r o vs).output=w.output
 | [],_,_=>⟨rfl,rfl⟩
 | v :: vs,o,w=>by rw[World.setCells];exact kG r vs _ _
def rE (r o n:Nat):Nat→Nat→Prop:=fun r' j=>r'=r∧o≤j∧j<o+n
theorem Tr.setCells (w:World)(r o:Nat)(vs:List Value)(hs:∀j,o≤j→j<o+vs.length→(w.cell? ⟨r,j,none⟩).isSome=true):Tr w (w.setCells r o vs) (rE r o vs.length) fW where
 size:=by rw[cH];exact Nat.le_refl _
 cell r' j _ h:=bS r vs o w r' j h
 ng r' j _:=World.frozen?_setCells r vs o w _
 cP r' j _ h:=by
  by_cases e:r'=r∧o≤j∧j<o+vs.length
  ·obtain⟨rfl,e1,e2⟩:=e
   have hi:j-o<vs.length:=by omega
   have:=bX r' vs o w hs (j-o) _ (List.getElem?_eq_getElem hi)
   rw[show o+(j-o)=j by omega]at this
   rw[this];rfl
  ·rw[bS r vs o w r' j e];exact h
 maps r' x _ hs h:=kF r vs o w r' x hs h
 gM r' _ _ h:=by
  by_cases e:r'=r
  ·cases vs with
   | nil=>rfl
   | cons v vs=>exact absurd ⟨e,Nat.le_refl _,by simp⟩ (h o)
  ·exact jK r vs o w r' e
 tu r' j hr:=by rw[World.frozen?_setCells];exact bR hr
 env:=kG r vs o w
def Ctx.row (g:Ctx)(r:Nat)(f:Nat→Ow):Ctx:={ g with κ:=fun r' j=>if r'=r then f j else g.κ r' j }
def Ctx.at (g:Ctx)(b:Nat)(x:Nat×Nat×Nat):Ctx:={ g with φ:=fun b'=>if b'=b then some x else g.φ b' }
def Ctx.tok (g:Ctx)(t e:Nat)(x:Nat×Nat×Nat):Ctx:={ g with π:=fun t' e'=>if t'=t∧e'=e then some x else g.π t' e' }
theorem Le.fD {w':World}{g':Ctx}{S:Nat→Nat→Prop}{M:Nat→Prop}(tr:Tr w w' S M)(hφ:∀b x,g.φ b=some x→g'.φ b=some x)(hκ:∀r o,g.κ r o=.gI→g'.κ r o=.gI)(hπ:∀t e x,g.π t e=some x→g'.π t e=some x)
  (hS:∀r j,S r j→g.κ r j≠.gI) (Si:g'.ck=g.ck:=by rfl):Le g w g' w' :=
 ⟨hφ,hκ,hπ,fun r o v hk hc=>by rw[tr.cell r o (gN hc) (fun hs=>hS r o hs hk)];exact hc,Si⟩
theorem SR.gI {c:Array Value}{ty:TypeId}{w1:World}(h:SR w0 g H w)(tr:Tr w w1 eY fW)(hz:w1.heap.size=w.heap.size) :
  Le g w (g.row w.heap.size fun _=>.gI) (w1.alloc (.cells c ty))∧SR w0 (g.row w.heap.size fun _=>.gI) H (w1.alloc (.cells c ty))∧Fr g H (g.row w.heap.size fun _=>.gI) H ∧
  ∀(j:Nat) (v:Value),c[j]?=some v→tt (g.row w.heap.size fun _=>.gI) (w1.alloc (.cells c ty)) w.heap.size j v:=by
 have rF:=tr.trans (Tr.alloc w1 (.cells c ty) (.inr ⟨_,_,rfl⟩))
 have le:Le g w (g.row w.heap.size fun _=>.gI) (w1.alloc (.cells c ty)):=Le.fD rF (fun _ _ h=>h) (fun r o hk=>by simp only[Ctx.row];split;rfl;exact hk) (fun _ _ _ h=>h) (fun _ _ hs=>hs.elim)
 refine⟨le,?_,⟨Nat.le_refl _,fun _ _ a _ b=>⟨a,b⟩⟩,fun j v hj=>⟨by simp[Ctx.row],?_⟩⟩
 ·refine h.step (fun _=>False) rF le (fun _ _ hs=>hs.elim) (fun _ hm=>hm.elim) (fun r o hr=>?_) h.ni h.fe (fun _ _ _=>rfl) (fun r j b _=>?_) (fun _ _ _ _=>rfl) (fun b x hx=>.inl ⟨fun hf=>hf,hx⟩)
  ·simp at hr
   simp only[Ctx.row];rw[if_neg (by omega)];exact h.fresh r o (by omega)
  ·have ba:∀ow,g.κ r j=ow→ow≠.free→r≠w.heap.size:=by rintro ow e hn rfl;exact hn (e▸h.fresh _ j (Nat.le_refl _))
   constructor<;>intro e<;>simp only[Ctx.row]<;>rw[if_neg (ba _ e (by simp))]<;>exact e
 ·rw[←hz,World.cell?_alloc_new];exact hj
theorem SR.mut {c:Array Value}{ty:TypeId}{w1:World}{H':ae}{b:Nat}{cs:List T}(h:SR w0 g H w)(tr:Tr w w1 eY fW)(hz:w1.heap.size=w.heap.size)
  (hb:H'[b]?=some (.cells cs)) (hn:g.φ b=none) (hH:∀b' x,b'≠b→H'[b']?=some x→H[b']?=some x∨x=.dead) (hl:H.length≤H'.length) (aG:∀b' x,H[b']?=some x→(∀e,x≠.tok e)→g.φ b'=none→b'≠b→H'[b']?=some x)
  (hc:∀(i:Nat) (t:T),cs[i]?=some t→t.one=true∧∃v,c[i]?=some v∧VR g w t v) :
  Le g w ((g.row w.heap.size fun _=>.mut b).at b (w.heap.size,0,c.size)) (w1.alloc (.cells c ty))∧SR w0 ((g.row w.heap.size fun _=>.mut b).at b (w.heap.size,0,c.size)) H' (w1.alloc (.cells c ty)) ∧
  (∀b' x,H[b']?=some x→(∀e,x≠.tok e)→g.φ b'=none→b'≠b→H'[b']?=some x∧((g.row w.heap.size fun _=>.mut b).at b (w.heap.size,0,c.size)).φ b'=none):=by
 have rF:=tr.trans (Tr.alloc w1 (.cells c ty) (.inr ⟨_,_,rfl⟩))
 have ba:∀r j ow,g.κ r j=ow→ow≠.free→r≠w.heap.size:=by rintro r j ow e hn rfl;exact hn (e▸h.fresh _ j (Nat.le_refl _))
 have le:Le g w ((g.row w.heap.size fun _=>.mut b).at b (w.heap.size,0,c.size)) (w1.alloc (.cells c ty)):=Le.fD rF
  (fun b' x hx=>by simp only[Ctx.at,Ctx.row];split;rename_i e;subst e;rw[hn]at hx;simp at hx;exact hx)
  (fun r o hk=>by simp only[Ctx.row,Ctx.at];rw[if_neg (ba r o _ hk (by simp))];exact hk) (fun _ _ _ h=>h) (fun _ _ hs=>hs.elim)
 refine⟨le,?_,fun b' x a a' d e=>⟨aG b' x a a' d e,by simp only[Ctx.at,Ctx.row];rw[if_neg e];exact d⟩⟩
 refine h.step (fun b'=>b'=b) rF le (fun _ _ hs=>hs.elim) (fun _ hm=>hm.elim) (fun r o hr=>?_) (fun b' x hx=>?_) (fun t e x hx=>Nat.lt_of_lt_of_le (h.fe t e x hx) hl) (fun b' _ fC=>?_) (fun r j b' fC=>?_) (fun _ _ _ _=>rfl) (fun b' x hx=>?_)
 ·simp at hr
  simp only[Ctx.row,Ctx.at];rw[if_neg (by omega)];exact h.fresh r o (by omega)
 ·simp only[Ctx.at,Ctx.row]at hx
  split at hx
  ·rename_i e;subst e;exact(List.getElem?_eq_some_iff.1 hb).1
  ·exact Nat.lt_of_lt_of_le (h.ni b' x hx) hl
 ·simp only[Ctx.at,Ctx.row];rw[if_neg fC]
 ·constructor<;>intro e<;>simp only[Ctx.row,Ctx.at]<;>rw[if_neg (ba r j _ e (by simp))]<;>exact e
 ·by_cases e:b'=b
  ·subst e
   right
   rw[hb]at hx;cases hx
   intro r o q hq
   simp only[Ctx.at,if_true,Option.some.injEq,Prod.mk.injEq]at hq
   obtain⟨rfl,rfl,rfl⟩:=hq
   have tC:∀i,i<cs.length→i<c.size:=fun i hi=>by
    obtain⟨_,v,hv,_⟩:=hc i _ (List.getElem?_eq_getElem hi)
    exact(Array.getElem?_eq_some_iff.1 hv).1
   refine⟨?_,fun j _ hj=>⟨by simp[Ctx.row,Ctx.at],by rw[←hz];simp,by rw[←hz,World.cell?_alloc_new,Array.getElem?_eq_getElem hj];rfl⟩,fun i t hi=>?_⟩
   ·cases jI:cs.length with
    | zero=>omega
    | succ n=>have:=tC n (by omega);omega
   ·obtain⟨h1,v,h2,h3⟩:=hc i t hi
    exact⟨h1,v,by rw[←hz,World.cell?_alloc_new,Nat.zero_add];exact h2,h3.mono le⟩
  ·rcases hH b' x e hx with gg|rfl
   ·exact .inl ⟨e,gg⟩
   ·right;trivial
theorem dg (H:ae)(x:B):(H++[x])[H.length]?=some x:=by simp
theorem bT {H:ae}{x y:B}{b:Nat}(hb:b≠H.length)(h:(H++[x])[b]?=some y):H[b]?=some y:=by
 rw[List.getElem?_append]at h
 split at h
 ·exact h
 ·rename_i au
  have:b-H.length≠0:=by omega
  cases hk:b-H.length with
  | zero=>omega
  | succ n=>simp[hk]at h
theorem ff {H:ae}{x y:B}{b:Nat}(h:H[b]?=some y):(H++[x])[b]?=some y:=by
 rw[List.getElem?_append_left (List.getElem?_eq_some_iff.1 h).1];exact h
theorem SR.Ce (h:SR w0 g H w){b:Nat}(hb:H.length≤b):g.φ b=none:=by
 cases e:g.φ b with
 | none=>rfl
 | some x=>have:=h.ni b x e;omega
theorem SR.M9 (h:SR w0 g H w){t e:Nat}(hb:H.length≤t):g.π t e=none:=by
 cases e':g.π t e with
 | none=>rfl
 | some x=>have:=h.fe t e x e';omega
theorem SR.fm {c:Array Value}{ty:TypeId}{w1:World}{cs:List T}(h:SR w0 g H w)(tr:Tr w w1 eY fW)(hz:w1.heap.size=w.heap.size)
  (hc:∀(i:Nat) (t:T),cs[i]?=some t→t.one=true∧∃v,c[i]?=some v∧VR g w t v) :
  ∃g',Le g w g' (w1.alloc (.cells c ty))∧SR w0 g' (H++[.cells cs]) (w1.alloc (.cells c ty))∧Fr g H g' (H++[.cells cs])∧g'.φ H.length=some (w.heap.size,0,c.size):=by
 obtain⟨le,sr,fr⟩:=h.mut (H':=H++[.cells cs]) (b:=H.length) (ty:=ty) tr hz (dg _ _) (h.Ce (Nat.le_refl _)) (fun b' x e hx=>.inl (bT e hx)) (by simp) (fun b' x hx _ _ _=>ff hx) hc
 exact⟨_,le,sr,⟨by simp,fun b x a a' d=>fr b x a a' d (by have:=(List.getElem?_eq_some_iff.1 a).1;omega)⟩,by simp[Ctx.at]⟩
theorem aW.Fl {cs:List T}{vs:List Value}(h:aW g w cs vs)(ho:bL cs):∀(i:Nat) (t:T),cs[i]?=some t→t.one=true∧∃v,vs.toArray[i]?=some v∧VR g w t v :=
 fun i t hi=>⟨ho t (List.mem_of_getElem? hi),h.eo i t hi⟩
theorem wR {ty:TypeId}{i:TypeInfo}{zv:Value}{z:List T}(hi:P.info? ty=some i)(hz:i.zero=some zv)(hc:dt zv.cells.toList=some z)(h:SR w0 g H w) :
  br P w0 g H w (Instr.alloc ty true (.tuple #[])) (.ptr H.length 0) (H++[.cells z]):=by
 obtain⟨hv,ho⟩:=cG (g:=g) (w:=w) _ _ hc
 obtain⟨g',le,sr,fr,hφ⟩:=h.fm (c:=zv.cells) (ty:=ty) (w1:=w) (Tr.refl w) rfl (by simpa using hv.Fl ho)
 refine⟨.pointer (some ⟨w.heap.size,0,none⟩),_,g',?_,le,sr,.ptr hφ,fr⟩
 simp[Instr.alloc,zeroValue,aO hi,hz,newVar,newRow]
theorem Cf {ty:TypeId}{x:T}{cs:List T}{vx:Value}(h:SR w0 g H w)(hx:VR g w x vx)(hc:x.cells?=some cs) :
  br P w0 g H w (Instr.box ty vx) (.ptr H.length 0) (H++[.cells cs]):=by
 obtain⟨hv,ho⟩:=gx hx hc
 obtain⟨g',le,sr,fr,hφ⟩:=h.fm (c:=vx.cells) (ty:=ty) (w1:=w) (Tr.refl w) rfl (by simpa using hv.Fl ho)
 refine⟨.pointer (some ⟨w.heap.size,0,none⟩),_,g',?_,le,sr,.ptr hφ,fr⟩
 simp[Instr.box,newVar,newRow]
theorem SR.yA {b:Nat}{H':ae}(h:SR w0 g H w)(hb:H'[b]?=some (.map []))(hn:g.φ b=none)(hH:∀b' x,b'≠b→H'[b']?=some x→H[b']?=some x)(hl:H.length≤H'.length) :
  Le g w ((g.row w.heap.size fun _=>.mut b).at b (w.heap.size,0,0)) (w.alloc (.map #[] 0))∧SR w0 ((g.row w.heap.size fun _=>.mut b).at b (w.heap.size,0,0)) H' (w.alloc (.map #[] 0)):=by
 have rF:=Tr.alloc w (.map #[] 0) (.inl rfl)
 have ba:∀r j ow,g.κ r j=ow→ow≠.free→r≠w.heap.size:=by rintro r j ow e hn rfl;exact hn (e▸h.fresh _ j (Nat.le_refl _))
 have le:Le g w ((g.row w.heap.size fun _=>.mut b).at b (w.heap.size,0,0)) (w.alloc (.map #[] 0)):=Le.fD rF
  (fun b' x hx=>by simp only[Ctx.at,Ctx.row];split;rename_i e;subst e;rw[hn]at hx;simp at hx;exact hx)
  (fun r o hk=>by simp only[Ctx.row,Ctx.at];rw[if_neg (ba r o _ hk (by simp))];exact hk) (fun _ _ _ h=>h) (fun _ _ hs=>hs.elim)
 refine⟨le,?_⟩
 refine h.step (fun b'=>b'=b) rF le (fun _ _ hs=>hs.elim) (fun _ hm=>hm.elim) (fun r o hr=>?_) (fun b' x hx=>?_) (fun t e x hx=>Nat.lt_of_lt_of_le (h.fe t e x hx) hl) (fun b' _ fC=>?_) (fun r j b' fC=>?_) (fun _ _ _ _=>rfl) (fun b' x hx=>?_)
 ·simp at hr
  simp only[Ctx.row,Ctx.at];rw[if_neg (by omega)];exact h.fresh r o (by omega)
 ·simp only[Ctx.at,Ctx.row]at hx
  split at hx
  ·rename_i e;subst e;exact(List.getElem?_eq_some_iff.1 hb).1
  ·exact Nat.lt_of_lt_of_le (h.ni b' x hx) hl
 ·simp only[Ctx.at,Ctx.row];rw[if_neg fC]
 ·constructor<;>intro e<;>simp only[Ctx.row,Ctx.at]<;>rw[if_neg (ba r j _ e (by simp))]<;>exact e
 ·by_cases e:b'=b
  ·subst e
   right
   rw[hb]at hx;cases hx
   intro r o q hq
   simp only[Ctx.at,if_true,Option.some.injEq,Prod.mk.injEq]at hq
   obtain⟨rfl,rfl,rfl⟩:=hq
   exact⟨by simp[Ctx.row,Ctx.at],#[],0,by show(w.heap.push _)[w.heap.size]?=_;simp,⟨rfl,by simp⟩,by simp[dG]⟩
  ·exact .inl ⟨e,hH b' x e hx⟩
theorem Cg {ty:TypeId}(h:SR w0 g H w):br P w0 g H w (Instr.makeMap ty none) (.map H.length) (H++[.map []]):=by
 obtain⟨le,sr⟩:=h.yA (H':=H++[.map []]) (b:=H.length) (dg _ _) (h.Ce (Nat.le_refl _)) (fun b' x e hx=>bT e hx) (by simp)
 refine⟨.map (some w.heap.size),_,_,?_,le,sr,.map (r:=w.heap.size) (o:=0) (q:=0) (by simp[Ctx.at]),by simp,fun b x a _ d=>⟨ff a,?_⟩⟩
 ·simp[Instr.makeMap]
 ·have:=(List.getElem?_eq_some_iff.1 a).1
  simp only[Ctx.at,Ctx.row];rw[if_neg (by omega)];exact d
end
section
variable {P:Program} {w0 w:World} {g:Ctx} {H:ae}
theorem cz {H:ae}{b b':Nat}{x y:B}(au:b<H.length)(h:(H.set b x)[b']?=some y):(b'=b∧y=x)∨(b'≠b∧H[b']?=some y):=by
 rw[List.getElem?_set]at h
 split at h
 ·rename_i e;subst e;simp[au]at h;exact .inl ⟨rfl,h.symm⟩
 ·rename_i e;exact .inr ⟨fun e'=>e e'.symm,h⟩
theorem db {H:ae}{b b':Nat}{x y:B}(h:H[b']?=some y)(ba:b'≠b):(H.set b x)[b']?=some y:=by
 rw[List.getElem?_set,if_neg (fun e=>ba e.symm)];exact h
theorem SR.store {b off r o q:Nat}{cs ts:List T}{vs:List Value}(h:SR w0 g H w)(hb:H[b]?=some (.cells cs))(hφ:g.φ b=some (r,o,q))(hle:off+ts.length≤cs.length)(hv:aW g w ts vs)(ho:bL ts) :
  Le g w g (w.setCells r (o+off) vs)∧SR w0 g (H.set b (.cells (cs.take off++ts++cs.drop (off+ts.length)))) (w.setCells r (o+off) vs):=by
 have jX:b<H.length:=(List.getElem?_eq_some_iff.1 hb).1
 obtain⟨h1,h2,h3⟩:=h.cu b _ hb r o q hφ
 have hl:=hv.1
 have hs:∀j,o+off≤j→j<o+off+vs.length→(w.cell? ⟨r,j,none⟩).isSome=true:=fun j a c=>(h2 j (by omega) (by omega)).2.2
 have tr:=Tr.setCells w r (o+off) vs hs
 have hS:∀r' j,rE r (o+off) vs.length r' j→g.κ r' j=.mut b:=by
  rintro r' j⟨rfl,a,c⟩;exact(h2 j (by omega) (by omega)).1
 have le:Le g w g (w.setCells r (o+off) vs):=Le.fD tr (fun _ _ h=>h) (fun _ _ h=>h) (fun _ _ _ h=>h) (fun r' j gh e=>by rw[hS r' j gh]at e;cases e)
 refine⟨le,h.step (fun b'=>b'=b) tr le (fun r' j gh=>.inr (.inl ⟨b,hS r' j gh,rfl⟩)) (fun _ hm=>hm.elim) (fun r' j hr=>h.fresh r' j (by rwa[cH]at hr)) (fun b' x hx=>by rw[List.length_set];exact h.ni b' x hx)
  (fun t e x hx=>by rw[List.length_set];exact h.fe t e x hx) (fun _ _ _=>rfl) (fun _ _ _ _=>⟨id,id⟩) (fun _ _ _ _=>rfl) (fun b' x hx=>?_)⟩
 rcases cz jX hx with⟨rfl,rfl⟩|⟨ba,gg⟩
 ·right
  intro r' o' q' iw
  rw[hφ]at iw;cases iw
  have hlen:(cs.take off++ts++cs.drop (off+ts.length)).length=cs.length:=by simp;omega
  refine⟨by rw[hlen];exact h1,fun j a c=>⟨(h2 j a c).1,by rw[World.frozen?_setCells];exact(h2 j a c).2.1,tr.cP r j ?_ (h2 j a c).2.2⟩,fun i t hi=>?_⟩
  ·obtain⟨x,hx⟩:=Option.isSome_iff_exists.1 (h2 j a c).2.2;exact gN hx
  ·have jy:i<cs.length:=by rw[←hlen];exact(List.getElem?_eq_some_iff.1 hi).1
   by_cases ib:off≤i∧i<off+ts.length
   ·have ht:ts[i-off]?=some t:=by
     rw[List.append_assoc,List.getElem?_append_right (by simp;omega),List.getElem?_append_left (by simp;omega)]at hi
     rw[←hi];congr 1;simp;omega
    have au:i-off<vs.length:=by omega
    refine⟨ho t (List.mem_of_getElem? ht),vs[i-off],?_,(hv.2 _ t _ ht (List.getElem?_eq_getElem au)).mono le⟩
    have:=bX r vs (o+off) w hs (i-off) _ (List.getElem?_eq_getElem au)
    rwa[show o+off+(i-off)=o+i by omega]at this
   ·have ht:cs[i]?=some t:=by
     by_cases au:i<off
     ·rw[List.append_assoc,List.getElem?_append_left (by simp;omega),List.getElem?_take,if_pos au]at hi;exact hi
     ·rw[List.getElem?_append_right (by simp;omega),List.getElem?_drop]at hi
      rw[←hi];congr 1;simp;omega
    obtain⟨a,v,Fm,Fo⟩:=h3 i t ht
    refine⟨a,v,?_,Fo.mono le⟩
    rw[bS r vs (o+off) w r (o+i) (by omega)];exact Fm
 ·exact .inl ⟨ba,gg⟩
theorem qi {ty:TypeId}{i:TypeInfo}{v:Value}{r o:Nat}(hi:P.info? ty=some i)(bn:v.cells.size=i.size)(hc:∀j,j<v.cells.toList.length→(w.cell? ⟨r,o+j,none⟩).isSome=true)
  (hf:∀j,j<v.cells.toList.length→w.frozen? ⟨r,o+j,none⟩=false) (h1:∀x∈v.cells.toList,x.oneCell'=true) :
  (storeVar ty ⟨r,o,none⟩ v).run P w=.ok () (w.setCells r o v.cells.toList):=by
 have:=run_storeCells_cells (P:=P) r o v.cells.toList 0 w (by simpa using hc) (by simpa using hf) h1
 simp[storeVar,sizeOf,aO hi,bn]
 simpa using this
theorem Fp {ty:TypeId}{i:TypeInfo}{p x:T}{vp vx:Value}{ts:List T}{H':ae}(hi:P.info? ty=some i)(h:SR w0 g H w)(hp:VR g w p vp)(hx:VR g w x vx)(hc:x.cells?=some ts)(hn:ts.length=i.size)(he:Ji H ts p=some H') :
  ∃w' g',(Instr.storeAt ty vp vx).run P w=.ok () w'∧Le g w g' w'∧SR w0 g' H' w'∧Fr g H g' H':=by
 obtain⟨hv,ho⟩:=gx hx hc
 cases hp<;>simp only[Ji]at he<;>(try (simp at he;done))
 rename_i b off r o q hφ
 cases hb:H[b]? with
 | none=>simp[hb]at he
 | some y =>
  cases y<;>simp only[hb]at he<;>(try (simp at he;done))
  rename_i cs
  split at he
  ·rename_i hle
   simp only[Option.some.injEq]at he;subst he
   have jX:b<H.length:=(List.getElem?_eq_some_iff.1 hb).1
   obtain⟨h1,h2,h3⟩:=h.cu b _ hb r o q hφ
   obtain⟨le,sr⟩:=h.store hb hφ hle hv ho
   have hl:=hv.1
   refine⟨_,g,?_,le,sr,by simp,fun b' y' a _ d=>⟨db a ?_,d⟩⟩
   ·have:=qi (P:=P) (w:=w) (ty:=ty) (r:=r) (o:=o+off) hi (v:=vx) (by rw[←hn,hl];simp) (fun j hj=>(h2 _ (by omega) (by omega)).2.2) (fun j hj=>(h2 _ (by omega) (by omega)).2.1) (hv.fU ho)
    simpa[Instr.storeAt,Instr.sureAddr]using this
   ·rintro rfl;rw[hφ]at d;cases d
  ·simp at he
def World.bw (w:World)(r:Nat)(o:Obj):World:={ w with heap:=w.heap.setIfInBounds r o }
theorem ny (w:World){r r':Nat}(o:Obj)(h:r'≠r):(World.bw w r o).heap[r']?=w.heap[r']?:=by
 unfold World.bw;simp only[Array.getElem?_setIfInBounds];rw[if_neg (fun e=>h e.symm)]
theorem nA (w:World){r:Nat}(o:Obj)(h:r<w.heap.size):(World.bw w r o).heap[r]?=some o:=by
 unfold World.bw;simp[h]
theorem rG (w:World){r:Nat}{x x':Obj}(hs:dH x=true)(gh:dH x'=true)(h:w.heap[r]?=some x)(a:Addr):(World.bw w r x').cell? a=w.cell? a:=by
 have au:r<w.heap.size:=(Array.getElem?_eq_some_iff.1 h).1
 unfold World.cell?
 by_cases e:a.block=r
 ·rw[e,nA w _ au,h]
  cases x<;>simp[dH]at hs<;>cases x'<;>simp[dH]at gh<;>rfl
 ·rw[ny w _ e]
theorem nB (w:World){r:Nat}{x x':Obj}(hs:dH x=true)(gh:dH x'=true)(h:w.heap[r]?=some x)(a:Addr):(World.bw w r x').frozen? a=w.frozen? a:=by
 have au:r<w.heap.size:=(Array.getElem?_eq_some_iff.1 h).1
 unfold World.frozen?
 by_cases e:a.block=r
 ·rw[e,nA w _ au,h]
  cases x<;>simp[dH]at hs<;>cases x'<;>simp[dH]at gh<;>rfl
 ·rw[ny w _ e]
theorem Tr.tF (w:World)(r:Nat){x x':Obj}(hs:dH x=true)(gh:dH x'=true)(h:w.heap[r]?=some x):Tr w (World.bw w r x') eY (fun r'=>r'=r) where
 size:=by simp[World.bw]
 cell r' j _ _:=rG w hs gh h _
 ng r' j _:=nB w hs gh h _
 cP r' j _ hk:=by rw[rG w hs gh h];exact hk
 maps r' x hm _ hk:=by rw[ny w _ hm];exact hk
 gM r' _ hm _:=ny w _ hm
 tu r' j hr:=by rw[nB w hs gh h];exact bR hr
 env:=⟨rfl,rfl⟩
theorem SR.qj {b r o q:Nat}{es Jv:List (T×T)}{al nC:Array MapEntry}{c c':Nat}(h:SR w0 g H w)(hb:H[b]?=some (.map es))(hφ:g.φ b=some (r,o,q))(hr:w.heap[r]?=some (.map al c))(hE:cR g w Jv nC)(hB:dG nC c') :
  Le g w g (World.bw w r (.map nC c'))∧SR w0 g (H.set b (.map Jv)) (World.bw w r (.map nC c'))∧Fr g H g (H.set b (.map Jv)):=by
 have jX:b<H.length:=(List.getElem?_eq_some_iff.1 hb).1
 obtain⟨h1,_⟩:=h.cu b _ hb r o q hφ
 have tr:=Tr.tF w r (x:=.map al c) (x':=.map nC c') rfl rfl hr
 have le:Le g w g (World.bw w r (.map nC c')):=Le.fD tr (fun _ _ h=>h) (fun _ _ h=>h) (fun _ _ _ h=>h) (fun _ _ hs=>hs.elim)
 refine⟨le,h.step (fun b'=>b'=b) tr le (fun _ _ hs=>hs.elim) (fun r' hm=>⟨b,by rw[hm];exact h1,rfl⟩) (fun r' j kj=>h.fresh r' j (by simpa[World.bw]using kj)) (fun b' x hx=>by rw[List.length_set];exact h.ni b' x hx)
  (fun t e x hx=>by rw[List.length_set];exact h.fe t e x hx) (fun _ _ _=>rfl) (fun _ _ _ _=>⟨id,id⟩) (fun _ _ _ _=>rfl) (fun b' x hx=>?_),by simp,fun b' x a _ d=>⟨db a (by rintro rfl;rw[hφ]at d;cases d),d⟩⟩
 rcases cz jX hx with⟨rfl,rfl⟩|⟨ba,gg⟩
 ·right
  intro r' o' q' iw
  rw[hφ]at iw;cases iw
  refine⟨h1,nC,c',?_,hE.mono le,hB⟩
  have au:r<w.heap.size:=(Array.getElem?_eq_some_iff.1 hr).1
  simp[World.bw,au]
 ·exact .inl ⟨ba,gg⟩
theorem lD {n:Nat}{a b:T}{va vb:Value}(ha:VR g w a va)(hb:VR g w b vb)(he:fQ a b=some true):Instr.sameBits n va vb=true:=by
 cases ha<;>cases hb<;>simp[fQ]at he
 ·obtain⟨rfl,rfl⟩:=he;cases n<;>simp[Instr.sameBits]
 ·subst he;cases n<;>simp[Instr.sameBits]
 ·rename_i s1 s2
  have e:(s1==s2)=true:=by rw[beq_toListBytes];exact he
  cases n<;>exact e
theorem kH {n:Nat}:∀(as bs:List T) (xs ys:List Value),aW g w as xs→aW g w bs ys→bf as bs=some true→xs.length=ys.length∧(xs.zip ys).all (fun (x,y)=>Instr.sameBits n x y)=true
 | [],[],xs,ys,hx,hy,_=>by
  have a:=hx.1;have b:=hy.1
  simp at a b
  have e1:xs=[]:=List.eq_nil_of_length_eq_zero (by omega)
  have e2:ys=[]:=List.eq_nil_of_length_eq_zero (by omega)
  subst e1;subst e2;simp
 | a :: as,b :: bs,xs,ys,hx,hy,he=>by
  cases xs with
  | nil=>have:=hx.1;simp at this
  | cons x xs =>
   cases ys with
   | nil=>have:=hy.1;simp at this
   | cons y ys =>
    simp only[bf]at he
    cases e1:fQ a b with
    | none=>simp[e1]at he
    | some r1 =>
     cases e2:bf as bs with
     | none=>simp[e1,e2]at he
     | some r2 =>
      simp[e1,e2]at he
      obtain⟨rfl,rfl⟩:=he
      obtain⟨h1,h2⟩:=kH as bs xs ys hx.tail hy.tail e2
      exact⟨by simp[h1],by simp[lD hx.head hy.head e1];simpa using h2⟩
 | [],_ :: _,_,_,_,_,he=>by simp[bf]at he
 | _ :: _,[],_,_,_,_,he=>by simp[bf]at he
theorem nD {a b:T}{va vb:Value}(ha:VR g w a va)(hb:VR g w b vb)(he:fx a b=some true):Instr.sameBits 10000 va vb=true:=by
 by_cases h:∃as bs,a=.agg as∧b=.agg bs
 ·obtain⟨as,bs,rfl,rfl⟩:=h
  obtain⟨xs,rfl,hx,_⟩:=ha.en
  obtain⟨ys,rfl,hy,_⟩:=hb.en
  obtain⟨h1,h2⟩:=kH (n:=9999) as bs xs ys hx hy he
  show Instr.sameBits (9999+1) _ _=true
  rw[Instr.sameBits]
  simp[h1]
  simpa using h2
 ·have:fQ a b=some true:=by
   cases a<;>first|exact he|(cases b<;>first|exact he|exact absurd ⟨_,_,rfl,rfl⟩ h)
  exact lD ha hb this
theorem nE:∀(k:T) (es:List (T×T)) (i:Nat),cq k es=some (some i)→∃e,es[i]?=some e∧fx k e.1=some true
 | k,[],i,h=>by simp[cq]at h
 | k,e :: es,i,h=>by
  simp only[cq]at h
  cases hk:fx k e.1 with
  | none=>simp[hk]at h
  | some b =>
   cases b with
   | true=>simp[hk]at h;subst h;exact⟨e,rfl,hk⟩
   | false =>
    simp only[hk,Option.map_eq_some_iff]at h
    obtain⟨r,h1,h2⟩:=h
    cases r with
    | none=>simp at h2
    | some j =>
     simp at h2;subst h2
     obtain⟨e',h3,h4⟩:=nE k es j h1
     exact⟨e',by simpa using h3,h4⟩
theorem cR.set {es:List (T×T)}{al:Array MapEntry}(h:cR g w es al){k v:T}{vk vv:Value}(hk:VR g w k vk)(hv:VR g w v vv)(i:Nat) :
  cR g w (es.set i (k,v)) (al.modify i fun e=>{ e with key:=vk,val:=vv }):=by
 refine⟨by simp[h.1],fun j e m a b=>?_⟩
 rw[List.getElem?_set]at a
 rw[Array.getElem?_modify]at b
 split at a
 ·rename_i e'
  rw[if_pos e']at b
  subst e'
  split at a
  ·simp at a b
   obtain⟨m',_,rfl⟩:=b
   subst a
   exact⟨hk,hv⟩
  ·cases a
 ·rename_i e'
  rw[if_neg e']at b
  exact h.2 j e m a b
theorem cR.push {es:List (T×T)}{al:Array MapEntry}(h:cR g w es al){k v:T}{vk vv:Value}(hk:VR g w k vk)(hv:VR g w v vv)(c:Nat) :
  cR g w (es++[(k,v)]) (al.push { key:=vk,val:=vv,born:=c }):=by
 refine⟨by simp[h.1],fun j e m a b=>?_⟩
 rw[Array.getElem?_push,h.1]at b
 rw[List.getElem?_append]at a
 split at b
 ·rename_i e'
  subst e'
  simp at a b
  subst a;subst b
  exact⟨hk,hv⟩
 ·rename_i e'
  split at a
  ·exact h.2 j e m a b
  ·have:j<al.size:=(Array.getElem?_eq_some_iff.1 b).1
   rw[h.1]at this;omega
theorem cR.erase {es:List (T×T)}{al:Array MapEntry}(h:cR g w es al)(i:Nat)(hi:i<es.length):cR g w (es.eraseIdx i) (al.eraseIdxIfInBounds i):=by
 have bn:i<al.size:=by rw[h.1];exact hi
 have e1:(al.eraseIdxIfInBounds i).toList=al.toList.eraseIdx i:=by simp[Array.eraseIdxIfInBounds,bn]
 refine⟨by rw[←Array.length_toList,e1,List.length_eraseIdx,List.length_eraseIdx,if_pos hi,Array.length_toList,if_pos bn,h.1],fun j e m a b=>?_⟩
 have b':(al.toList.eraseIdx i)[j]?=some m:=by rw[←e1,Array.getElem?_toList];exact b
 rw[List.getElem?_eraseIdx]at a b'
 split at a
 ·rename_i au;rw[if_pos au]at b';exact h.2 j e m a (by simpa using b')
 ·rename_i au;rw[if_neg au]at b';exact h.2 _ e m a (by simpa using b')
theorem dG.set {al:Array MapEntry}{c:Nat}(h:dG al c)(k v:Value)(i:Nat):dG (al.modify i fun e=>{ e with key:=k,val:=v }) c:=by
 have e:(al.modify i fun e=>{ e with key:=k,val:=v }).toList.map (·.born)=al.toList.map (·.born):=by
  apply List.ext_getElem?
  intro j
  simp only[List.getElem?_map,Array.getElem?_toList,Array.getElem?_modify]
  split
  ·cases al[j]?<;>rfl
  ·rfl
 refine⟨fun m hm=>?_,by rw[e];exact h.2⟩
 have:=List.mem_map_of_mem (f:=fun m:MapEntry=>m.born) hm
 rw[e]at this
 obtain⟨m',h1,h2⟩:=List.mem_map.1 this
 rw[←h2];exact h.1 m' h1
theorem dG.push {al:Array MapEntry}{c:Nat}(h:dG al c)(k v:Value):dG (al.push { key:=k,val:=v,born:=c }) (c+1):=by
 refine⟨fun m hm=>?_,?_⟩
 ·rw[Array.toList_push,List.mem_append]at hm
  rcases hm with hm|hm
  ·exact Nat.lt_succ_of_lt (h.1 m hm)
  ·simp at hm;subst hm;exact Nat.lt_succ_self _
 ·rw[Array.toList_push,List.map_append,List.nodup_append]
  refine⟨h.2,by simp,fun a ha b hb=>?_⟩
  simp at hb
  subst hb
  obtain⟨m,hm,rfl⟩:=List.mem_map.1 ha
  exact Nat.ne_of_lt (h.1 m hm)
theorem dG.erase {al:Array MapEntry}{c:Nat}(h:dG al c)(i:Nat):dG (al.eraseIdxIfInBounds i) c:=by
 by_cases bn:i<al.size
 ·have e1:(al.eraseIdxIfInBounds i).toList=al.toList.eraseIdx i:=by simp[Array.eraseIdxIfInBounds,bn]
  exact⟨fun m hm=>h.1 m (by rw[e1]at hm;exact(List.eraseIdx_sublist _ _).subset hm),by rw[e1];exact h.2.sublist ((List.eraseIdx_sublist _ _).map _)⟩
 ·have e1:al.eraseIdxIfInBounds i=al:=by simp[Array.eraseIdxIfInBounds,bn]
  rw[e1];exact h
theorem Ch {ty key elem:TypeId}{kt:KT}{b:Nat}{k v:T}{vm vk vv:Value}{es:List (T×T)}{r:Option Nat}(hu:P.underlying ty=some (.map key elem))(gQ:jW P key kt=true)
  (h:SR w0 g H w) (hm:VR g w (.map b) vm) (hk:VR g w k vk) (hv:VR g w v vv) (tE:k.ga kt=true) (hb:H[b]?=some (.map es)) (hr:cq k es=some r) :
  ∃w' g',(Instr.mapUpdate ty vm vk vv).run P w=.ok () w'∧Le g w g' w'∧SR w0 g' (H.set b (.map (match r with|some i=>es.set i (k,v)|none=>es++[(k,v)]))) w'∧Fr g H g' (H.set b (.map (match r with|some i=>es.set i (k,v)|none=>es++[(k,v)]))):=by
 cases hm with
 | @map _ rr o q hφ =>
  obtain⟨h1,al,c,h2,hE,hB⟩:=h.cu b _ hb rr o q hφ
  have hf:=qh gQ hk tE es al.toList (by simpa using hE.1) (fun i e m a b=>hE.2 i e m a (by simpa using b)) hr
  have hc:=iE (P:=P) (w:=w) (e:=false) gQ hk tE
  cases r with
  | none =>
   obtain⟨le,sr,fr⟩:=h.qj (c':=c+1) hb hφ h2 (hE.push hk hv c) (hB.push _ _)
   refine⟨_,g,?_,le,sr,fr⟩
   simp at hf
   simp[Instr.mapUpdate,run_underlying hu,getObj,setObj,Sem.run,h2,hc,hf,World.bw]
  | some i =>
   obtain⟨e,he,D8⟩:=nE k es i hr
   have au:i<al.size:=by rw[hE.1];exact(List.getElem?_eq_some_iff.1 he).1
   have Cc:al[i]?=some al[i]:=Array.getElem?_eq_getElem au
   have cd:=(hE.2 i e _ he Cc).1
   have L0:=nD hk cd D8
   have Na:Instr.sameBits 10000 al[i].key vk=true:=by
    have:fx e.1 k=some true∨True:=.inr trivial
    by_cases h':∃as bs,k=.agg as∧e.1=.agg bs
    ·obtain⟨as,bs,rfl,e2⟩:=h'
     have Sj:∀(as bs:List T),bf as bs=some true→bf bs as=some true:=by
      intro as
      induction as with
      | nil=>intro bs rh;cases bs<;>simp[bf]at rh ⊢
      | cons a as ih =>
       intro bs rh
       cases bs with
       | nil=>simp[bf]at rh
       | cons b bs =>
        simp only[bf]at rh ⊢
        cases e1:fQ a b with
        | none=>simp[e1]at rh
        | some r1 =>
         cases e2:bf as bs with
         | none=>simp[e1,e2]at rh
         | some r2 =>
          simp[e1,e2]at rh
          obtain⟨rfl,rfl⟩:=rh
          have:fQ b a=some true:=by
           cases a<;>cases b<;>simp[fQ,fS]at e1 ⊢
           ·exact⟨e1.1.symm,e1.2.symm⟩
           ·exact e1.symm
           ·exact e1.symm
          simp[this,ih bs e2]
     rw[e2]at cd D8
     exact nD cd hk (Sj _ _ D8)
    ·have e1:fQ k e.1=some true:=by
      generalize e.1=d at *
      cases k<;>first|exact D8|(cases d<;>first|exact D8|exact absurd ⟨_,_,rfl,rfl⟩ h')
     have e2:fQ e.1 k=some true:=by
      generalize e.1=d at *
      cases k<;>cases d<;>simp[fQ,fS]at e1 ⊢
      ·exact⟨e1.1.symm,e1.2.symm⟩
      ·exact e1.symm
      ·exact e1.symm
     exact lD cd hk e2
   obtain⟨le,sr,fr⟩:=h.qj (c':=c) hb hφ h2 (hE.set hk hv i) (hB.set _ _ i)
   refine⟨_,g,?_,le,sr,fr⟩
   have hx:((some i:Option Nat).bind fun i=>(al.toList[i]?).map fun m=>(i,m.val))=some (i,al[i].val):=by simp[au]
   rw[hx]at hf
   have L1:(Instr.keyThatStays al[i].key vk).run P w=.ok vk w:=by simp[Instr.keyThatStays,Na]
   simp[Instr.mapUpdate,run_underlying hu,getObj,setObj,Sem.run,h2,hc,hf,au,L1,World.bw]
theorem Ci {ty key elem xt rt:TypeId}{kt:KT}{b:Nat}{k:T}{vm vk:Value}{es:List (T×T)}{r:Option Nat}(hu:P.underlying ty=some (.map key elem))(gQ:jW P key kt=true)
  (h:SR w0 g H w) (hm:VR g w (.map b) vm) (hk:VR g w k vk) (tE:k.ga kt=true) (hb:H[b]?=some (.map es)) (hr:cq k es=some r) :
  br P w0 g H w (Builtin.delete_ #[ty,xt] rt #[vm,vk]) (.bE []) (match r with|some i=>H.set b (.map (es.eraseIdx i))|none=>H):=by
 cases hm with
 | @map _ rr o q hφ =>
  obtain⟨h1,al,c,h2,hE,hB⟩:=h.cu b _ hb rr o q hφ
  have hf:=qh gQ hk tE es al.toList (by simpa using hE.1) (fun i e m a b=>hE.2 i e m a (by simpa using b)) hr
  have hc:=iE (P:=P) (w:=w) (e:=al.isEmpty) gQ hk tE
  cases r with
  | none =>
   obtain⟨le,sr,fr⟩:=h.qj (c':=c) hb hφ h2 hE hB
   have hH:H.set b (.map es)=H:=by
    apply List.ext_getElem?
    intro j
    rw[List.getElem?_set]
    split
    ·rename_i e;subst e;rw[if_pos (List.getElem?_eq_some_iff.1 hb).1,hb]
    ·rfl
   rw[hH]at sr fr
   refine⟨.tuple #[],_,g,?_,le,sr,.bE rfl (by simp),fr⟩
   simp at hf
   simp[Builtin.delete_,run_underlying hu,getObj,setObj,Sem.run,h2,hc,hf,World.bw]
  | some i =>
   obtain⟨e,he,D8⟩:=nE k es i hr
   have QM:i<es.length:=(List.getElem?_eq_some_iff.1 he).1
   have au:i<al.size:=by rw[hE.1];exact QM
   obtain⟨le,sr,fr⟩:=h.qj (c':=c) hb hφ h2 (hE.erase i QM) (hB.erase i)
   refine⟨.tuple #[],_,g,?_,le,sr,.bE rfl (by simp),fr⟩
   have hx:((some i:Option Nat).bind fun i=>(al.toList[i]?).map fun m=>(i,m.val))=some (i,al[i].val):=by simp[au]
   rw[hx]at hf
   simp[Builtin.delete_,run_underlying hu,getObj,setObj,Sem.run,h2,hc,hf,World.bw]
end
section
variable {P:Program} {w0 w:World} {g:Ctx} {H:ae}
theorem iG {n:Nat}:∀(es:List (List T)),(∀c∈es,c.length=n)→∀(i j:Nat) (c:List T) (t:T),es[i]?=some c→c[j]?=some t→es.flatten[i*n+j]?=some t
 | [],_,i,j,c,t,h,_=>by simp at h
 | d :: es,hn,i,j,c,t,h,hj=>by
  have hd:=hn d (by simp)
  cases i with
  | zero =>
   simp at h;subst h
   have au:j<d.length:=(List.getElem?_eq_some_iff.1 hj).1
   simp only[List.flatten_cons,Nat.zero_mul,Nat.zero_add]
   rw[List.getElem?_append_left au];exact hj
  | succ i =>
   have ih:=iG es (fun c hc=>hn c (by simp[hc])) i j c t (by simpa using h) hj
   simp only[List.flatten_cons]
   rw[List.getElem?_append_right (by rw[hd,Nat.succ_mul];omega)]
   rw[show(i+1)*n+j-d.length=i*n+j by rw[hd,Nat.succ_mul];omega];exact ih
theorem eC {n:Nat}(es:List (List T))(hn:∀c∈es,c.length=n):es.flatten.length=es.length*n:=by
 induction es with
 | nil=>simp
 | cons d es ih=>simp only[List.flatten_cons,List.length_append,List.length_cons,Nat.succ_mul,hn d (by simp),ih (fun c hc=>hn c (by simp[hc]))];omega
theorem VR.qk {k:SK}{es:List (List T)}{r o cap n:Nat}{vs:List Value}(hn:∀c∈es,c.length=n)(hv:aW g w es.flatten vs)(ho:bL es.flatten)(hc:es.length≤cap)(hk:jh g k r o es.length cap n)
  (hi:∀(j:Nat) (v:Value),vs[j]?=some v→tt g w r (o+j) v):VR g w (.sl k es) (.slice (some ⟨r,o,none⟩) es.length cap):=by
 have key:∀(i j:Nat) (c:List T) (t:T),es[i]?=some c→c[j]?=some t→es.flatten[i*n+j]?=some t∧vs[i*n+j]?=some (vs.getD (i*n+j) undef):=by
  intro i j c t a b
  have h1:=iG es hn i j c t a b
  have au:i*n+j<vs.length:=by rw[←hv.1];exact(List.getElem?_eq_some_iff.1 h1).1
  exact⟨h1,by rw[List.getElem?_eq_getElem au,List.getD_eq_getElem?_getD,List.getElem?_eq_getElem au,Option.getD_some]⟩
 refine .sl (n:=n) (fun i j=>vs.getD (i*n+j) undef) hk hc hn (fun i j c t a b=>?_) (fun i j c t a b=>?_)
 ·obtain⟨h1,h2⟩:=key i j c t a b
  exact⟨ho t (List.mem_of_getElem? h1),by rw[Nat.add_assoc];exact hi _ _ h2⟩
 ·obtain⟨h1,h2⟩:=key i j c t a b
  exact hv.2 _ t _ h1 h2
theorem kJ (es:List (List T)):(es.map (·.map T.erase)).flatten=es.flatten.map T.erase:=by
 induction es with
 | nil=>rfl
 | cons c es ih=>simp only[List.map_cons,List.flatten_cons,List.map_append,ih]
theorem aW.erase {ts:List T}{vs:List Value}(h:aW g w ts vs):aW g w (ts.map T.erase) vs :=
 ⟨by simp[h.1],fun i t v a b=>by
  rw[List.getElem?_map]at a
  obtain⟨t',h1,rfl⟩:=Option.map_eq_some_iff.1 a
  exact(h.2 i t' v h1 b).erase⟩
theorem nG {ts:List T}(h:bL ts):bL (ts.map T.erase):=by
 intro t ht
 obtain⟨t',h1,rfl⟩:=List.mem_map.1 ht
 rw[wG];exact h t' h1
theorem Fq {n:Nat}{y:T}{vy:Value}{new:List (List T)}(h:SR w0 g H w)(hy:VR g w y vy)(he:aP H n y=some new) :
  ∃vs:List Value,(Builtin.lenOf vy).run P w=.ok new.length w∧(Builtin.firstCells n new.length vy).run P w=.ok vs.toArray w∧aW g w new.flatten vs∧bL new.flatten∧(∀c∈new,c.length=n)∧vs.length=new.length*n:=by
 by_cases hs:∃s,y=.str s
 ·obtain⟨s,rfl⟩:=hs
  cases hy
  simp only[aP]at he
  split at he
  ·rename_i hn
   subst hn
   simp at he
   have hlen:new.length=s.size:=by rw[←he,List.length_map];exact Array.length_toList
   have mN:new.flatten=s.data.toList.map fun c=>T.int .u8 c.toNat:=by
    rw[←he]
    generalize s.data.toList=l
    induction l with
    | nil=>rfl
    | cons c l ih=>simp only[List.map_cons,List.flatten_cons,ih];rfl
   have hex:s.extract 0 s.size=s:=by simp
   refine⟨s.data.toList.map fun c=>.int .u8 c.toNat,by simp[Builtin.lenOf,hlen],?_,?_,?_,?_,?_⟩
   ·rw[hlen]
    simp only[Builtin.firstCells,hex,Sem.run_pure]
    congr 1
    apply Array.ext';simp
   ·rw[mN]
    refine⟨by simp,fun i t v a b=>?_⟩
    rw[List.getElem?_map]at a b
    obtain⟨c,h1,rfl⟩:=Option.map_eq_some_iff.1 a
    rw[h1]at b;simp at b;subst b
    exact .int _ _
   ·rw[mN];intro t ht
    obtain⟨c,_,rfl⟩:=List.mem_map.1 ht;rfl
   ·rw[←he];intro c hc
    obtain⟨_,_,rfl⟩:=List.mem_map.1 hc;rfl
   ·rw[hlen,List.length_map,Nat.mul_one];exact Array.length_toList
  ·simp at he
 ·obtain⟨a,cap,vs,rfl,_,h1,h2,h3,h4,h5,h6⟩:=kD h hy he (fun s e=>hs ⟨s,e⟩)
  refine⟨vs,by simp[Builtin.lenOf],?_,h3,h5,h6,h4⟩
  cases a with
  | none =>
   have:=(h1 rfl).1
   subst this
   simp at h4
   simp[Builtin.firstCells,h4]
  | some a =>
   obtain⟨_,h7⟩:=h2 a rfl
   have:=run_loadCells_list (P:=P) w a vs h7
   rw[h4]at this
   simpa[Builtin.firstCells]using this
theorem uV (gL:Nat):∀(k c:Nat),c≤gL+(gL+768)/4→Builtin.growBy gL k c≤gL+(gL+768)/4
 | 0,c,h=>h
 | k+1,c,h=>by
  rw[Builtin.growBy]
  split
  ·exact h
  ·exact uV gL k _ (by omega)
theorem Cj {gL cap:Nat}(h:cap<gL):Builtin.nextslicecap gL cap≤gL+gL/4+512:=by
 unfold Builtin.nextslicecap
 split
 ·omega
 ·split
  ·omega
  ·have:=uV gL 4 cap (by omega)
   omega
theorem uW {gL cap bytes:Nat}(h:cap<gL)(hr:cr gL bytes=true):¬Builtin.nextslicecap gL cap*bytes>2^48:=by
 have h1:=Nat.mul_le_mul_right bytes (Cj h)
 simp only[cr,decide_eq_true_eq]at hr
 omega
structure lE (P:Program)(sT xT elem:TypeId)(ei:TypeInfo)(zv:Value)(n bytes:Nat):Prop where
 hu:P.underlying sT=some (.slice elem)
 hi:P.info? elem=some ei
 hx:∃d,P.underlying xT=some d∧∀k,d≠.int k
 hn:ei.size=n
 hz:ei.zero=some zv
 Ck:zv.cells.size=n
 hb:ei.bytes=bytes
 Jw:bytes≠0
theorem jL {sT xT elem rt:TypeId}{ei:TypeInfo}{zv x:Value}{n bytes r o len cap m:Nat}{vs:List Value}(E:lE P sT xT elem ei zv n bytes)(hl:(Builtin.lenOf x).run P w=.ok m w)(hf:(Builtin.firstCells n m x).run P w=.ok vs.toArray w)
  (iH:len+m≤cap) (hs:(storeCells ⟨r,o+len*n,none⟩ vs).run P w=.ok () (w.setCells r (o+len*n) vs)) :
  (Builtin.append_ #[sT,xT] rt #[.slice (some ⟨r,o,none⟩) len cap,x]).run P w=.ok (.slice (some ⟨r,o,none⟩) (len+m) cap) (w.setCells r (o+len*n) vs):=by
 obtain⟨d,h1,h2⟩:=E.hx
 have hz:(match d with | .int _=>true|_=>false)=false:=by cases d<;>first|rfl|exact absurd rfl (h2 _)
 simp[Builtin.append_,run_underlying E.hu,run_underlying h1,hz,sizeOf,aO E.hi,E.hn,hl,hf,iH,b7,hs]
theorem iI {sT xT elem rt:TypeId}{ei:TypeInfo}{zv x:Value}{n bytes:Nat}{base:Option Addr}{len cap:Nat}(E:lE P sT xT elem ei zv n bytes)(hl:(Builtin.lenOf x).run P w=.ok 0 w)(hf:(Builtin.firstCells n 0 x).run P w=.ok #[] w)(iH:len≤cap) :
  (Builtin.append_ #[sT,xT] rt #[.slice base len cap,x]).run P w=.ok (.slice base len cap) w:=by
 obtain⟨d,h1,h2⟩:=E.hx
 have hz:(match d with | .int _=>true|_=>false)=false:=by cases d<;>first|rfl|exact absurd rfl (h2 _)
 cases base<;>simp[Builtin.append_,run_underlying E.hu,run_underlying h1,hz,sizeOf,aO E.hi,E.hn,hl,hf,iH,storeCells]
theorem iJ (zc:Array Value)(n:Nat):(Builtin.zeroCells zc n).size=n*zc.size:=by simp[Builtin.zeroCells]
theorem fE {sT xT elem rt:TypeId}{ei:TypeInfo}{zv x:Value}{n bytes:Nat}{base:Option Addr}{len cap m:Nat}{gM vs:List Value}(E:lE P sT xT elem ei zv n bytes)(hl:(Builtin.lenOf x).run P w=.ok m w)(hf:∀w':World,w'.heap=w.heap→(Builtin.firstCells n m x).run P w'=.ok vs.toArray w')
  (ho:∀w':World,w'.heap=w.heap→(Builtin.firstCells n len (.slice base len cap)).run P w'=.ok gM.toArray w') (tG:cap<len+m) (hr:cr (len+m) bytes=true) :
  ∃(dc:Nat) (rest:List Value),len+m≤dc∧rest.length=(dc-(len+m))*n ∧
   (Builtin.append_ #[sT,xT] rt #[.slice base len cap,x]).run P w=.ok (.slice (some ⟨w.heap.size,0,none⟩) (len+m) dc) (w.drew.alloc (.cells (gM++vs++rest).toArray elem)):=by
 obtain⟨d,h1,h2⟩:=E.hx
 have hz:(match d with | .int _=>true|_=>false)=false:=by cases d<;>first|rfl|exact absurd rfl (h2 _)
 have fF:=uW tG hr
 have iH:¬len+m≤cap:=by omega
 let dc:=Question.cut (.appendCap (len+m) cap elem) (w.tape w.drawn (.appendCap (len+m) cap elem))
 have iD:len+m≤dc:=by simp only[dc,Question.cut];omega
 refine⟨dc,(Builtin.zeroCells zv.cells (dc-(len+m))).toList,iD,?_,?_⟩
 ·rw[Array.length_toList,iJ,E.Ck]
 ·have uT:=hf w.drew rfl
  have jY:=ho w.drew rfl
  have Jw:ei.bytes≠0:=by rw[E.hb];exact E.Jw
  simp only[gt_iff_lt,Nat.not_lt]at fF
  have yB:Builtin.nextslicecap (len+m) cap*ei.bytes≤2^48:=by rw[E.hb];exact fF
  simp only[Builtin.append_,List.getElem?_toArray,List.getElem?_cons_zero,List.getElem?_cons_succ,Sem.run_bind,run_underlying E.hu,run_underlying h1,Result.andThen_ok,sizeOf,aO E.hi,E.hn,hl,Sem.run_pure,iH,if_false]
  cases d<;>first
   | exact absurd rfl (h2 _)
   | (simp[hl,iH,aO E.hi,Jw,yB,Nat.not_lt.2 yB,run_choose,Question.forced,jY,uT,zeroValue,E.hz,newRow,dc];congr 2;apply Array.ext';simp)
theorem SR.Jx {t e r p q m:Nat}{vs:List Value}(h:SR w0 g H w)(ht:H[t]?=some (.tok e))(hp:g.π t e=some (r,p,q))(hm:0<m)(iH:p+vs.length≤q) :
  let g':=((g.row r fun j=>if p≤j∧j<p+vs.length then .gI else g.κ r j).tok t (e+m) (r,p+vs.length,q))
  Le g w g' (w.setCells r p vs)∧SR w0 g' (H.set t (.tok (e+m))) (w.setCells r p vs)∧Fr g H g' (H.set t (.tok (e+m)))∧∀(i:Nat) (v:Value),vs[i]?=some v→tt g' (w.setCells r p vs) r (p+i) v:=by
 intro g'
 have Jy:t<H.length:=(List.getElem?_eq_some_iff.1 ht).1
 obtain⟨r1,p1,q1,e1,h2,h3,h4⟩:=h.cu t _ ht
 rw[hp]at e1;cases e1
 have hs:∀j,p≤j→j<p+vs.length→(w.cell? ⟨r,j,none⟩).isSome=true:=fun j a c=>(h3 j a (by omega)).2.2
 have tr:=Tr.setCells w r p vs hs
 have hS:∀r' j,rE r p vs.length r' j→g.κ r' j=.spare t:=by
  rintro r' j⟨rfl,a,c⟩;exact(h3 j a (by omega)).1
 have hκ:∀r' j,g'.κ r' j=if r'=r∧p≤j∧j<p+vs.length then .gI else g.κ r' j:=by
  intro r' j
  simp only[g',Ctx.tok,Ctx.row]
  by_cases e:r'=r
  ·subst e;simp
  ·simp[e]
 have hπ:∀t' e',g'.π t' e'=if t'=t∧e'=e+m then some (r,p+vs.length,q)else g.π t' e':=fun t' e'=>rfl
 have le:Le g w g' (w.setCells r p vs):=Le.fD tr (fun _ _ h=>h) (fun r' o hk=>by rw[hκ];split;rfl;exact hk)
  (fun t' e' x hx=>by rw[hπ];split;rename_i c;obtain⟨rfl,rfl⟩:=c;rw[h4 _ (by omega)]at hx;cases hx;exact hx)
  (fun r' j gh e=>by rw[hS r' j gh]at e;cases e)
 have gI:∀(i:Nat) (v:Value),vs[i]?=some v→tt g' (w.setCells r p vs) r (p+i) v:=fun i v hi=>by
  have au:i<vs.length:=(List.getElem?_eq_some_iff.1 hi).1
  exact⟨by rw[hκ];simp;omega,bX r vs p w hs i v hi⟩
 refine⟨le,h.step (fun b'=>b'=t) tr le (fun r' j gh=>.inr (.inr ⟨t,hS r' j gh,rfl⟩)) (fun _ hm=>hm.elim) (fun r' j hr=>?_) (fun b' x hx=>by rw[List.length_set];exact h.ni b' x hx)
  (fun t' e' x hx=>?_) (fun _ _ _=>rfl) (fun r' j b' fC=>?_) (fun t' e' _ fC=>?_) (fun b' x hx=>?_),⟨by simp,fun b' x a c d=>⟨db a (by rintro rfl;rw[ht]at a;cases a;exact absurd rfl (c e)),d⟩⟩,gI⟩
 ·rw[cH]at hr
  rw[hκ];split
  ·rename_i c;obtain⟨rfl,a,c⟩:=c
   have:=h.fresh r' j hr
   rw[(h3 j a (by omega)).1]at this;cases this
  ·exact h.fresh r' j hr
 ·rw[List.length_set]
  rw[hπ]at hx
  split at hx
  ·rename_i c;rw[c.1];exact Jy
  ·exact h.fe t' e' x hx
 ·constructor<;>intro e'<;>rw[hκ]<;>split
  ·rename_i c;obtain⟨rfl,a,c⟩:=c;rw[(h3 j a (by omega)).1]at e';cases e'
  ·exact e'
  ·rename_i c;obtain⟨rfl,a,c⟩:=c;rw[(h3 j a (by omega)).1]at e';cases e';exact absurd rfl fC
  ·exact e'
 ·rw[hπ,if_neg (fun c=>fC c.1)]
 ·rcases cz Jy hx with⟨rfl,rfl⟩|⟨ba,gg⟩
  ·right
   refine⟨r,p+vs.length,q,by rw[hπ];simp,iH,fun j a c=>⟨?_,?_,?_⟩,fun e' he=>by rw[hπ,if_neg (by omega)];exact h4 e' (by omega)⟩
   ·rw[hκ,if_neg (by omega)];exact(h3 j (by omega) c).1
   ·rw[World.frozen?_setCells];exact(h3 j (by omega) c).2.1
   ·rw[bS r vs p w r j (by omega)];exact(h3 j (by omega) c).2.2
  ·exact .inl ⟨ba,gg⟩
theorem SR.yC {c:Array Value}{ty:TypeId}{w1:World}{H':ae}{t e k:Nat}(h:SR w0 g H w)(tr:Tr w w1 eY fW)(hz:w1.heap.size=w.heap.size)(ht:H'[t]?=some (.tok e))(hk:k≤c.size)
  (gk:∀e',e≤e'→g.π t e'=none) (hH:∀b' x,b'≠t→H'[b']?=some x→H[b']?=some x) (hl:H.length≤H'.length) (aG:∀(b':Nat) (x:B),H[b']?=some x→(∀e:Nat,x≠.tok e)→H'[b']?=some x) :
  let g':=((g.row w.heap.size fun j=>if j<k then .gI else .spare t).tok t e (w.heap.size,k,c.size))
  Le g w g' (w1.alloc (.cells c ty))∧SR w0 g' H' (w1.alloc (.cells c ty))∧Fr g H g' H'∧(∀(j:Nat) (v:Value),j<k→c[j]?=some v→tt g' (w1.alloc (.cells c ty)) w.heap.size j v)∧g'.π t e=some (w.heap.size,k,c.size):=by
 intro g'
 have rF:=tr.trans (Tr.alloc w1 (.cells c ty) (.inr ⟨_,_,rfl⟩))
 have ba:∀r j ow,g.κ r j=ow→ow≠.free→r≠w.heap.size:=by rintro r j ow e hn rfl;exact hn (e▸h.fresh _ j (Nat.le_refl _))
 have hπ:∀t' e',g'.π t' e'=if t'=t∧e'=e then some (w.heap.size,k,c.size)else g.π t' e':=fun t' e'=>rfl
 have hκ:∀r j,g'.κ r j=if r=w.heap.size then(if j<k then .gI else .spare t)else g.κ r j:=fun r j=>rfl
 have le:Le g w g' (w1.alloc (.cells c ty)):=Le.fD rF (fun _ _ h=>h) (fun r o hk=>by rw[hκ,if_neg (ba r o _ hk (by simp))];exact hk)
  (fun t' e' x hx=>by rw[hπ];split;rename_i c;obtain⟨rfl,rfl⟩:=c;rw[gk _ (Nat.le_refl _)]at hx;cases hx;exact hx) (fun _ _ hs=>hs.elim)
 refine⟨le,?_,⟨hl,fun b' x a c d=>⟨aG b' x a c,d⟩⟩,fun j v hj hv=>⟨by rw[hκ];simp[hj],by rw[←hz,World.cell?_alloc_new];exact hv⟩,by rw[hπ];simp⟩
 refine h.step (fun b'=>b'=t) rF le (fun _ _ hs=>hs.elim) (fun _ hm=>hm.elim) (fun r o hr=>?_) (fun b' x hx=>Nat.lt_of_lt_of_le (h.ni b' x hx) hl) (fun t' e' x hx=>?_) (fun _ _ _=>rfl) (fun r j b' fC=>?_) (fun t' e' _ fC=>?_) (fun b' x hx=>?_)
 ·simp at hr
  rw[hκ,if_neg (by omega)];exact h.fresh r o (by omega)
 ·rw[hπ]at hx
  split at hx
  ·rename_i c;rw[c.1];exact(List.getElem?_eq_some_iff.1 ht).1
  ·exact Nat.lt_of_lt_of_le (h.fe t' e' x hx) hl
 ·constructor<;>intro e'<;>rw[hκ,if_neg (ba r j _ e' (by simp))]<;>exact e'
 ·rw[hπ,if_neg (fun c=>fC c.1)]
 ·by_cases e':b'=t
  ·subst e'
   right
   rw[ht]at hx;cases hx
   refine⟨w.heap.size,k,c.size,by rw[hπ];simp,hk,fun j a b=>⟨by rw[hκ];simp;omega,by rw[←hz];simp,by rw[←hz,World.cell?_alloc_new,Array.getElem?_eq_getElem b];rfl⟩,fun Cl he=>by rw[hπ,if_neg (by omega)];exact gk Cl (by omega)⟩
  ·exact .inl ⟨e',hH b' x e' hx⟩
theorem mP (w:World):Tr w w.drew eY fW:=Tr.drew w
theorem lF {w w':World}(h:w'.heap=w.heap)(a:Addr):w'.cell? a=w.cell? a:=by unfold World.cell?;rw[h]
theorem uX {n:Nat}{y:T}{vy:Value}{new:List (List T)}(h:SR w0 g H w)(hy:VR g w y vy)(he:aP H n y=some new) :
  ∃vs:List Value,(Builtin.lenOf vy).run P w=.ok new.length w∧(∀w':World,w'.heap=w.heap→(Builtin.firstCells n new.length vy).run P w'=.ok vs.toArray w')∧aW g w new.flatten vs∧bL new.flatten∧(∀c∈new,c.length=n)∧vs.length=new.length*n:=by
 obtain⟨vs,h1,h2,h3,h4,h5,h6⟩:=Fq (P:=P) h hy he
 refine⟨vs,h1,fun w' tH=>?_,h3,h4,h5,h6⟩
 by_cases hs:∃s,y=.str s
 ·obtain⟨s,rfl⟩:=hs
  cases hy
  simp only[Builtin.firstCells,Sem.run_pure,Result.ok.injEq,and_true]at h2 ⊢
  exact h2
 ·obtain⟨a,cap,Iz,rfl,_,k1,k2,k3,k4,k5,k6⟩:=kD h hy he (fun s e=>hs ⟨s,e⟩)
  cases a with
  | none =>
   simp only[Builtin.firstCells,Sem.run_pure,Result.ok.injEq,and_true]at h2 ⊢
   exact h2
  | some a =>
   obtain⟨_,h7⟩:=k2 a rfl
   have a1:=run_loadCells_list (P:=P) w a Iz h7
   have a2:=run_loadCells_list (P:=P) w' a Iz (fun j v hj=>by rw[lF tH];exact h7 j v hj)
   rw[k4]at a1 a2
   simp only[Builtin.firstCells]at h2 ⊢
   rw[a1]at h2
   rw[a2]
   simp at h2
   rw[h2]
theorem Cm {sT xT elem rt:TypeId}{ei:TypeInfo}{zv:Value}{n bytes:Nat}{k:SK}{es new:List (List T)}{y t:T}{vx vy:Value}{H':ae}(E:lE P sT xT elem ei zv n bytes)
  (h:SR w0 g H w) (hx:VR g w (.sl k es) vx) (hy:VR g w y vy) (dI:es.all (·.length==n)=true) (oQ:aP H n y=some new) (he:kv H bytes k es new=some (t,H')) :
  br P w0 g H w (Builtin.append_ #[sT,xT] rt #[vx,vy]) t H':=by
 obtain⟨vs,s1,s2,s3,s4,s5,s6⟩:=uX (P:=P) h hy oQ
 obtain⟨a,cap,gM,rfl,iD,x1,x2,x3,x4,x5,x6⟩:=kD (n:=n) (es:=es) h hx (by simp only[aP,dI,if_true]) (fun s e=>by cases e)
 have iD:es.length≤cap:=iD
 cases gk:new with
 | nil =>
  subst gk
  simp only[kv,Option.some.injEq,Prod.mk.injEq]at he
  obtain⟨rfl,rfl⟩:=he
  have gP:vs=[]:=by simpa using s6
  subst gP
  exact br.same h (iI E s1 (s2 w rfl) iD) hx
 | cons c0 Nb =>
  have hlen:0<new.length:=by rw[gk];simp
  rw[gk]at he
  simp only[kv]at he
  rw[←gk]at he
  split at he
  ·rename_i fF
   have wL:∀c∈es++new.map (·.map T.erase),c.length=n:=by
    intro c hc
    rcases List.mem_append.1 hc with hc|hc
    ·exact x6 c hc
    ·obtain⟨c',h1,rfl⟩:=List.mem_map.1 hc
     rw[List.length_map];exact s5 c' h1
   have mN:(es++new.map (·.map T.erase)).flatten=es.flatten++new.flatten.map T.erase:=by rw[List.flatten_append,kJ]
   have oG:(es++new.map (·.map T.erase)).length=es.length+new.length:=by simp
   have ho:bL (es++new.map (·.map T.erase)).flatten:=by
    rw[mN];intro t ht
    rcases List.mem_append.1 ht with ht|ht
    ·exact x5 t ht
    ·exact nG s4 t ht
   have me:(gM++vs).length=(es.length+new.length)*n:=by rw[List.length_append,x4,s6,Nat.add_mul]
   have grow:∀(t' e':Nat) (Hn:ae),cap<es.length+new.length→Hn[t']?=some (.tok e')→(∀Cl,e'≤Cl→g.π t' Cl=none)→(∀b' x,b'≠t'→Hn[b']?=some x→H[b']?=some x)→H.length≤Hn.length →
     (∀(b':Nat) (x:B),H[b']?=some x→(∀e:Nat,x≠.tok e)→Hn[b']?=some x)→br P w0 g H w (Builtin.append_ #[sT,xT] rt #[.slice a es.length cap,vy]) (.sl (.own t' e') (es++new.map (·.map T.erase))) Hn:=by
    intro t' e' Hn tG k1 k2 k3 k4 k5
    have IA:∀w':World,w'.heap=w.heap→(Builtin.firstCells n es.length (.slice a es.length cap)).run P w'=.ok gM.toArray w':=by
     intro w' tH
     cases a with
     | none =>
      have:=(x1 rfl).1
      subst this
      have:gM=[]:=by simpa using x4
      subst this
      simp[Builtin.firstCells]
     | some a =>
      obtain⟨_,h7⟩:=x2 a rfl
      have:=run_loadCells_list (P:=P) w' a gM (fun j v hj=>by rw[lF tH];exact h7 j v hj)
      rw[x4]at this
      simpa[Builtin.firstCells]using this
    obtain⟨dc,rest,kK,oS,bJ⟩:=fE (rt:=rt) (w:=w) E s1 s2 IA tG fF
    have bn:(gM++vs++rest).toArray.size=dc*n:=by
     simp only[List.size_toArray]
     rw[List.length_append,me,oS,←Nat.add_mul];congr 1;omega
    obtain⟨le,sr,fr,gI,hp⟩:=h.yC (c:=(gM++vs++rest).toArray) (ty:=elem) (k:=(es.length+new.length)*n) (mP w) rfl k1 (by rw[bn];exact Nat.mul_le_mul_right _ kK) k2 k3 k4 k5
    refine⟨_,_,_,bJ,le,sr,?_,fr⟩
    have hv:aW g w (es++new.map (·.map T.erase)).flatten (gM++vs):=by rw[mN];exact aW.append x3 s3.erase
    have:=VR.qk (k:=.own t' e') (r:=w.heap.size) (o:=0) (cap:=dc) wL (hv.mono le) ho (by rw[oG];exact kK) ⟨by rw[hp,oG,bn];simp,by rw[oG];omega⟩ (fun j v hj=>?_)
    ·rw[oG]at this;exact this
    ·have au:j<(gM++vs).length:=(List.getElem?_eq_some_iff.1 hj).1
     rw[Nat.zero_add]
     refine gI j v (by omega) ?_
     rw[List.getElem?_toArray,List.getElem?_append_left au];exact hj
   cases k with
   | nil =>
    simp only[Option.some.injEq,Prod.mk.injEq]at he
    obtain⟨rfl,rfl⟩:=he
    have mM:cap<es.length+new.length:=by
     cases hx with
     | slnil=>simpa using hlen
     | sl b6 hk=>exact hk.elim
    exact grow H.length _ _ mM (dg _ _) (fun Cl _=>h.M9 (Nat.le_refl _)) (fun b' x e hx=>bT e hx) (by simp) (fun b' x hx _=>ff hx)
   | full =>
    simp only[Option.some.injEq,Prod.mk.injEq]at he
    obtain⟨rfl,rfl⟩:=he
    have mM:cap<es.length+new.length:=by
     cases hx with
     | sl b6 hk=>simp only[jh]at hk;omega
    exact grow H.length _ _ mM (dg _ _) (fun Cl _=>h.M9 (Nat.le_refl _)) (fun b' x e hx=>bT e hx) (by simp) (fun b' x hx _=>ff hx)
   | arg=>cases he
   | own t0 e0 =>
    cases ht:H[t0]? with
    | none=>simp[ht]at he
    | some bt =>
     cases bt with
     | tok e1 =>
      simp only[ht]at he
      split at he
      ·rename_i Sk
       subst Sk
       simp only[Option.some.injEq,Prod.mk.injEq]at he
       obtain⟨rfl,rfl⟩:=he
       have Jy:t0<H.length:=(List.getElem?_eq_some_iff.1 ht).1
       obtain⟨r1,p1,q1,rH,Jz,uS,iK⟩:=h.cu t0 _ ht
       by_cases iH:es.length+new.length≤cap
       ·-- in place
        cases hx with
        | @sl _ _ r o _ n' b6 hk hc hn h3 h4 =>
         simp only[jh]at hk
         obtain⟨oH,uY⟩:=hk
         have qf:n'=n:=by
          cases es with
          | nil=>simp at uY
          | cons c es=>rw[←hn c (by simp),x6 c (by simp)]
         subst qf
         rw[rH]at oH
         simp only[Option.some.injEq,Prod.mk.injEq]at oH
         obtain⟨rfl,rfl,rfl⟩:=oH
         have Fs:o+es.length*n'+vs.length≤o+cap*n':=by
          rw[s6,Nat.add_assoc,←Nat.add_mul]
          exact Nat.add_le_add_left (Nat.mul_le_mul_right _ iH) _
         obtain⟨le,sr,fr,gI⟩:=h.Jx (m:=new.length) (vs:=vs) ht rH hlen Fs
         have cn:=run_storeCells_cells (P:=P) r1 (o+es.length*n') vs 0 w (fun j hj=>by simpa using (uS (o+es.length*n'+j) (by omega) (by omega)).2.2) (fun j hj=>by simpa using (uS (o+es.length*n'+j) (by omega) (by omega)).2.1) (s3.fU s4)
         rw[Nat.add_zero]at cn
         have bJ:=jL (rt:=rt) (cap:=cap) E s1 (s2 w rfl) iH cn
         refine⟨_,_,_,bJ,le,sr,?_,fr⟩
         have hv:aW g w (es++new.map (·.map T.erase)).flatten (gM++vs):=by rw[mN];exact aW.append x3 s3.erase
         have JA:∀(j:Nat) (v:Value),gM[j]?=some v→tt g w r1 (o+j) v:=by
          intro j v hj
          have au:j<es.length*n':=by rw[←x4];exact(List.getElem?_eq_some_iff.1 hj).1
          obtain⟨_,h7⟩:=x2 _ rfl
          have iL:=h7 j v hj
          rw[b7]at iL
          have JB:0<n':=by
           rcases Nat.eq_zero_or_pos n' with e|e
           ·subst e;simp at au
           ·exact e
          have hi:j/n'<es.length:=Nat.div_lt_of_lt_mul (by rw[Nat.mul_comm];exact au)
          have e1:es[j/n']?=some es[j/n']:=List.getElem?_eq_getElem hi
          have hm:j%n'<(es[j/n']).length:=by rw[x6 _ (List.getElem_mem hi)];exact Nat.mod_lt _ JB
          have:=(h3 (j/n') (j%n') _ _ e1 (List.getElem?_eq_getElem hm)).2
          have ee:o+j/n'*n'+j%n'=o+j:=by rw[Nat.add_assoc,Nat.mul_comm,Nat.div_add_mod]
          rw[ee]at this
          exact⟨this.1,iL⟩
         have:=VR.qk (k:=.own t0 (e0+new.length)) (r:=r1) (o:=o) (cap:=cap) wL (hv.mono le) ho (by rw[oG];exact iH) ⟨by rw[oG];simp[Ctx.tok,s6,Nat.add_mul,Nat.add_assoc],by rw[oG];omega⟩ (fun j v hj=>?_)
         ·rw[oG]at this;exact this
         ·rw[List.getElem?_append]at hj
          split at hj
          ·exact(JA j v hj).mono le
          ·rename_i fN
           have:=gI _ v hj
           rw[x4]at this fN
           rwa[show o+es.length*n'+(j-es.length*n')=o+j by omega]at this
       ·exact grow t0 (e0+new.length) _ (by omega) (by simp[Jy]) (fun Cl he=>iK Cl (by omega)) (fun b' x ba hx=>by
          rcases cz Jy hx with⟨e,_⟩|⟨_,gg⟩
          ·exact absurd e ba
          ·exact gg) (by simp) (fun b' x Nc ba=>db Nc (by rintro rfl;rw[ht]at Nc;cases Nc;exact absurd rfl (ba e0)))
      ·cases he
     | cells _=>simp[ht]at he
     | map _=>simp[ht]at he
     | _=>simp[ht]at he
  ·cases he
end
section
variable {P:Program} {w0 w:World} {g:Ctx} {H:ae}
theorem SR.JC {b r o q:Nat}{cs ts:List T}{vs:List Value}(h:SR w0 g H w)(hb:H[b]?=some (.cells cs))(hφ:g.φ b=some (r,o,q))(hv:aW g w ts vs)(ho:bL ts)(iH:o+cs.length+ts.length≤q) :
  let g':=((g.row r fun j=>if o≤j∧j<q then .mut H.length else g.κ r j).at H.length (r,o,q))
  Le g w g' (w.setCells r (o+cs.length) vs)∧SR w0 g' (H.set b .dead++[.cells (cs++ts)]) (w.setCells r (o+cs.length) vs)∧Fr g H g' (H.set b .dead++[.cells (cs++ts)]):=by
 intro g'
 have jX:b<H.length:=(List.getElem?_eq_some_iff.1 hb).1
 obtain⟨h1,h2,h3⟩:=h.cu b _ hb r o q hφ
 have hl:=hv.1
 have hs:∀j,o+cs.length≤j→j<o+cs.length+vs.length→(w.cell? ⟨r,j,none⟩).isSome=true:=fun j a c=>(h2 j (by omega) (by omega)).2.2
 have tr:=Tr.setCells w r (o+cs.length) vs hs
 have hS:∀r' j,rE r (o+cs.length) vs.length r' j→g.κ r' j=.mut b:=by
  rintro r' j⟨rfl,a,c⟩;exact(h2 j (by omega) (by omega)).1
 have hκ:∀r' j,g'.κ r' j=if r'=r∧o≤j∧j<q then .mut H.length else g.κ r' j:=by
  intro r' j
  simp only[g',Ctx.at,Ctx.row]
  by_cases e:r'=r
  ·subst e;simp
  ·simp[e]
 have iw:∀b',g'.φ b'=if b'=H.length then some (r,o,q)else g.φ b':=fun b'=>rfl
 have le:Le g w g' (w.setCells r (o+cs.length) vs):=Le.fD tr
  (fun b' x hx=>by rw[iw];split;rename_i e;rw[e,h.Ce (Nat.le_refl _)]at hx;cases hx;exact hx)
  (fun r' j hk=>by rw[hκ];split;rename_i c;obtain⟨rfl,a,c⟩:=c;rw[(h2 j a c).1]at hk;cases hk;exact hk) (fun _ _ _ h=>h) (fun r' j gh e=>by rw[hS r' j gh]at e;cases e)
 refine⟨le,h.step (fun b'=>b'=b∨b'=H.length) tr le (fun r' j gh=>.inr (.inl ⟨b,hS r' j gh,.inl rfl⟩)) (fun _ hm=>hm.elim) (fun r' j hr=>?_) (fun b' x hx=>?_) (fun t e x hx=>?_) (fun b' fC hn=>?_) (fun r' j b' hn=>?_) (fun _ _ _ _=>rfl) (fun b' x hx=>?_),?_,fun b' x a c d=>?_⟩
 ·rw[cH]at hr
  rw[hκ];split
  ·rename_i c;obtain⟨rfl,a,c⟩:=c
   have:=h.fresh r' j hr
   rw[(h2 j a c).1]at this;cases this
  ·exact h.fresh r' j hr
 ·rw[iw]at hx
  simp only[List.length_append,List.length_set,List.length_singleton]
  split at hx
  ·omega
  ·have:=h.ni b' x hx;omega
 ·simp only[List.length_append,List.length_set,List.length_singleton]
  have:=h.fe t e x hx;omega
 ·rw[iw,if_neg (by omega)]
 ·constructor<;>intro e<;>rw[hκ]<;>split
  ·rename_i c;obtain⟨rfl,a,c⟩:=c;rw[(h2 j a c).1]at e;cases e;exact absurd (.inl rfl) hn
  ·exact e
  ·rename_i c;obtain⟨rfl,a,c⟩:=c;rw[(h2 j a c).1]at e;cases e
  ·exact e
 ·by_cases e:b'=H.length
  ·right
   subst e
   have gg:x=.cells (cs++ts):=by
    have:(H.set b B.dead++[.cells (cs++ts)])[H.length]?=some (.cells (cs++ts)):=by
     rw[List.getElem?_append_right (by simp)];simp
    rw[this]at hx;cases hx;rfl
   subst gg
   intro r' o' q' hq
   rw[iw,if_pos rfl]at hq
   simp only[Option.some.injEq,Prod.mk.injEq]at hq
   obtain⟨rfl,rfl,rfl⟩:=hq
   refine⟨by rw[List.length_append];omega,fun j a c=>⟨by rw[hκ];simp[a,c],by rw[World.frozen?_setCells];exact(h2 j a c).2.1,tr.cP r j ?_ (h2 j a c).2.2⟩,fun i t hi=>?_⟩
   ·obtain⟨x,hx⟩:=Option.isSome_iff_exists.1 (h2 j a c).2.2;exact gN hx
   ·rw[List.getElem?_append]at hi
    split at hi
    ·rename_i au
     obtain⟨a,v,Fm,Fo⟩:=h3 i t hi
     exact⟨a,v,by rw[bS r vs _ w r (o+i) (by omega)];exact Fm,Fo.mono le⟩
    ·rename_i fN
     have au:i-cs.length<vs.length:=by rw[←hl];exact(List.getElem?_eq_some_iff.1 hi).1
     refine⟨ho t (List.mem_of_getElem? hi),_,?_,(hv.2 _ t _ hi (List.getElem?_eq_getElem au)).mono le⟩
     have:=bX r vs (o+cs.length) w hs (i-cs.length) _ (List.getElem?_eq_getElem au)
     rwa[show o+cs.length+(i-cs.length)=o+i by omega]at this
  ·have nH:(H.set b B.dead)[b']?=some x:=bT (by simpa using e) hx
   rcases cz jX nH with⟨rfl,rfl⟩|⟨ba,gg⟩
   ·right;trivial
   ·exact .inl ⟨by rintro (h|h);exact ba h;exact e h,gg⟩
 ·simp
 ·have au:b'<H.length:=(List.getElem?_eq_some_iff.1 a).1
  have ba:b'≠b:=by rintro rfl;rw[hφ]at d;cases d
  exact⟨ff (db a ba),by rw[iw,if_neg (by omega)];exact d⟩
theorem yD {x:T}{vx:Value}(hx:VR g w x vx)(hk:x8 x=true):∃(a:Option Addr) (l c:Nat),vx=.slice a l c∧l≤c:=by
 cases hx with
 | slnil=>exact⟨_,_,_,rfl,Nat.le_refl _⟩
 | fT=>exact⟨_,_,_,rfl,Nat.le_refl _⟩
 | sl b6 jJ hc hn h1 h2=>exact⟨_,_,_,rfl,hc⟩
 | aE h hc hq=>exact⟨_,_,_,rfl,hc⟩
 | _=>simp[x8]at hk
theorem yE {sT xT elem rt:TypeId}{ei:TypeInfo}{zv:Value}{n bytes:Nat}{x y t:T}{new:List (List T)}{vx vy:Value}{H':ae}(E:lE P sT xT elem ei zv n bytes)
  (h:SR w0 g H w) (hx:VR g w x vx) (hy:VR g w y vy) (oQ:aP H n y=some new) (he:mz H n bytes x new=some (t,H')) :
  br P w0 g H w (Builtin.append_ #[sT,xT] rt #[vx,vy]) t H':=by
 obtain⟨vs,s1,s2,s3,s4,s5,s6⟩:=uX (P:=P) h hy oQ
 have me:=eC new s5
 cases gk:new with
 | nil =>
  subst gk
  simp only[mz]at he
  split at he
  case isFalse=>cases he
  rename_i hk
  simp only[Option.some.injEq,Prod.mk.injEq]at he
  obtain⟨rfl,rfl⟩:=he
  have gP:vs=[]:=by simpa using s6
  subst gP
  have:∃a l c,vx=.slice a l c∧l≤c:=yD hx hk
  obtain⟨a,l,c,rfl,ID⟩:=this
  exact br.same h (iI E s1 (s2 w rfl) ID) hx
 | cons c0 Nb =>
  have hlen:0<new.length:=by rw[gk];simp
  rw[gk]at he
  simp only[mz]at he
  rw[←gk]at he
  have empty:∀(a:Option Addr),vx=.slice a 0 0→cr (0+new.length) bytes=true→t=.aE H.length 0 new.length n→H'=H++[.cells new.flatten]→br P w0 g H w (Builtin.append_ #[sT,xT] rt #[vx,vy]) t H':=by
   rintro a rfl fF rfl rfl
   have JD:∀w':World,w'.heap=w.heap→(Builtin.firstCells n 0 (.slice a 0 0)).run P w'=.ok ([]:List Value).toArray w':=by
    intro w' _
    cases a with
    | none=>simp[Builtin.firstCells]
    | some a=>simpa[Builtin.firstCells]using run_loadCells_list (P:=P) w' a [] (by simp)
   obtain⟨dc,rest,kK,oS,bJ⟩:=fE (rt:=rt) (w:=w) E s1 s2 JD (by omega) fF
   have bn:(([]:List Value)++vs++rest).toArray.size=dc*n:=by
    simp only[List.size_toArray,List.nil_append]
    rw[List.length_append,s6,oS,←Nat.add_mul];congr 1;omega
   have iL:∀(i:Nat) (t:T),new.flatten[i]?=some t→t.one=true∧∃v,(([]:List Value)++vs++rest).toArray[i]?=some v∧VR g w t v:=by
    intro i t hi
    obtain⟨v,h1,h2⟩:=s3.eo i t hi
    refine⟨s4 t (List.mem_of_getElem? hi),v,?_,h2⟩
    simp only[List.nil_append,List.getElem?_toArray]at h1 ⊢
    rw[List.getElem?_append_left (List.getElem?_eq_some_iff.1 h1).1];exact h1
   obtain⟨g',le,sr,fr,hφ⟩:=h.fm (c:=([]++vs++rest).toArray) (ty:=elem) (cs:=new.flatten) (mP w) rfl iL
   refine⟨_,_,g',bJ,le,sr,?_,fr⟩
   rw[Nat.zero_add]at kK ⊢
   exact .aE (r:=w.heap.size) (o:=0) (off:=0) hφ kK (by rw[bn];simp)
  cases x with
  | sl k es =>
   cases k with
   | nil =>
    simp only at he
    split at he
    ·rename_i hc
     obtain⟨fF,rfl⟩:=hc
     simp only[Option.some.injEq,Prod.mk.injEq]at he
     cases hx with
     | slnil=>exact empty none rfl (by simpa using fF) he.1.symm he.2.symm
     | sl b6 hk=>exact hk.elim
    ·cases he
   | full =>
    simp only at he
    split at he
    ·rename_i hc
     obtain⟨fF,rfl⟩:=hc
     simp only[Option.some.injEq,Prod.mk.injEq]at he
     cases hx with
     | sl b6 hk =>
      simp only[jh,List.length_nil]at hk
      subst hk
      exact empty _ rfl (by simpa using fF) he.1.symm he.2.symm
    ·cases he
   | arg=>cases he
   | own _ _=>cases he
  | aE b off len n' =>
   simp only at he
   cases hb:H[b]? with
   | none=>simp[hb]at he
   | some z =>
    cases z with
    | cells cs =>
     simp only[hb]at he
     split at he
     ·rename_i hc
      obtain⟨rfl,rfl,tC,fF⟩:=hc
      simp only[Option.some.injEq,Prod.mk.injEq]at he
      obtain⟨rfl,rfl⟩:=he
      cases hx with
      | @aE _ _ _ _ r o q cap hφ iD hq =>
       obtain⟨h1,h2,h3⟩:=h.cu b _ hb r o q hφ
       have jX:b<H.length:=(List.getElem?_eq_some_iff.1 hb).1
       by_cases iH:len+new.length≤cap
       ·have JE:o+cs.length+new.flatten.length≤q:=by
         rw[me,←tC,←hq,Nat.add_assoc,←Nat.add_mul]
         have:=Nat.mul_le_mul_right n' iH
         omega
        obtain⟨le,sr,fr⟩:=h.JC hb hφ s3 s4 JE
        have gP:vs.length=new.flatten.length:=by rw[s6,me]
        have cn:=run_storeCells_cells (P:=P) r (o+0+len*n') vs 0 w (fun j hj=>by simpa using (h2 (o+len*n'+j) (by omega) (by omega)).2.2) (fun j hj=>by simpa using (h2 (o+len*n'+j) (by omega) (by omega)).2.1) (s3.fU s4)
        rw[Nat.add_zero]at cn
        have bJ:=jL (rt:=rt) (cap:=cap) E s1 (s2 w rfl) iH cn
        rw[tC]at bJ
        refine⟨_,_,_,bJ,le,sr,?_,fr⟩
        exact .aE (off:=0) (r:=r) (o:=o) (q:=q) (by simp[Ctx.at]) iH (by rw[←hq])
       ·have hp:ku H (len*n') (.ptr b 0)=some cs:=by simp[ku,hb,tC]
        obtain⟨r',o',gM,e1,e2,e3,e4,e5⟩:=jU h (.ptr hφ) hp
        cases e1
        have IA:∀w':World,w'.heap=w.heap→(Builtin.firstCells n' len (.slice (some ⟨r,o+0,none⟩) len cap)).run P w'=.ok gM.toArray w':=by
         intro w' tH
         have:=run_loadCells_list (P:=P) w' ⟨r,o+0,none⟩ gM (fun j v hj=>by rw[lF tH,b7];exact e3 j v hj)
         rw[e2]at this
         simpa[Builtin.firstCells]using this
        obtain⟨dc,rest,kK,oS,bJ⟩:=fE (rt:=rt) (w:=w) E s1 s2 IA (by omega) fF
        have bn:(gM++vs++rest).toArray.size=dc*n':=by
         simp only[List.size_toArray]
         rw[List.length_append,List.length_append,e2,s6,oS,←Nat.add_mul,←Nat.add_mul];congr 1;omega
        have yF:aW g w (cs++new.flatten) (gM++vs):=aW.append e4 s3
        obtain⟨le,sr,fr⟩:=h.mut (c:=(gM++vs++rest).toArray) (ty:=elem) (H':=H.set b .dead++[.cells (cs++new.flatten)]) (b:=H.length) (cs:=cs++new.flatten) (mP w) rfl
         (by rw[List.getElem?_append_right (by simp)];simp) (h.Ce (Nat.le_refl _))
         (fun b' x ba hx=>by
          have nH:(H.set b B.dead)[b']?=some x:=bT (by simpa using ba) hx
          rcases cz jX nH with⟨_,rfl⟩|⟨_,gg⟩
          ·exact .inr rfl
          ·exact .inl gg) (by simp)
         (fun b' x a _ d _=>ff (db a (by rintro rfl;rw[hφ]at d;cases d)))
         (fun i t hi=>by
          obtain⟨v,k1,k2⟩:=yF.eo i t hi
          refine⟨?_,v,?_,k2⟩
          ·rcases List.mem_append.1 (List.mem_of_getElem? hi)with hm|hm
           ·exact e5 t hm
           ·exact s4 t hm
          ·simp only[List.getElem?_toArray]at k1 ⊢
           rw[List.getElem?_append_left (List.getElem?_eq_some_iff.1 k1).1];exact k1)
        refine⟨_,_,_,bJ,le,sr,.aE (r:=w.heap.size) (o:=0) (off:=0) (q:=(gM++vs++rest).toArray.size) (by simp[Ctx.at]) kK (by rw[bn];simp),by simp,fun b' x a c d=>fr b' x a c d (by have:=(List.getElem?_eq_some_iff.1 a).1;omega)⟩
     ·cases he
    | map _=>simp[hb]at he
    | tok _=>simp[hb]at he
    | _=>simp[hb]at he
  | _=>simp at he
theorem pg:∀(vs:List Value) (k off:Nat) (cells:Array Value),off+k+vs.length≤cells.size →
  ((vs.zipIdx k).foldl (fun (cs:Array Value) (x:Value×Nat)=>cs.setIfInBounds (off+x.2) x.1) cells).toList=cells.toList.take (off+k)++vs++cells.toList.drop (off+k+vs.length)
 | [],k,off,cells,_=>by simp
 | v :: vs,k,off,cells,h=>by
  simp only[List.length_cons]at h
  rw[List.zipIdx_cons,List.foldl_cons,pg vs (k+1) off _ (by simp;omega)]
  simp only[Array.toList_setIfInBounds,List.length_cons]
  have au:off+k<cells.toList.length:=by simp;omega
  rw[show off+(k+1)=off+k+1 by omega,List.take_add_one]
  rw[show off+k+1+vs.length=off+k+(vs.length+1) by omega]
  rw[List.take_set_of_le (Nat.le_refl _),List.getElem?_set_self au,List.drop_set_of_lt (by omega)]
  simp
theorem lG {off size:Nat}{v:Value}{cells:Array Value}(hs:v.cells.size=size)(hle:off+size≤cells.size) :
  (v.cells.zipIdx.foldl (fun (cs:Array Value) (x:Value×Nat)=>cs.setIfInBounds (off+x.2) x.1) cells).toList=cells.toList.take off++v.cells.toList++cells.toList.drop (off+size):=by
 have:=pg v.cells.toList 0 off cells (by simp[hs];omega)
 rw[←Array.foldl_toList,Array.toList_zipIdx]
 simpa[hs]using this
def placesOf (P:Program):List Field→List (Nat×Nat)
 | []=>[]
 | f :: fs=>(f.offset,P.cellsOf f.type) :: placesOf P fs
theorem run_places {fs:List Field}(hi:∀f∈fs,∃i,P.info? f.type=some i):(fs.mapM fun f=>do pure (f.offset,←sizeOf f.type):Sem (List (Nat×Nat))).run P w=.ok (placesOf P fs) w:=by
 induction fs with
 | nil=>simp[placesOf]
 | cons f fs ih =>
  obtain⟨i,hf⟩:=hi f (by simp)
  have ih:=ih (fun f' h'=>hi f' (by simp[h']))
  have h0:(sizeOf f.type).run P w=.ok i.size w:=by simp[sizeOf,aO hf]
  rw[List.mapM_cons]
  simp only[Sem.run_bind,h0,Result.andThen_ok,Sem.run_pure,ih]
  simp[placesOf,Program.cellsOf,hf]
inductive PV (g:Ctx)(w:World)(R:aj):List (Nat×X)→List (Nat×Value)→Prop
 | nil:PV g w R [] []
 | cons {i:Nat} {x:X} {v:Value} {ps:List (Nat×X)} {pv:List (Nat×Value)} (h:VR g w (x.ev R) v) (hs:PV g w R ps pv):PV g w R ((i,x) :: ps) ((i,v) :: pv)
theorem Cn {R:aj}{place:Nat→Option (Nat×Nat)}{ps:List (Nat×X)}{pv:List (Nat×Value)}(hv:PV g w R ps pv):∀(l:List (Nat×List T)) (z cs:List T) (cells:Array Value),(∀p∈ps,(place p.1).isSome=true) →
  dF R (ps.map fun p=>(((place p.1).getD (0,0)).1,((place p.1).getD (0,0)).2,p.2))=some l→jG z l=some cs→aW g w z cells.toList→bL z →
  ∃b8,Instr.fill place cells pv=some b8∧aW g w cs b8.toList∧bL cs∧b8.size=cells.size:=by
 induction hv with
 | nil =>
  intro l z cs cells hp hl hf hz ho
  simp[dF]at hl;subst hl
  simp[jG]at hf;subst hf
  exact⟨cells,rfl,hz,ho,rfl⟩
 | @cons i x v ps pv JF _ ih =>
  intro l z cs cells hp hl hf hz ho
  have L3:=hp (i,x) (by simp)
  cases uZ:place i with
  | none=>simp[uZ]at L3
  | some os =>
   obtain⟨off,size⟩:=os
   simp only[List.map_cons,uZ,Option.getD_some]at hl
   simp only[dF]at hl
   cases hc:(x.ev R).cells? with
   | none=>simp[hc]at hl
   | some c =>
    cases hr:dF R (ps.map fun p=>(((place p.1).getD (0,0)).1,((place p.1).getD (0,0)).2,p.2))with
    | none=>simp[hc,hr]at hl
    | some l' =>
     simp only[hc,hr]at hl
     split at hl
     ·rename_i jI
      simp at hl;subst hl
      simp only[jG]at hf
      split at hf
      ·rename_i hle
       obtain⟨rI,JG⟩:=gx JF hc
       have bn:v.cells.size=size:=by have:=rI.1;simp at this;omega
       have rJ:z.length=cells.size:=by have:=hz.1;simpa using this
       have Nd:off+size≤cells.size:=by omega
       have bZ:=lG bn Nd
       have mO:aW g w (z.take off++c++z.drop (off+c.length)) (v.cells.zipIdx.foldl (fun (cs:Array Value) (x:Value×Nat)=>cs.setIfInBounds (off+x.2) x.1) cells).toList:=by
        rw[bZ,jI]
        exact aW.append (aW.append (hz.take off) rI) (hz.drop (off+size))
       have jY:bL (z.take off++c++z.drop (off+c.length)):=by
        intro t ht
        rcases List.mem_append.1 ht with ht|ht
        ·rcases List.mem_append.1 ht with ht|ht
         ·exact ho t (List.mem_of_mem_take ht)
         ·exact JG t ht
        ·exact ho t (List.mem_of_mem_drop ht)
       obtain⟨b8,k1,k2,k3,k4⟩:=ih l' _ cs _ (fun x hx=>hp x (by simp[hx])) hr hf mO jY
       refine⟨b8,?_,k2,k3,?_⟩
       ·simp only[Instr.fill,uZ]
        rw[if_neg]
        ·exact k1
        ·simp[bn];omega
       ·rw[k4]
        have:=congrArg List.length bZ
        simp only[Array.length_toList,List.length_append,List.length_take,List.length_drop]at this
        omega
      ·cases hf
     ·cases hl
theorem wT {ty:TypeId}{fs:Array Field}{i:TypeInfo}{zv:Value}{R:aj}{ps:List (Nat×X)}{pv:List (Nat×Value)}{z cs:List T}{l:List (Nat×List T)}(hu:P.underlying ty=some (.struct fs))(hi:P.info? ty=some i)(hz:i.zero=some zv)(yG:dt zv.cells.toList=some z)
  (Sl:∀f∈fs.toList,∃i,P.info? f.type=some i) (hp:∀p∈ps,p.1<fs.size) (h:SR w0 g H w) (hv:PV g w R ps pv)
  (hl:dF R (ps.map fun p=>((((placesOf P fs.toList)[p.1]?).getD (0,0)).1,(((placesOf P fs.toList)[p.1]?).getD (0,0)).2,p.2))=some l) (hf:jG z l=some cs) :
  br P w0 g H w (Instr.build ty pv.toArray) (.agg cs) H:=by
 obtain⟨wU,xX⟩:=cG (g:=g) (w:=w) _ _ yG
 have hlen:∀l:List Field,(placesOf P l).length=l.length:=by
  intro l;induction l with
  | nil=>rfl
  | cons f l ih=>simp[placesOf,ih]
 have mB:∀p∈ps,((placesOf P fs.toList)[p.1]?).isSome=true:=fun p L4=>by
  have:=hp p L4
  rw[List.getElem?_eq_getElem (by rw[hlen];simpa using this)];rfl
 obtain⟨b8,k1,k2,k3,_⟩:=Cn (place:=fun (i:Nat)=>(placesOf P fs.toList)[i]?) hv l z cs zv.cells mB hl hf wU xX
 refine br.same h (v:=.agg b8) ?_ (by have:=k2.agg k3;simpa using this)
 have uZ:(fs.mapM fun f=>do pure (f.offset,←sizeOf f.type):Sem (Array (Nat×Nat))).run P w=.ok (placesOf P fs.toList).toArray w:=by
  rw[Array.mapM_eq_mapM_toList]
  simp only[Sem.run_map,run_places Sl,Result.andThen_ok]
 simp only[Instr.build,zeroValue,Sem.run_bind,aO hi,hz,Result.andThen_ok,Sem.run_pure,run_underlying hu,uZ]
 have e:(fun (x:Nat)=>(placesOf P fs.toList).toArray[x]?)=fun (i:Nat)=>(placesOf P fs.toList)[i]?:=by funext x;simp
 simp[e,k1]
end
section
variable {P:Program} {w0 w:World} {g:Ctx} {H:ae}
theorem iM {n:Nat}:∀(es:List (List T)) (i:Nat) (c:List T),(∀c∈es,c.length=n)→i<es.length→(es.set i c).flatten=es.flatten.take (i*n)++c++es.flatten.drop (i*n+n)
 | [],i,c,_,h=>by simp at h
 | d :: es,0,c,hn,_=>by
  have hd:=hn d (by simp)
  simp[←hd]
 | d :: es,i+1,c,hn,h=>by
  have hd:=hn d (by simp)
  have ih:=iM es i c (fun c hc=>hn c (by simp[hc])) (by simpa using h)
  simp only[List.set_cons_succ,List.flatten_cons,ih]
  have e1:(d++es.flatten).take ((i+1)*n)=d++es.flatten.take (i*n):=by
   rw[List.take_append,hd,Nat.succ_mul]
   rw[List.take_of_length_le (by omega)]
   congr 2;omega
  have e2:(d++es.flatten).drop ((i+1)*n+n)=es.flatten.drop (i*n+n):=by
   rw[List.drop_append,hd,Nat.succ_mul]
   rw[List.drop_of_length_le (by omega)]
   simp only[List.nil_append]
   congr 1;omega
  rw[e1,e2];simp
theorem yH {R:aj}{n:Nat}{ps:List (Nat×X)}{pv:List (Nat×Value)}(hv:PV g w R ps pv):∀(es fs:List (List T)) (cells:Array Value),gv n es R ps=some fs→(∀c∈es,c.length=n)→aW g w es.flatten cells.toList→bL es.flatten →
  ∃b8,Instr.fill (fun i=>some (i*n,n)) cells pv=some b8∧aW g w fs.flatten b8.toList∧bL fs.flatten∧(∀c∈fs,c.length=n)∧fs.length=es.length:=by
 induction hv with
 | nil =>
  intro es fs cells he hn hz ho
  simp[gv]at he;subst he
  exact⟨cells,rfl,hz,ho,hn,rfl⟩
 | @cons i x v ps pv JF _ ih =>
  intro es fs cells he hn hz ho
  simp only[gv]at he
  cases hc:(x.ev R).cells? with
  | none=>simp[hc]at he
  | some c =>
   simp only[hc]at he
   split at he
   ·rename_i bF
    obtain⟨jI,hi⟩:=bF
    obtain⟨rI,JG⟩:=gx JF hc
    have bn:v.cells.size=n:=by have:=rI.1;simp at this;omega
    have mN:=eC es hn
    have rJ:es.flatten.length=cells.size:=by have:=hz.1;simpa using this
    have hle:i*n+n≤cells.size:=by
     rw[←rJ,mN,←Nat.succ_mul];exact Nat.mul_le_mul_right _ hi
    have bZ:=lG bn hle
    have nI:=iM es i (c.map T.erase) hn hi
    have mO:aW g w (es.set i (c.map T.erase)).flatten (v.cells.zipIdx.foldl (fun (cs:Array Value) (x:Value×Nat)=>cs.setIfInBounds (i*n+x.2) x.1) cells).toList:=by
     rw[bZ,nI]
     exact aW.append (aW.append (hz.take _) rI.erase) (hz.drop _)
    have jY:bL (es.set i (c.map T.erase)).flatten:=by
     rw[nI]
     intro t ht
     rcases List.mem_append.1 ht with ht|ht
     ·rcases List.mem_append.1 ht with ht|ht
      ·exact ho t (List.mem_of_mem_take ht)
      ·exact nG JG t ht
     ·exact ho t (List.mem_of_mem_drop ht)
    obtain⟨b8,k1,k2,k3,k4,k5⟩:=ih _ fs _ he (fun c' eB=>by
     rcases List.mem_or_eq_of_mem_set eB with h|h
     ·exact hn c' h
     ·rw[h,List.length_map];exact jI) mO jY
    refine⟨b8,?_,k2,k3,k4,by simpa using k5⟩
    simp only[Instr.fill]
    rw[if_neg]
    ·exact k1
    ·simp[bn];omega
   ·cases he
theorem iP {n:Nat}{z:List T}{zc:Array Value}(hz:aW g w z zc.toList)(hn:z.length=n)(m:Nat):aW g w (List.replicate m z).flatten ((Array.range (m*n)).map (fun i=>zc[i%zc.size]!)).toList:=by
 have Ck:zc.size=n:=by have:=hz.1;simp at this;omega
 refine⟨by simp[hn],fun i t v a b=>?_⟩
 have hi:i<m*n:=by
  have:=(List.getElem?_eq_some_iff.1 b).1
  simpa using this
 have mQ:0<n:=by
  rcases Nat.eq_zero_or_pos n with e|e
  ·subst e;simp at hi
  ·exact e
 have L5:i/n<m:=Nat.div_lt_of_lt_mul (by rw[Nat.mul_comm];exact hi)
 have JH:i%n<z.length:=by rw[hn];exact Nat.mod_lt _ mQ
 have e1:(List.replicate m z)[i/n]?=some z:=by simp[L5]
 have:=iG (n:=n) (List.replicate m z) (fun c hc=>by rw[List.eq_of_mem_replicate hc];exact hn) (i/n) (i%n) z _ e1 (List.getElem?_eq_getElem JH)
 rw[show i/n*n+i%n=i by rw[Nat.mul_comm,Nat.div_add_mod]]at this
 rw[this]at a
 simp at a;subst a
 have au:i%zc.size<zc.toList.length:=by rw[Ck];simp[Ck];exact Nat.mod_lt _ mQ
 have e2:zc.toList[i%zc.size]?=some v:=by
  simp[hi]at b
  rw[←b,List.getElem?_eq_getElem au]
  have:i%zc.size<zc.size:=by simpa using au
  simp[this]
 rw[Ck]at e2
 exact hz.2 (i%n) _ v (List.getElem?_eq_getElem JH) e2
theorem gy {z:List T}(ho:bL z)(m:Nat):bL (List.replicate m z).flatten:=by
 intro t ht
 obtain⟨c,h1,h2⟩:=List.mem_flatten.1 ht
 rw[List.eq_of_mem_replicate h1]at h2
 exact ho t h2
theorem yI (w:World):Tr w w eY fW:=Tr.refl w
theorem Co {ty elem:TypeId}{ei:TypeInfo}{zv:Value}{R:aj}{ps:List (Nat×X)}{pv:List (Nat×Value)}{z:List T}{len:Nat}{fs:List (List T)}(hu:P.underlying ty=some (.slice elem))(hi:P.info? elem=some ei)(hz:ei.zero=some zv)(yG:dt zv.cells.toList=some z)
  (tI:z.length=ei.size) (bn:len*ei.size≤2^24) (h:SR w0 g H w) (hv:PV g w R ps pv) (he:gv z.length (List.replicate len z) R ps=some fs) :
  br P w0 g H w (Instr.buildSlice ty len pv.toArray) (.sl .full fs) H:=by
 obtain⟨wU,xX⟩:=cG (g:=g) (w:=w) _ _ yG
 have Nf:=iP wU tI len
 have JD:=gy xX len
 rw[tI]at he
 obtain⟨b8,k1,k2,k3,k4,k5⟩:=yH hv _ fs ((Array.range (len*ei.size)).map (fun i=>zv.cells[i%zv.cells.size]!)) he (fun c hc=>by rw[List.eq_of_mem_replicate hc];exact tI) Nf JD
 have hlen:fs.length=len:=by rw[k5];simp
 obtain⟨le,sr,fr,gI⟩:=h.gI (c:=b8) (ty:=elem) (yI w) rfl
 refine⟨.slice (some ⟨w.heap.size,0,none⟩) len len,_,_,?_,le,sr,?_,fr⟩
 ·have yJ:¬len*ei.size>2^24:=by omega
  by_cases h0:len*ei.size=0
  ·have e0:((Array.range (len*ei.size)).map (fun i=>zv.cells[i%zv.cells.size]!))=((Array.range (len*ei.size)).map (fun i=>(#[]:Array Value)[i%(#[]:Array Value).size]!)):=by
    rw[h0];simp
   rw[e0]at k1
   simp only[Instr.buildSlice,Sem.run_bind,run_underlying hu,Result.andThen_ok,sizeOf,aO hi,Sem.run_pure,yJ,if_false,h0,if_true]
   rw[h0]at k1
   simp at k1
   simp[k1,newRow]
  ·simp only[Instr.buildSlice,Sem.run_bind,run_underlying hu,Result.andThen_ok,sizeOf,aO hi,Sem.run_pure,yJ,if_false,h0,zeroValue,hz]
   simp[k1,newRow]
 ·have:=VR.qk (k:=.full) (r:=w.heap.size) (o:=0) (cap:=fs.length) k4 (k2.mono le) k3 (Nat.le_refl _) rfl (fun j v hj=>by rw[Nat.zero_add];exact gI j v (by simpa using hj))
  rw[hlen]at this;exact this
theorem wrap_i64 {n:Int}(h0:0≤n)(h1:n≤9223372036854775807):IntKind.i64.wrap n=n:=IntWalk.i64_in n (by omega)
theorem run_makeSlice {ty elem:TypeId}{ei:TypeInfo}{zv:Value}{k1 k2:IntKind}{l c:Int}(hu:P.underlying ty=some (.slice elem))(hi:P.info? elem=some ei)(hz:ei.zero=some zv)(h0:0≤l)(ID:l≤c)(hc:c*ei.bytes≤281474976710656)(eB:c≤9223372036854775807) :
  (Instr.makeSlice ty (.int k1 l) (.int k2 c)).run P w=.ok (.slice (some ⟨w.heap.size,0,none⟩) l.toNat c.toNat)
   (w.alloc (.cells ((Array.range (c.toNat*ei.size)).map (fun i=>(if c.toNat*ei.size=0 then(#[]:Array Value)else zv.cells)[i%(if c.toNat*ei.size=0 then(#[]:Array Value)else zv.cells).size]!)) elem)):=by
 have e1:=wrap_i64 h0 (by omega:l≤9223372036854775807)
 have e2:=wrap_i64 (by omega:0≤c) eB
 have t1:((decide (c<0)||decide ((ei.bytes:Int)*c>2^48))||decide (l<0)||decide (l>c))=false:=by
  have:(ei.bytes:Int)*c=c*ei.bytes:=Int.mul_comm _ _
  simp[this];omega
 simp only[Instr.makeSlice,Sem.run_bind,run_underlying hu,Result.andThen_ok,asInt,asIntOf,Sem.run_pure,aO hi,e1,e2,t1]
 by_cases hn:c.toNat*ei.size=0
 ·simp[sizeOf,aO hi,hn,newRow]
 ·simp[sizeOf,aO hi,hn,zeroValue,hz,newRow]
theorem Cp {ty elem:TypeId}{ei:TypeInfo}{zv:Value}{mu:Bool}{z:List T}{x y t:T}{l c:Nat}{vx vy:Value}{H':ae}(hu:P.underlying ty=some (.slice elem))(hi:P.info? elem=some ei)(hz:ei.zero=some zv)(yG:dt zv.cells.toList=some z)(tI:z.length=ei.size)(mQ:ei.size≠0)
  (h:SR w0 g H w) (hx:VR g w x vx) (hy:VR g w y vy) (hl:bB x=some l) (hc:bB y=some c) (ID:l≤c) (hb:c*ei.bytes≤281474976710656) (Vx:c≤9223372036854775807)
  (he:(if mu then(T.aE H.length 0 l z.length,H++[.cells (List.replicate l z).flatten])else if l=0 then(.sl .arg [],H)else(.sl (.own H.length l) (List.replicate l z),H++[.tok l]))=(t,H')) :
  br P w0 g H w (Instr.makeSlice ty vx vy) t H':=by
 obtain⟨wU,xX⟩:=cG (g:=g) (w:=w) _ _ yG
 obtain⟨k1,n1,rfl,a1,b1⟩:=cT hx hl
 obtain⟨k2,n2,rfl,a2,b2⟩:=cT hy hc
 have bJ:=run_makeSlice (P:=P) (w:=w) (k1:=k1) (k2:=k2) hu hi hz a1 (by omega:n1≤n2) (by
  have:(n2.toNat:Int)=n2:=Int.toNat_of_nonneg a2
  rw[←this,b2];omega) (by omega)
 rw[b1,b2]at bJ
 have rK:=iP wU tI c
 have dh:=gy xX c
 have yK:(List.replicate c z).flatten=(List.replicate l z).flatten++(List.replicate (c-l) z).flatten:=by
  rw[←List.flatten_append,List.replicate_append_replicate];congr 2;omega
 have QN:(List.replicate l z).flatten.length=l*ei.size:=by rw[eC (n:=ei.size) _ (fun c hc=>by rw[List.eq_of_mem_replicate hc];exact tI),List.length_replicate]
 have kL:(Array.range (c*ei.size)).map (fun i=>(if c*ei.size=0 then(#[]:Array Value)else zv.cells)[i%(if c*ei.size=0 then(#[]:Array Value)else zv.cells).size]!)=(Array.range (c*ei.size)).map (fun i=>zv.cells[i%zv.cells.size]!):=by
  by_cases h0:c*ei.size=0
  ·rw[h0];simp
  ·simp only[h0,if_false]
 rw[kL]at bJ
 generalize hA:(Array.range (c*ei.size)).map (fun i=>zv.cells[i%zv.cells.size]!)=A at bJ rK
 have bn:A.size=c*ei.size:=by rw[←hA];simp
 have iL:∀(i:Nat) (t:T),(List.replicate l z).flatten[i]?=some t→t.one=true∧∃v,A[i]?=some v∧VR g w t v:=by
  intro i t jy
  have e:(List.replicate c z).flatten[i]?=some t:=by
   rw[yK,List.getElem?_append_left (List.getElem?_eq_some_iff.1 jy).1];exact jy
  obtain⟨v,h1,h2⟩:=rK.eo i t e
  exact⟨dh t (List.mem_of_getElem? e),v,by simpa using h1,h2⟩
 cases mu with
 | true =>
  simp only[if_true,Prod.mk.injEq]at he
  obtain⟨rfl,rfl⟩:=he
  obtain⟨g',le,sr,fr,hφ⟩:=h.fm (c:=A) (ty:=elem) (yI w) rfl iL
  exact⟨_,_,g',bJ,le,sr,.aE (r:=w.heap.size) (o:=0) (off:=0) hφ ID (by rw[bn,tI];simp),fr⟩
 | false =>
  simp only[Bool.false_eq_true,if_false]at he
  split at he
  ·rename_i yq
   subst yq
   simp only[Prod.mk.injEq]at he
   obtain⟨rfl,rfl⟩:=he
   obtain⟨le,sr,fr,gI⟩:=h.gI (c:=A) (ty:=elem) (yI w) rfl
   exact⟨_,_,_,bJ,le,sr,.sl (n:=0) (fun _ _=>.nilIface) trivial (by simp) (by simp) (by simp) (by simp),fr⟩
  ·rename_i yq
   simp only[Prod.mk.injEq]at he
   obtain⟨rfl,rfl⟩:=he
   obtain⟨le,sr,fr,gI,hp⟩:=h.yC (c:=A) (ty:=elem) (t:=H.length) (e:=l) (k:=l*ei.size) (H':=H++[.tok l]) (yI w) rfl (dg _ _) (by rw[bn];exact Nat.mul_le_mul_right _ ID) (fun Cl _=>h.M9 (Nat.le_refl _))
    (fun b' x e hx=>bT e hx) (by simp) (fun b' x hx _=>ff hx)
   refine⟨_,_,_,bJ,le,sr,?_,fr⟩
   have hv:aW g w (List.replicate l z).flatten (A.toList.take (l*ei.size)):=by
    have:=rK.take (l*ei.size)
    rwa[yK,List.take_append_of_le_length (by omega),List.take_of_length_le (by omega)]at this
   have:=VR.qk (k:=.own H.length l) (r:=w.heap.size) (o:=0) (cap:=c) (n:=ei.size) (es:=List.replicate l z) (fun c hc=>by rw[List.eq_of_mem_replicate hc];exact tI) (hv.mono le) (gy xX l) (by simpa using ID)
    ⟨by rw[hp,bn];simp,by simp;omega⟩ (fun j v hj=>by
     rw[Nat.zero_add]
     rw[List.getElem?_take]at hj
     split at hj
     ·rename_i au;exact gI j v au (by simpa using hj)
     ·cases hj)
   simpa using this
theorem Cq {f:Nat}{iB:List T}{vs:List Value}(h:SR w0 g H w)(hv:aW g w iB vs):br P w0 g H w (Instr.makeFunc (.func f) #[] vs.toArray) (.fn f iB) H :=
 br.same h rfl (.fn (by simp[hv.1]) (fun i t v a b=>hv.2 i t v a (by simpa using b)))
end
section
variable {P:Program} {w0 w:World} {g:Ctx} {H:ae}
theorem VR.wz {t:T}{v:Value}(h:VR g w t v):VR g w (wz t) v:=by
 cases h with
 | cQ h hc hq=>exact .aE h hc hq
 | aE h hc hq=>exact .aE h hc hq
 | int k n=>exact .int k n
 | bool b=>exact .bool b
 | str s=>exact .str s
 | fb=>exact .fb
 | ptr h=>exact .ptr h
 | cy b6 h1 h2=>exact .cy b6 h1 h2
 | fc=>exact .fc
 | map h=>exact .map h
 | slnil=>exact .slnil
 | fT a=>exact .fT a
 | sl b6 hk hc hn h1 h2=>exact .sl b6 hk hc hn h1 h2
 | kr=>exact .kr
 | fn hl h=>exact .fn hl h
 | lz h=>exact .lz h
 | eJ=>exact .eJ
 | agg hl h1 h2=>exact .agg hl h1 h2
 | bE hl h2=>exact .bE hl h2
theorem Cr {ty rt:TypeId}{e:TypeId}{b off len n c:Nat}{vx:Value}(hu:P.underlying ty=some (.slice e))(h:SR w0 g H w)(hx:VR g w (.cQ b off len n c) vx) :
  br P w0 g H w (Builtin.cap_ #[ty] rt #[vx]) (.int .i64 (c:Nat)) H:=by
 cases hx with
 | cQ hφ hc hq=>exact br.same h (v:=.int .i64 c) (by simp[Builtin.cap_,run_underlying hu,goInt]) (.int _ _)
theorem nJ (cs:List T)(off n:Nat):∀k,off+k*n≤cs.length→((List.range k).map fun i=>(cs.drop (off+i*n)).take n).flatten=(cs.drop off).take (k*n)
 | 0,_=>by simp
 | k+1,h=>by
  have h':off+k*n≤cs.length:=by rw[Nat.succ_mul]at h;omega
  rw[List.range_succ,List.map_append,List.flatten_append,nJ cs off n k h',Nat.succ_mul,List.take_add]
  simp[List.drop_drop]
theorem ph {n k:Nat}{y:T}{vy:Value}{new:List (List T)}(h:SR w0 g H w)(hy:VR g w y vy)(he:eL H n k y=some new) :
  ∃r o ly cap vs,vy=.slice (some ⟨r,o,none⟩) ly cap∧x9 y=some ly∧(∀(j:Nat) (v:Value),vs[j]?=some v→w.cell? ⟨r,o+j,none⟩=some v)∧aW g w new.flatten vs∧vs.length=k*n∧bL new.flatten∧new.flatten.length=k*n:=by
 have key:∀(b off:Nat) (r o q:Nat),g.φ b=some (r,o,q)→(match H[b]? with|some (.cells cs)=>if off+k*n≤cs.length then some ((List.range k).map fun i=>(cs.drop (off+i*n)).take n)else none|_=>none)=some new →
   ∃vs,(∀(j:Nat) (v:Value),vs[j]?=some v→w.cell? ⟨r,o+off+j,none⟩=some v)∧aW g w new.flatten vs∧vs.length=k*n∧bL new.flatten∧new.flatten.length=k*n:=by
  intro b off r o q hφ he
  cases hb:H[b]? with
  | none=>simp[hb]at he
  | some z =>
   cases z<;>simp only[hb]at he<;>(try (cases he;done))
   rename_i cs
   split at he
   ·rename_i hle
    simp only[Option.some.injEq]at he
    have mN:=nJ cs off n k hle
    rw[he]at mN
    have hp:ku H (k*n) (.ptr b off)=some new.flatten:=by simp[ku,hb,hle,mN]
    obtain⟨r',o',vs,e1,e2,e3,e4,e5⟩:=jU h (.ptr hφ) hp
    cases e1
    exact⟨vs,e3,e4,e2,e5,by rw[mN,List.length_take,List.length_drop];omega⟩
   ·cases he
 cases hy<;>simp only[eL]at he<;>(try (cases he;done))
 ·rename_i b off len n' r o q cap hφ hc hq
  obtain⟨vs,a1,a2,a3,a4,a5⟩:=key b off r o q hφ (by
   cases hb:H[b]? with
   | none=>simp[hb]at he
   | some z =>
    cases z<;>simp only[hb]at he ⊢<;>(try (cases he;done))
    split at he
    ·rename_i ql;rw[if_pos ql.2];exact he
    ·cases he)
  exact⟨r,o+off,len,cap,vs,rfl,rfl,a1,a2,a3,a4,a5⟩
 ·rename_i b off len n' r o q cap hφ hc hq
  obtain⟨vs,a1,a2,a3,a4,a5⟩:=key b off r o q hφ (by
   cases hb:H[b]? with
   | none=>simp[hb]at he
   | some z =>
    cases z<;>simp only[hb]at he ⊢<;>(try (cases he;done))
    split at he
    ·rename_i ql;rw[if_pos ql.2];exact he
    ·cases he)
  exact⟨r,o+off,len,cap,vs,rfl,rfl,a1,a2,a3,a4,a5⟩
theorem SR.Ft {b off r o q:Nat}{cs ts:List T}{vs:List Value}(h:SR w0 g H w)(hb:H[b]?=some (.cells cs))(hφ:g.φ b=some (r,o,q))(wK:off≤cs.length)(hle:o+off+ts.length≤q)(hv:aW g w ts vs)(ho:bL ts) :
  Le g w g (w.setCells r (o+off) vs)∧SR w0 g (H.set b (.cells (cs.take off++ts++cs.drop (off+ts.length)))) (w.setCells r (o+off) vs):=by
 have jX:b<H.length:=(List.getElem?_eq_some_iff.1 hb).1
 obtain⟨h1,h2,h3⟩:=h.cu b _ hb r o q hφ
 have hl:=hv.1
 have hs:∀j,o+off≤j→j<o+off+vs.length→(w.cell? ⟨r,j,none⟩).isSome=true:=fun j a c=>(h2 j (by omega) (by omega)).2.2
 have tr:=Tr.setCells w r (o+off) vs hs
 have hS:∀r' j,rE r (o+off) vs.length r' j→g.κ r' j=.mut b:=by
  rintro r' j⟨rfl,a,c⟩;exact(h2 j (by omega) (by omega)).1
 have le:Le g w g (w.setCells r (o+off) vs):=Le.fD tr (fun _ _ h=>h) (fun _ _ h=>h) (fun _ _ _ h=>h) (fun r' j gh e=>by rw[hS r' j gh]at e;cases e)
 refine⟨le,h.step (fun b'=>b'=b) tr le (fun r' j gh=>.inr (.inl ⟨b,hS r' j gh,rfl⟩)) (fun _ hm=>hm.elim) (fun r' j hr=>h.fresh r' j (by rwa[cH]at hr)) (fun b' x hx=>by rw[List.length_set];exact h.ni b' x hx)
  (fun t e x hx=>by rw[List.length_set];exact h.fe t e x hx) (fun _ _ _=>rfl) (fun _ _ _ _=>⟨id,id⟩) (fun _ _ _ _=>rfl) (fun b' x hx=>?_)⟩
 rcases cz jX hx with⟨rfl,rfl⟩|⟨ba,gg⟩
 ·right
  intro r' o' q' iw
  rw[hφ]at iw;cases iw
  have hlen:(cs.take off++ts++cs.drop (off+ts.length)).length=max cs.length (off+ts.length):=by simp;omega
  refine⟨by rw[hlen];omega,fun j a c=>⟨(h2 j a c).1,by rw[World.frozen?_setCells];exact(h2 j a c).2.1,tr.cP r j ?_ (h2 j a c).2.2⟩,fun i t hi=>?_⟩
  ·obtain⟨x,hx⟩:=Option.isSome_iff_exists.1 (h2 j a c).2.2;exact gN hx
  ·have jy:i<max cs.length (off+ts.length):=by rw[←hlen];exact(List.getElem?_eq_some_iff.1 hi).1
   by_cases ib:off≤i∧i<off+ts.length
   ·have ht:ts[i-off]?=some t:=by
     rw[List.append_assoc,List.getElem?_append_right (by simp;omega),List.getElem?_append_left (by simp;omega)]at hi
     rw[←hi];congr 1;simp;omega
    have au:i-off<vs.length:=by omega
    refine⟨ho t (List.mem_of_getElem? ht),vs[i-off],?_,(hv.2 _ t _ ht (List.getElem?_eq_getElem au)).mono le⟩
    have:=bX r vs (o+off) w hs (i-off) _ (List.getElem?_eq_getElem au)
    rwa[show o+off+(i-off)=o+i by omega]at this
   ·have ht:cs[i]?=some t:=by
     by_cases au:i<off
     ·rw[List.append_assoc,List.getElem?_append_left (by simp;omega),List.getElem?_take,if_pos au]at hi;exact hi
     ·rw[List.getElem?_append_right (by simp;omega),List.getElem?_drop]at hi
      rw[←hi];congr 1;simp;omega
    obtain⟨a,v,Fm,Fo⟩:=h3 i t ht
    refine⟨a,v,?_,Fo.mono le⟩
    rw[bS r vs (o+off) w r (o+i) (by omega)];exact Fm
 ·exact .inl ⟨ba,gg⟩
theorem wV (w:World)(dT sT ty elem:TypeId){ei:TypeInfo}(b o Fu Ng:Nat)(a:Addr)(Fv Nh:Nat)(cs:List Value)
  (hu:P.underlying dT=some (.slice elem)) (hi:P.info? elem=some ei) (hn:cs.length=Nat.min Fv Fu*ei.size)
  (oQ:∀(j:Nat) v,cs[j]?=some v→w.cell? (a.add j)=some v) (hc:∀j,j<cs.length→(w.cell? ⟨b,o+j,none⟩).isSome=true) (hf:∀j,j<cs.length→w.frozen? ⟨b,o+j,none⟩=false) (h1:∀v∈cs,v.oneCell'=true) :
  (Builtin.copy_ #[dT,sT] ty #[.slice (some ⟨b,o,none⟩) Fu Ng,.slice (some a) Fv Nh]).run P w=.ok (goInt (Nat.min Fv Fu:Nat)) (w.setCells b o cs):=by
 have hl:=run_loadCells_list (P:=P) w a cs oQ
 have cn:=run_storeCells_cells (P:=P) b o cs 0 w (by simpa using hc) (by simpa using hf) h1
 rw[hn]at hl
 have hq:(typeInfo elem).run P w=.ok ei w:=aO hi
 simp[Builtin.copy_,run_underlying hu,Builtin.lenOf,Builtin.firstCells,sizeOf,hq,hl,cn]
theorem Cs {dT sT rt elem:TypeId}{ei:TypeInfo}{x y t:T}{vx vy:Value}{H':ae}(hu:P.underlying dT=some (.slice elem))(hi:P.info? elem=some ei)
  (h:SR w0 g H w) (hx:VR g w x vx) (hy:VR g w y vy) (he:wB H ei.size x y=some (t,H')):br P w0 g H w (Builtin.copy_ #[dT,sT] rt #[vx,vy]) t H':=by
 have key:∀b off len n' r o q cap,g.φ b=some (r,o,q)→len≤cap→o+off+cap*n'=q→vx=.slice (some ⟨r,o+off,none⟩) len cap →
   (∀ly,x9 y=some ly→∀cs new,H[b]?=some (.cells cs)→eL H ei.size (min ly len) y=some new→n'=ei.size∧ei.size≠0∧off≤cs.length →
    t=.int .i64 (min ly len:Nat)→H'=H.set b (.cells (cs.take off++new.flatten++cs.drop (off+(min ly len)*ei.size)))→br P w0 g H w (Builtin.copy_ #[dT,sT] rt #[vx,vy]) t H'):=by
  rintro b off len n' r o q cap hφ hc hq rfl ly Ct cs new hb hK⟨rfl,mQ,wK⟩ rfl rfl
  obtain⟨r2,o2,Vy,qg,vs,rfl,JI,a1,a2,a3,a4,a5⟩:=ph h hy hK
  rw[Ct]at JI;cases JI
  have jX:b<H.length:=(List.getElem?_eq_some_iff.1 hb).1
  obtain⟨h1,h2,h3⟩:=h.cu b _ hb r o q hφ
  have hmul:min ly len*ei.size≤cap*ei.size:=Nat.mul_le_mul_right _ (by omega)
  have bJ:=wV (P:=P) w dT sT rt elem r (o+off) len cap ⟨r2,o2,none⟩ ly qg vs hu hi (by rw[a3]) (fun j v hj=>by rw[b7];exact a1 j v hj) (fun j hj=>(h2 _ (by omega) (by omega)).2.2) (fun j hj=>(h2 _ (by omega) (by omega)).2.1) (a2.fU a4)
  obtain⟨le,sr⟩:=h.Ft hb hφ wK (by rw[a5];omega) a2 a4
  rw[a5]at sr
  refine⟨_,_,g,bJ,le,sr,by simpa[goInt]using .int _ _,by simp,fun b' y' a _ d=>⟨db a ?_,d⟩⟩
  rintro rfl;rw[hφ]at d;cases d
 unfold wB at he
 cases hx<;>simp only[]at he<;>(try (cases he;done))
 all_goals
  rename_i b off len n' r o q cap hφ hc hq
  cases Ct:x9 y with
  | none=>simp[Ct]at he
  | some ly =>
   simp only[Ct]at he
   cases hb:H[b]? with
   | none=>simp[hb]at he
   | some z =>
    cases hK:eL H ei.size (min ly len) y with
    | none=>cases z<;>simp[hb,hK]at he
    | some new =>
     cases z<;>simp only[hb,hK]at he<;>(try (cases he;done))
     split at he
     ·rename_i ql
      simp only[Option.some.injEq,Prod.mk.injEq]at he
      exact key b off len n' r o q cap hφ hc hq rfl ly Ct _ new hb hK ql he.1.symm he.2.symm
     ·cases he
theorem yL {R:aj}{n:Nat}{ps:List (Nat×X)}{pv:List (Nat×Value)}(hv:PV g w R ps pv):∀(es fs:List (List T)) (cells:Array Value),gw n es R ps=some fs→(∀c∈es,c.length=n)→aW g w es.flatten cells.toList→bL es.flatten →
  ∃b8,Instr.fill (fun i=>some (i*n,n)) cells pv=some b8∧aW g w fs.flatten b8.toList∧bL fs.flatten∧(∀c∈fs,c.length=n)∧fs.length=es.length:=by
 induction hv with
 | nil =>
  intro es fs cells he hn hz ho
  simp[gw]at he;subst he
  exact⟨cells,rfl,hz,ho,hn,rfl⟩
 | @cons i x v ps pv JF _ ih =>
  intro es fs cells he hn hz ho
  simp only[gw]at he
  cases hc:(x.ev R).cells? with
  | none=>simp[hc]at he
  | some c =>
   simp only[hc]at he
   split at he
   ·rename_i bF
    obtain⟨jI,hi⟩:=bF
    obtain⟨rI,JG⟩:=gx JF hc
    have bn:v.cells.size=n:=by have:=rI.1;simp at this;omega
    have mN:=eC es hn
    have rJ:es.flatten.length=cells.size:=by have:=hz.1;simpa using this
    have hle:i*n+n≤cells.size:=by
     rw[←rJ,mN,←Nat.succ_mul];exact Nat.mul_le_mul_right _ hi
    have bZ:=lG bn hle
    have nI:=iM es i c hn hi
    have mO:aW g w (es.set i c).flatten (v.cells.zipIdx.foldl (fun (cs:Array Value) (x:Value×Nat)=>cs.setIfInBounds (i*n+x.2) x.1) cells).toList:=by
     rw[bZ,nI]
     exact aW.append (aW.append (hz.take _) rI) (hz.drop _)
    have jY:bL (es.set i c).flatten:=by
     rw[nI]
     intro t ht
     rcases List.mem_append.1 ht with ht|ht
     ·rcases List.mem_append.1 ht with ht|ht
      ·exact ho t (List.mem_of_mem_take ht)
      ·exact JG t ht
     ·exact ho t (List.mem_of_mem_drop ht)
    obtain⟨b8,k1,k2,k3,k4,k5⟩:=ih _ fs _ he (fun c' eB=>by
     rcases List.mem_or_eq_of_mem_set eB with h|h
     ·exact hn c' h
     ·rw[h];exact jI) mO jY
    refine⟨b8,?_,k2,k3,k4,by simpa using k5⟩
    simp only[Instr.fill]
    rw[if_neg]
    ·exact k1
    ·simp[bn];omega
   ·cases he
theorem Cu {ty elem:TypeId}{ei:TypeInfo}{zv:Value}{R:aj}{ps:List (Nat×X)}{pv:List (Nat×Value)}{z:List T}{len:Nat}{fs:List (List T)}(hu:P.underlying ty=some (.slice elem))(hi:P.info? elem=some ei)(hz:ei.zero=some zv)(yG:dt zv.cells.toList=some z)
  (tI:z.length=ei.size) (bn:len*ei.size≤2^24) (h:SR w0 g H w) (hv:PV g w R ps pv) (he:gw z.length (List.replicate len z) R ps=some fs) :
  br P w0 g H w (Instr.buildSlice ty len pv.toArray) (.aE H.length 0 len z.length) (H++[.cells fs.flatten]):=by
 obtain⟨wU,xX⟩:=cG (g:=g) (w:=w) _ _ yG
 have Nf:=iP wU tI len
 have JD:=gy xX len
 rw[tI]at he
 obtain⟨b8,k1,k2,k3,k4,k5⟩:=yL hv _ fs ((Array.range (len*ei.size)).map (fun i=>zv.cells[i%zv.cells.size]!)) he (fun c hc=>by rw[List.eq_of_mem_replicate hc];exact tI) Nf JD
 have hlen:fs.length=len:=by rw[k5];simp
 have mN:fs.flatten.length=len*ei.size:=by rw[eC fs k4,hlen]
 have tC:b8.size=len*ei.size:=by have:=k2.1;simp only[Array.length_toList]at this;omega
 obtain⟨g',le,sr,fr,hφ⟩:=h.fm (c:=b8) (ty:=elem) (cs:=fs.flatten) (yI w) rfl (fun i t hi=>by
  obtain⟨v,a1,a2⟩:=k2.eo i t hi
  exact⟨k3 t (List.mem_of_getElem? hi),v,by simpa using a1,a2⟩)
 refine⟨.slice (some ⟨w.heap.size,0,none⟩) len len,_,g',?_,le,sr,?_,fr⟩
 ·have yJ:¬len*ei.size>2^24:=by omega
  by_cases h0:len*ei.size=0
  ·have e0:((Array.range (len*ei.size)).map (fun i=>zv.cells[i%zv.cells.size]!))=((Array.range (len*ei.size)).map (fun i=>(#[]:Array Value)[i%(#[]:Array Value).size]!)):=by
    rw[h0];simp
   rw[e0]at k1
   simp only[Instr.buildSlice,Sem.run_bind,run_underlying hu,Result.andThen_ok,sizeOf,aO hi,Sem.run_pure,yJ,if_false,h0,if_true]
   rw[h0]at k1
   simp at k1
   simp[k1,newRow]
  ·simp only[Instr.buildSlice,Sem.run_bind,run_underlying hu,Result.andThen_ok,sizeOf,aO hi,Sem.run_pure,yJ,if_false,h0,zeroValue,hz]
   simp[k1,newRow]
 ·rw[tI]
  exact .aE (r:=w.heap.size) (o:=0) (off:=0) hφ (Nat.le_refl _) (by rw[tC];simp)
theorem Cv {sT xT elem rt:TypeId}{ei:TypeInfo}{zv:Value}{z:List T}{kq kn:IntKind}{x t:T}{vx:Value}{k:Nat}{H':ae}(hu:P.underlying sT=some (.slice elem))(Cw:P.underlying xT=some (.int kn))(hi:P.info? elem=some ei)(hz:ei.zero=some zv)(yG:dt zv.cells.toList=some z)
  (hb:ei.bytes≠0) (h:SR w0 g H w) (hx:VR g w x vx) (he:yc H ei.size ei.bytes z x k=some (t,H')):br P w0 g H w (Builtin.append_ #[sT,xT] rt #[vx,.int kq k]) t H':=by
 unfold yc at he
 cases x<;>simp only[]at he<;>(try (cases he;done))
 rename_i b off len n' c
 cases hK:eL H ei.size len (.cQ b off len n' c)with
 | none=>simp[hK]at he
 | some es =>
  simp only[hK]at he
  split at he
  ·rename_i ql
   obtain⟨rfl,mQ,Ni,jI,tI,fF⟩:=ql
   simp only[Option.some.injEq,Prod.mk.injEq]at he
   obtain⟨rfl,rfl⟩:=he
   obtain⟨r,o,ly,cap,vs,rfl,Ct,a1,a2,a3,a4,a5⟩:=ph h hx hK
   cases Ct
   have iD:cap=c:=by cases hx;rfl
   subst iD
   obtain⟨wU,xX⟩:=cG (g:=g) (w:=w) _ _ yG
   have hold:(Builtin.firstCells ei.size len (.slice (some ⟨r,o,none⟩) len cap)).run P w.drew=.ok vs.toArray w.drew:=by
    have:=run_loadCells_list (P:=P) w.drew ⟨r,o,none⟩ vs (fun j v hj=>by rw[b7];exact a1 j v hj)
    rw[a3]at this
    simpa[Builtin.firstCells]using this
   have L6:¬Builtin.nextslicecap (len+k) cap*ei.bytes>2^48:=uW jI fF
   have hr:=fF
   simp only[cr,decide_eq_true_eq]at hr
   have D9:(len+k)*ei.bytes≤281474976710656:=Nat.le_trans (Nat.mul_le_mul_right _ (by omega)) hr
   have Nj:len+k≤281474976710656:=Nat.le_trans (Nat.le_mul_of_pos_right _ (by omega)) D9
   have Fx:k*ei.bytes≤281474976710656:=Nat.le_trans (Nat.mul_le_mul_right _ (by omega)) D9
   have bJ:=Go.Lib.run_append_grow_zeros (P:=P) w sT xT rt elem ei zv kq kn hu Cw hi hz (some ⟨r,o,none⟩) len cap vs hold k Ni (by omega) jI (by omega) Fx (by omega)
   have Ck:zv.cells.toList.length=ei.size:=by have:=wU.1;omega
   have JJ:zv.cells.size=ei.size:=by simpa using Ck
   have yF:aW g w (es.flatten++(List.replicate k z).flatten) (vs++(Builtin.zeroCells zv.cells k).toList):=by
    refine aW.append a2 ?_
    have:=iP wU tI k
    simpa[Builtin.zeroCells,JJ]using this
   have fN:=grownCap_ge w (len+k) cap elem
   generalize grownCap w (len+k) cap elem=nc at bJ fN
   have JK:bL (es.flatten++(List.replicate k z).flatten):=fun t ht=>by
    rcases List.mem_append.1 ht with ht|ht
    ·exact a4 t ht
    ·exact gy xX k t ht
   have bn:(vs.toArray++Builtin.zeroCells zv.cells k++Builtin.zeroCells zv.cells (nc-(len+k))).size=nc*ei.size:=by
    simp only[Array.size_append,iJ,List.size_toArray,a3,JJ]
    rw[←Nat.add_mul,←Nat.add_mul];congr 1;omega
   obtain⟨g',le,sr,fr,hφ⟩:=h.fm (c:=vs.toArray++Builtin.zeroCells zv.cells k++Builtin.zeroCells zv.cells (nc-(len+k))) (ty:=elem) (cs:=es.flatten++(List.replicate k z).flatten) (mP w) rfl (fun i t hi=>by
    obtain⟨v,b1,b2⟩:=yF.eo i t hi
    refine⟨JK t (List.mem_of_getElem? hi),v,?_,b2⟩
    rw[List.getElem?_toArray]at b1
    have au:=(List.getElem?_eq_some_iff.1 b1).1
    have e:(vs.toArray++Builtin.zeroCells zv.cells k++Builtin.zeroCells zv.cells (nc-(len+k))).toList=(vs++(Builtin.zeroCells zv.cells k).toList)++(Builtin.zeroCells zv.cells (nc-(len+k))).toList:=by simp
    rw[←Array.getElem?_toList,e,List.getElem?_append_left au];exact b1)
   refine⟨_,_,g',bJ,le,sr,?_,fr⟩
   exact .aE (r:=w.heap.size) (o:=0) (off:=0) hφ fN (by rw[bn];simp)
  ·cases he
end
section
variable {P:Program} {w0 w:World} {g:Ctx} {H:ae}
theorem oT {params results:Array TypeId}(tS e:TypeId)(hp:params[0]?=some tS)(ht:P.underlying tS=some (.slice e))(size:Nat)(hz:(Go.sizeOf e).run P w=.ok size w)
  (a b:Addr) (la ca lb cb:Nat) (ba:a.block≠b.block) (tA tB:TypeId) (kA kB:Nat)
  (Nk:w.shape? a.block=some (tA,kA)) (L0:w.shape? b.block=some (tB,kB)) (Nl:kB≠0)
  (Sm:w.frozen? a=false) (Sn:w.frozen? { block:=a.block,off:=kA }=false) :
  (Extern.SlicesOverlaps.overlaps params results #[.slice (some a) la ca,.slice (some b) lb cb]).run P w=.ok (.bool false) w:=by
 have L6:(a.block != b.block)=true:=by simpa using ba
 have Fy:(a.block==b.block)=false:=by simpa using ba
 conv=>lhs;arg 2;whnf
 simp only[hp]
 by_cases h0:la=0∨lb=0∨size=0
 ·simp[run_underlying ht,hz,h0]
 ·cases kB with
  | zero=>exact absurd rfl Nl
  | succ kB =>
   simp[run_underlying ht,hz,h0,L6,Fy,frozen,noView,viewAt,mayBeOne,stringish,shape,Sem.run,Nk,L0,Sm,Sn]
theorem qm {params results:Array TypeId}(tS e:TypeId)(hp:params[0]?=some tS)(ht:P.underlying tS=some (.slice e))(size:Nat)(hz:(Go.sizeOf e).run P w=.ok size w)
  (a b:Addr) (la ca lb cb:Nat) (ba:a.block=b.block) (hd:la≠0→lb≠0→size≠0→¬(a.off<b.off+lb*size∧b.off<a.off+la*size)) :
  (Extern.SlicesOverlaps.overlaps params results #[.slice (some a) la ca,.slice (some b) lb cb]).run P w=.ok (.bool false) w:=by
 have L6:(a.block != b.block)=false:=by simpa using ba
 have Fy:(a.block==b.block)=true:=by simpa using ba
 conv=>lhs;arg 2;whnf
 simp only[hp]
 by_cases h0:la=0∨lb=0∨size=0
 ·simp[run_underlying ht,hz,h0]
 ·have h1:=hd (fun h=>h0 (.inl h)) (fun h=>h0 (.inr (.inl h))) (fun h=>h0 (.inr (.inr h)))
  simp[run_underlying ht,hz,h0,L6,Fy]
  intro au
  have:¬b.off<a.off+la*size:=fun h=>h1 ⟨au,h⟩
  omega
theorem kM {params results:Array TypeId}(tS e:TypeId)(hp:params[0]?=some tS)(ht:P.underlying tS=some (.slice e))(size:Nat)(hz:(Go.sizeOf e).run P w=.ok size w)
  (a b:Addr) (la ca lb cb:Nat) (h0:la=0∨size=0) :
  (Extern.SlicesOverlaps.overlaps params results #[.slice (some a) la ca,.slice (some b) lb cb]).run P w=.ok (.bool false) w:=by
 have h0:la=0∨lb=0∨size=0:=by rcases h0 with h|h;exact .inl h;exact .inr (.inr h)
 conv=>lhs;arg 2;whnf
 simp only[hp]
 simp[run_underlying ht,hz,h0]
theorem rL {r j:Nat}(h:(w.cell? ⟨r,j,none⟩).isSome=true):∃t k,w.shape? r=some (t,k)∧k≠0:=by
 unfold World.cell? at h
 unfold World.shape?
 cases hr:w.heap[r]? with
 | none=>simp[hr]at h
 | some x =>
  cases x<;>simp[hr]at h ⊢
  rename_i c t f
  exact⟨_,_,⟨rfl,rfl⟩,by omega⟩
theorem Cx {params results:Array TypeId}{tS e:TypeId}{ei:TypeInfo}{x y t:T}{vx vy:Value}{H':ae}(hp:params[0]?=some tS)(ht:P.underlying tS=some (.slice e))(hi:P.info? e=some ei)
  (h:SR w0 g H w) (hx:VR g w x vx) (hy:VR g w y vy) (he:wC H ei.size x y=some (t,H')):br P w0 g H w (Extern.SlicesOverlaps.overlaps params results #[vx,vy]) t H':=by
 have hz:(Go.sizeOf e).run P w=.ok ei.size w:=by simp[sizeOf,aO hi]
 unfold wC at he
 cases hx<;>(try (simp only[reduceCtorEq]at he;done))<;>(try (cases he;done))
 rename_i bv Cy lv n1 r' o' q' qg iw eB JE
 cases hy<;>(try (simp only[reduceCtorEq]at he;done))<;>(try (cases he;done))
 rename_i b off len n2 r o q c hφ hc hq
 cases L7:H[bv]? with
 | none=>simp[L7]at he
 | some zv =>
  cases hb:H[b]? with
  | none=>cases zv<;>simp[L7,hb]at he
  | some z =>
   cases zv<;>cases z<;>simp only[L7,hb]at he<;>(try (cases he;done))
   rename_i Vz cs
   split at he
   ·rename_i ql
    obtain⟨ba,rfl,Ea,Fz⟩:=ql
    simp only[Option.some.injEq,Prod.mk.injEq]at he
    obtain⟨rfl,rfl⟩:=he
    subst Ea
    obtain⟨a1,a2,a3⟩:=h.cu _ _ L7 r' o' q' iw
    obtain⟨b1,b2,b3⟩:=h.cu _ _ hb r o q hφ
    by_cases hr:r'=r
    ·subst hr
     refine br.same h (qm tS e hp ht _ hz _ _ _ _ _ _ rfl fun hl QO hs hh=>?_) (.bool _)
     obtain⟨h1,h2⟩:=hh
     simp only at h1 h2
     have m1:lv*ei.size≤qg*ei.size:=Nat.mul_le_mul_right _ eB
     have m2:len*ei.size≤c*ei.size:=Nat.mul_le_mul_right _ hc
     have p1:0<lv*ei.size:=Nat.mul_pos (by omega) (by omega)
     have p2:0<len*ei.size:=Nat.mul_pos (by omega) (by omega)
     have k1:=(a2 (max (o'+Cy) (o+off)) (by omega) (by omega)).1
     have k2:=(b2 (max (o'+Cy) (o+off)) (by omega) (by omega)).1
     rw[k1]at k2;cases k2;exact ba rfl
    ·by_cases So:lv=0
     ·subst So
      refine br.same h ?_ (.bool _)
      exact kM tS e hp ht _ hz _ _ _ _ _ _ (.inl rfl)
     ·by_cases hs:ei.size=0
      ·refine br.same h ?_ (.bool _)
       exact kM tS e hp ht _ hz _ _ _ _ _ _ (.inr hs)
      ·have m1:lv*ei.size≤qg*ei.size:=Nat.mul_le_mul_right _ eB
       have p1:0<lv*ei.size:=Nat.mul_pos (by omega) (by omega)
       have rK:=a2 (o'+Cy) (by omega) (by omega)
       have Sp:=b2 o (Nat.le_refl _) (by omega)
       have gk:w0.heap.size≤r':=by
        rcases Nat.lt_or_ge r' w0.heap.size with au|fN
        ·have:=h.wH r' (o'+Cy) au;rw[rK.1]at this;cases this
        ·exact fN
       obtain⟨tA,kA,Nk,_⟩:=rL rK.2.2
       obtain⟨tB,kB,L0,Nl⟩:=rL Sp.2.2
       exact br.same h (oT tS e hp ht _ hz _ _ _ _ _ _ hr tA tB kA kB Nk L0 Nl (h.ng r' _ gk) (h.ng r' _ gk)) (.bool _)
   ·cases he
end
end Go.Rmp
end

section
namespace Go.Rmp
open Go.ChangeMaps (setBlock)
section
variable {P:Program} {w0 w:World} {g:Ctx} {H:ae}
theorem SR.JL {w':World}(h:SR w0 g H w)(tr:Tr w w' eY fW)(hz:w'.heap.size=w.heap.size):SR w0 g H w'∧Le g w g w':=by
 have le:Le g w g w':=Le.fD tr (fun _ _ h=>h) (fun _ _ h=>h) (fun _ _ _ h=>h) (fun _ _ hs=>hs.elim)
 refine⟨?_,le⟩
 exact h.step (fun _=>False) tr le (fun _ _ hs=>hs.elim) (fun _ hm=>hm.elim) (fun r o hr=>h.fresh r o (by omega)) h.ni h.fe (fun _ _ _=>rfl) (fun _ _ _ _=>⟨id,id⟩) (fun _ _ _ _=>rfl) (fun b x hx=>.inl ⟨id,hx⟩)
theorem FA {b:Nat}{vm:Value}{es:List (T×T)}(h:SR w0 g H w)(hm:VR g w (.map b) vm)(iz:eX H (.map b)=some es) :
  ∃r o q,vm=.map (some r)∧g.φ b=some (r,o,q)∧g.κ r 0=.mut b∧b<H.length∧∃al clock,w.heap[r]?=some (.map al clock)∧cR g w es al∧dG al clock:=by
 cases hm with
 | @map _ r o q hφ =>
  simp only[eX]at iz
  cases hb:H[b]? with
  | none=>simp[hb]at iz
  | some y =>
   have jX:=(List.getElem?_eq_some_iff.1 hb).1
   cases y<;>simp[hb]at iz
   ·subst iz
    obtain⟨h1,al,c,h2,h3,h4⟩:=h.cu b _ hb r o q hφ
    exact⟨r,o,q,rfl,hφ,h1,jX,al,c,h2,h3,h4⟩
   ·subst iz
    obtain⟨r2,o',q',iw,h1,al,c,h2,h3,h4,_⟩:=h.cu b _ hb
    rw[hφ]at iw;cases iw
    exact⟨r,o,q,rfl,hφ,h1,jX,al,c,h2,h3,h4⟩
theorem Cz {ty key elem:TypeId}{b:Nat}{vm:Value}{es:List (T×T)}(hu:P.underlying ty=some (.map key elem))(h:SR w0 g H w)(hm:VR g w (.map b) vm)(iz:eX H (.map b)=some es) :
  br P w0 g H w (Instr.range ty vm) (.ptr H.length 0) (H.set b (.da es (List.range es.length) H.length none)++[.uL b]):=by
 obtain⟨r,o,q,rfl,hφ,hk,jX,al,c,h2,h3,h4⟩:=FA h hm iz
 have Nn:dH (.mapIter (some r) c #[] c)=true:=rfl
 have rF:=Tr.alloc w (.mapIter (some r) c #[] c) (.inl Nn)
 have ba:∀r j ow,g.κ r j=ow→ow≠.free→r≠w.heap.size:=by rintro r j ow e hn rfl;exact hn (e▸h.fresh _ j (Nat.le_refl _))
 have No:=h.Ce (b:=H.length) (Nat.le_refl _)
 have Np:=ba r 0 _ hk (by simp)
 have le:Le g w ((g.row w.heap.size fun _=>.mut b).at H.length (w.heap.size,0,0)) (w.alloc (.mapIter (some r) c #[] c)):=Le.fD rF
  (fun b' x hx=>by simp only[Ctx.at,Ctx.row];split;rename_i e;subst e;rw[No]at hx;simp at hx;exact hx)
  (fun r o hk=>by simp only[Ctx.row,Ctx.at];rw[if_neg (ba r o _ hk (by simp))];exact hk) (fun _ _ _ h=>h) (fun _ _ hs=>hs.elim)
 have au:r<w.heap.size:=(Array.getElem?_eq_some_iff.1 h2).1
 refine⟨_,_,_,by simp[Instr.range,run_underlying hu,getObj,Sem.run,h2,newObj],le,?_,.ptr (r:=w.heap.size) (o:=0) (q:=0) (by simp[Ctx.at]),by simp,fun b' x a _ d=>?_⟩
 ·refine h.step (fun b'=>b'=b∨b'=H.length) rF le (fun _ _ hs=>hs.elim) (fun _ hm=>hm.elim) (fun r o hr=>?_) (fun b' x hx=>?_) (fun t e x hx=>by have:=h.fe t e x hx;simp;omega) (fun b' _ fC=>?_) (fun r j b' fC=>?_) (fun _ _ _ _=>rfl) (fun b' x hx=>?_)
  ·simp at hr
   simp only[Ctx.row,Ctx.at];rw[if_neg (by omega)];exact h.fresh r o (by omega)
  ·simp only[Ctx.at,Ctx.row]at hx
   split at hx
   ·rename_i e;subst e;simp
   ·have:=h.ni b' x hx;simp;omega
  ·simp only[Ctx.at,Ctx.row];rw[if_neg (fun e=>fC (.inr e))]
  ·constructor<;>intro e<;>simp only[Ctx.row,Ctx.at]<;>rw[if_neg (ba r j _ e (by simp))]<;>exact e
  ·by_cases e:b'=H.length
   ·subst e
    rw[List.getElem?_append_right (by simp)]at hx
    simp at hx;subst hx
    exact .inr trivial
   ·have fC:b'<H.length:=by
     have:=(List.getElem?_eq_some_iff.1 hx).1
     simp at this;omega
    rw[List.getElem?_append_left (by simpa using fC)]at hx
    rcases cz jX hx with⟨rfl,rfl⟩|⟨hn,gg⟩
    ·refine .inr ⟨r,o,q,le.φ _ _ hφ,by simp only[Ctx.row,Ctx.at];rw[if_neg Np];exact hk,al,c,?_,h3.mono le,h4,w.heap.size,0,#[],by simp[Ctx.at],by simp[Ctx.row,Ctx.at],World.alloc_heap_new w _,List.nodup_range,fun i=>?_,fun c hc=>by cases hc⟩
     ·show(w.heap.push _)[r]?=_
      rw[Array.getElem?_push,if_neg (by omega)];exact h2
     ·rw[List.mem_range,←h3.1]
      exact⟨fun hi=>⟨al[i],Array.getElem?_eq_getElem hi,by simp⟩,fun ⟨m,hm,_⟩=>(Array.getElem?_eq_some_iff.1 hm).1⟩
    ·exact .inl ⟨fun hh=>hh.elim hn e,gg⟩
 ·have hl:=(List.getElem?_eq_some_iff.1 a).1
  refine⟨?_,by simp only[Ctx.at,Ctx.row];rw[if_neg (by omega)];exact d⟩
  rw[List.getElem?_append_left (by simpa using hl)]
  exact db a (by rintro rfl;rw[hφ]at d;cases d)
theorem CA {ty:TypeId}{b bi:Nat}{v:Value}{es:List (T×T)}{ix:List Nat}{cur:Option Nat}(h:SR w0 g H w)(hx:VR g w (.ptr bi 0) v)(hb:H[b]?=some (.da es ix bi cur)) :
  ∃t H',kz H b bi es ix t H'∧br P w0 g H w (Instr.next v false ty) t H':=by
 have jX:b<H.length:=(List.getElem?_eq_some_iff.1 hb).1
 obtain⟨r,o,q,hφ,h1,al,c,h2,h3,h4,ri,q',seen,h5,h6,h7,h8,h9,aU⟩:=h.cu b _ hb
 cases hx with
 | @ptr _ _ r2 o2 q2 u0 =>
  rw[h5]at u0;cases u0
  have aG:∀y,Fr g H g (H.set b y):=fun y=>⟨by simp,fun b' x a _ d=>⟨db a (by rintro rfl;rw[hφ]at d;cases d),d⟩⟩
  rcases run_next_at (P:=P) w ty ri r c c seen al c h7 h2 h4.1 (Nat.le_refl _)with⟨hz,bJ⟩|⟨e,he,w1,L8,bJ⟩
  ·have uQ:ix=[]:=by
    refine List.eq_nil_iff_forall_not_mem.2 fun i hi=>?_
    obtain⟨m,hm,hn⟩:=(h9 i).1 hi
    have:m∈leftOf al seen:=by
     simp only[leftOf,Array.mem_filter]
     exact⟨Array.mem_of_getElem? hm,by simpa using hn⟩
    rw[Array.eq_empty_of_size_eq_zero hz]at this
    simp at this
   refine⟨_,_,.inl ⟨uQ,rfl,rfl⟩,.tuple #[.bool false],w,g,by simpa using bJ,.refl _ _,?_,.bE rfl (fun i t v a b=>?_),aG _⟩
   ·refine h.step (fun b'=>b'=b) (Tr.refl w) (.refl _ _) (fun _ _ hs=>hs.elim) (fun _ hm=>hm.elim) h.fresh (fun b' x hx=>by rw[List.length_set];exact h.ni b' x hx) (fun t e x hx=>by rw[List.length_set];exact h.fe t e x hx) (fun _ _ _=>rfl) (fun _ _ _ _=>⟨id,id⟩) (fun _ _ _ _=>rfl) (fun b' x hx=>?_)
    rcases cz jX hx with⟨rfl,rfl⟩|⟨hn,gg⟩
    ·refine .inr fun r' o' q' iw=>?_
     rw[hφ]at iw;cases iw
     exact⟨h1,al,c,h2,h3,h4⟩
    ·exact .inl ⟨hn,gg⟩
   ·cases i with
    | zero=>simp at a b;subst a;subst b;exact .bool _
    | succ i=>simp at a
  ·have FB:e∈al∧e.born∉seen:=by
    have:e∈leftOf al seen:=by simpa using he
    simp only[leftOf,Array.mem_filter]at this
    exact⟨this.1,by simpa using this.2⟩
   obtain⟨i,hi,mC⟩:=Array.getElem_of_mem FB.1
   have tJ:al[i]?=some e:=by rw[Array.getElem?_eq_getElem hi,mC]
   have gr:i<es.length:=by rw[←h3.1];exact hi
   have uQ:i∈ix:=(h9 i).2 ⟨e,tJ,FB.2⟩
   have dA:=h3.2 i es[i] e (List.getElem?_eq_getElem gr) tJ
   have Sq:Tr w w1 eY fW:=by rcases L8 with rfl|rfl;exact Tr.refl _;exact Tr.drew _
   obtain⟨FC,fO⟩:=h.JL Sq (by rcases L8 with rfl|rfl<;>rfl)
   have L9:w1.heap[ri]?=some (.mapIter (some r) c seen c):=by rcases L8 with rfl|rfl<;>exact h7
   have CB:w1.heap[r]?=some (.map al c):=by rcases L8 with rfl|rfl<;>exact h2
   have tr:Tr w1 (World.bw w1 ri (.mapIter (some r) c (seen.push e.born) c)) eY (fun r'=>r'=ri):=Tr.tF w1 ri rfl rfl L9
   have le:Le g w1 g (World.bw w1 ri (.mapIter (some r) c (seen.push e.born) c)):=Le.fD tr (fun _ _ h=>h) (fun _ _ h=>h) (fun _ _ _ h=>h) (fun _ _ hs=>hs.elim)
   have Sr:r≠ri:=by rintro rfl;rw[CB]at L9;cases L9
   refine⟨_,_,.inr ⟨i,es[i],uQ,List.getElem?_eq_getElem gr,rfl,rfl⟩,.tuple #[.bool true,e.key,e.val],_,g,by simpa[setBlock,World.bw]using bJ,fO.trans le,?_,.bE rfl (fun i t v a b=>?_),aG _⟩
   ·show SR w0 g _ (World.bw w1 ri (.mapIter (some r) c (seen.push e.born) c))
    refine FC.step (fun b'=>b'=b) tr le (fun _ _ hs=>hs.elim) (fun r' hm=>⟨b,by rw[hm];exact h6,rfl⟩) (fun r' j kj=>FC.fresh r' j (by simpa[World.bw]using kj)) (fun b' x hx=>by rw[List.length_set];exact h.ni b' x hx) (fun t e x hx=>by rw[List.length_set];exact h.fe t e x hx) (fun _ _ _=>rfl) (fun _ _ _ _=>⟨id,id⟩) (fun _ _ _ _=>rfl) (fun b' x hx=>?_)
    rcases cz jX hx with⟨rfl,rfl⟩|⟨hn,gg⟩
    ·refine .inr ⟨r,o,q,hφ,h1,al,c,?_,h3.mono (fO.trans le),h4,ri,q',seen.push e.born,h5,h6,nA _ _ (Array.getElem?_eq_some_iff.1 L9).1,h8.erase _,fun j=>?_,fun c' eB=>?_⟩
     ·rw[ny _ _ Sr];exact CB
     ·rw[h8.mem_erase_iff,h9 j]
      constructor
      ·rintro⟨Ma,m,hm,hn⟩
       refine⟨m,hm,fun ib=>?_⟩
       rcases Array.mem_push.1 ib with ib|ib
       ·exact hn ib
       ·apply Ma
        have hj:=(Array.getElem?_eq_some_iff.1 hm).1
        have jj:=h4.2
        have e1:(al.toList.map (·.born))[j]?=some m.born:=by simp[hm]
        have e2:(al.toList.map (·.born))[i]?=some m.born:=by simp[tJ,ib]
        have IE:j<(al.toList.map (·.born)).length:=by simpa using hj
        exact(List.getElem?_inj IE jj).1 (e1.trans e2.symm)
      ·rintro⟨m,hm,hn⟩
       refine⟨fun Ma=>?_,m,hm,fun ib=>hn (Array.mem_push.2 (.inl ib))⟩
       subst Ma
       rw[tJ]at hm;cases hm
       exact hn (Array.mem_push.2 (.inr rfl))
     ·cases eB
      exact⟨e,tJ,by simp⟩
    ·exact .inl ⟨hn,gg⟩
   ·have Fm:=dA.1.mono (fO.trans le)
    have Fo:=dA.2.mono (fO.trans le)
    match i,a,b with
    | 0,a,b=>simp at a b;subst a;subst b;exact .bool _
    | 1,a,b=>simp at a b;subst a;subst b;exact Fm
    | 2,a,b=>simp at a b;subst a;subst b;exact Fo
    | i+3,a,b=>simp at a
theorem CC {b bi c:Nat}{v:Value}{es:List (T×T)}{ix:List Nat}{e:T×T}(h:SR w0 g H w)(hx:VR g w (.ptr bi 0) v)(hb:H[b]?=some (.da es ix bi (some c)))(he:es[c]?=some e) :
  br P w0 g H w (Instr.entry v) (.bE [e.1,e.2]) H:=by
 obtain⟨r,o,q,hφ,h1,al,cl,h2,h3,h4,ri,q',seen,h5,h6,h7,h8,h9,aU⟩:=h.cu b _ hb
 cases hx with
 | @ptr _ _ r2 o2 q2 u0 =>
  rw[h5]at u0;cases u0
  obtain⟨m,hm,hs⟩:=aU c rfl
  have dA:=h3.2 c e m he hm
  have Nq:m∈al.toList:=by have:=Array.mem_of_getElem? hm;simpa using this
  have hf:al.find? (·.born==m.born)=some m:=by rw[←Array.find?_toList];exact find_born m al.toList h4.2 Nq
  refine br.same h (v:=.tuple #[m.key,m.val]) ?_ (.bE rfl fun i t v a b=>?_)
  ·simp[Instr.entry,getObj,Sem.run,h7,h2,hs,hf]
  ·match i,a,b with
   | 0,a,b=>simp at a b;subst a;subst b;exact dA.1
   | 1,a,b=>simp at a b;subst a;subst b;exact dA.2
   | i+2,a,b=>simp at a
theorem CD {ty rt elem:TypeId}{ei:TypeInfo}{zv:Value}{z:List T}{v:Value}{b off len:Nat}{cs:List T}(hu:P.underlying ty=some (.slice elem))(hi:P.info? elem=some ei)(hz:ei.zero=some zv)(yG:dt zv.cells.toList=some z)
  (h:SR w0 g H w) (hx:VR g w (.aE b off len ei.size) v) (hb:H[b]?=some (.cells cs)) (rJ:z.length=ei.size) (hle:off+len*ei.size≤cs.length) :
  br P w0 g H w (Builtin.clear_ #[ty] rt #[v]) (.bE []) (H.set b (.cells (cs.take off++(List.replicate len z).flatten++cs.drop (off+len*ei.size)))):=by
 cases hx with
 | @aE _ _ _ _ r o q cap hφ hc hq =>
  obtain⟨h1,h2,h3⟩:=h.cu b _ hb r o q hφ
  obtain⟨wU,xX⟩:=cG (g:=g) (w:=w) _ _ yG
  have dA:=iP wU rJ len
  have IG:=gy xX len
  have hlen:(List.replicate len z).flatten.length=len*ei.size:=by simp[List.length_flatten,rJ]
  have Ck:zv.cells.size=ei.size:=by have:=wU.1;simp at this;omega
  have FD:aW g w (List.replicate len z).flatten (Builtin.zeroCells zv.cells len).toList:=by
   simpa[Builtin.zeroCells,Ck]using dA
  obtain⟨le,sr⟩:=h.store hb hφ (by rw[hlen];exact hle) FD IG
  rw[hlen]at sr
  refine⟨.tuple #[],_,g,?_,le,sr,.bE rfl (by simp),by simp,fun b' y' a _ d=>⟨db a (by rintro rfl;rw[hφ]at d;cases d),d⟩⟩
  have hl:=FD.1
  rw[hlen]at hl
  cases len with
  | zero =>
   have e:(Builtin.zeroCells zv.cells 0).toList=[]:=List.eq_nil_of_length_eq_zero (by rw[←hl];simp)
   rw[e]
   simp[Builtin.clear_,run_underlying hu,World.setCells]
  | succ len =>
   have bJ:=run_storeCells_cells (P:=P) r (o+off) (Builtin.zeroCells zv.cells (len+1)).toList 0 w (fun j hj=>(h2 _ (by omega) (by omega)).2.2) (fun j hj=>(h2 _ (by omega) (by omega)).2.1) (FD.fU IG)
   have Ss:(zeroValue elem).run P w=.ok zv w:=by simp[zeroValue,aO hi,hz]
   simp only[Nat.add_zero]at bJ
   simp[Builtin.clear_,run_underlying hu,Ss,bJ]
theorem SR.shrink {b:Nat}{cs:List T}(k:Nat)(h:SR w0 g H w)(hb:H[b]?=some (.cells cs))(hφ:∃x,g.φ b=some x):SR w0 g (H.set b (.cells (cs.take k))) w∧Fr g H g (H.set b (.cells (cs.take k))):=by
 have jX:b<H.length:=(List.getElem?_eq_some_iff.1 hb).1
 obtain⟨y,hy⟩:=hφ
 refine⟨?_,by simp,fun b' x a _ d=>⟨db a (by rintro rfl;rw[hy]at d;cases d),d⟩⟩
 refine h.step (fun b'=>b'=b) (Tr.refl w) (.refl _ _) (fun _ _ hs=>hs.elim) (fun _ hm=>hm.elim) h.fresh (fun b' x hx=>by rw[List.length_set];exact h.ni b' x hx) (fun t e x hx=>by rw[List.length_set];exact h.fe t e x hx) (fun _ _ _=>rfl) (fun _ _ _ _=>⟨id,id⟩) (fun _ _ _ _=>rfl) (fun b' x hx=>?_)
 rcases cz jX hx with⟨rfl,rfl⟩|⟨hn,gg⟩
 ·refine .inr fun r o q hφ=>?_
  obtain⟨h1,h2,h3⟩:=h.cu b' _ hb r o q hφ
  refine⟨by simp;omega,h2,fun i t hi=>h3 i t ?_⟩
  rw[List.getElem?_take]at hi
  split at hi
  ·exact hi
  ·cases hi
 ·exact .inl ⟨hn,gg⟩
end
end Go.Rmp
end

section
namespace Go.Rmp
def av:Operand→Option X
 | .tmp t=>some (.r t)
 | .const v=>(jV v).map .c
 | .func f=>some (.c (.fn f []))
 | .global _=>none
def dX:List Operand→Option (List X)
 | []=>some []
 | x :: xs=>match av x,dX xs with
  | some y,some ys=>some (y :: ys)
  | _,_=>none
def gR:Option Operand→Option (Option X)
 | none=>some none
 | some x=>(av x).map some
def jZ:List (Nat×Operand)→Option (List (Nat×X))
 | []=>some []
 | (i,x) :: xs=>match av x,jZ xs with
  | some y,some ys=>some ((i,y) :: ys)
  | _,_=>none
def QP:TypeDesc→Option rf
 | .int _=>some .int
 | .string=>some .str
 | .bool=>some .bool
 | _=>none
def kinds (P:Program):List Field→Option (List rf)
 | []=>some []
 | f :: fs=>match (P.underlying f.type).bind QP,kinds P fs with
  | some k,some ks=>some (k :: ks)
  | _,_=>none
def qn (P:Program)(ty:TypeId):Option KT :=
 match P.underlying ty with
 | some (.struct fs)=>(kinds P fs.toList).map .st
 | some d=>(QP d).map .sc
 | none=>none
def zeroOf (P:Program)(ty:TypeId):Option (List T) :=
 match P.info? ty with
 | some i=>match i.zero with
  | some zv=>dt zv.cells.toList
  | none=>none
 | none=>none
def isEq:BinOp→Option Bool
 | .eql=>some false
 | .neq=>some true
 | _=>none
def cls:TypeDesc→Option BO
 | .pointer _=>some .ptr
 | .slice _=>some .slice
 | .map _ _=>some .map
 | .func _ _ _=>some .func
 | _=>none
def yM (P:Program)(op:BinOp)(ty:TypeId)(x y:X):Option Bo :=
 match P.underlying ty with
 | some (.int _)|some .string=>some (.bin op x y)
 | some .bool=>(isEq op).map fun n=>.beq n x y
 | some (.struct fs)=>match isEq op,kinds P fs.toList with
  | some n,some ks=>if flat P fs.toList 0 ks&&!P.stoodInHeld ty&&!P.eqGuardType P.depth ty then some (.eqs n ks x y)else none
  | _,_=>none
 | some d=>match isEq op,cls d with
  | some n,some c=>some (.my n c x y)
  | _,_=>none
 | none=>none
def pj (P:Program)(ty:TypeId)(x:X):Option Bo :=
 match P.underlying ty,P.info? ty with
 | some d,some i=>some (.ld (if cS d then i.size else 1) (cS d) x)
 | _,_=>none
def ka (P:Program)(ty:TypeId)(x:X)(f:Nat)(ad:Bool):Option Bo :=
 match P.underlying ty with
 | some (.struct fs)=>match fs[f]? with
  | some f=>match P.underlying f.type,P.info? f.type with
   | some d,some i=>if ad then(if i.size=0 then none else some (.xZ f.offset x))else some (.Jc f.offset i.size (cS d) x)
   | _,_=>none
  | none=>none
 | _=>none
def tK (P:Program)(ty:TypeId)(x i:X)(ad:Bool):Option Bo :=
 match P.underlying ty,ad with
 | some (.slice e),true=>(P.info? e).map fun ei=>.jF ei.size x i
 | some (.array n e),true=>(P.info? e).map fun ei=>.LW n ei.size x i
 | some .string,false=>some (.Jd x i)
 | some (.array n e),false=>match P.info? e,P.underlying e with
  | some ei,some d=>some (.LX n ei.size (cS d) x i)
  | _,_=>none
 | _,_=>none
def lI (P:Program)(ty:TypeId)(x:X)(lo hi mx:Option X):Option Bo :=
 match P.underlying ty with
 | some .string=>if mx.isSome then none else some (.Iq x lo hi)
 | some (.slice e)=>match P.info? e with
  | some ei=>if mx.isSome&&hi.isNone then none else some (.jg ei.size x lo hi mx)
  | none=>none
 | _=>none
def wW (P:Program)(ty:TypeId)(x:X)(lo hi mx:Option X):Option Bo :=
 match P.underlying ty,lo,hi,mx with
 | some (.slice e),none,some hi,none=>(P.info? e).map fun ei=>.M4 ei.size x hi
 | _,_,_,_=>none
def pk (P:Program)(src dst:TypeId)(x:X):Option Bo :=
 match P.underlying src,P.underlying dst with
 | some (.int _),some (.int k)=>some (.td k x)
 | some .string,some .string=>none
 | some (.slice e),some .string=>match P.underlying e with
  | some (.int .u8)=>some (.Ip x)
  | _=>none
 | _,_=>none
def yN:TypeDesc→Bool
 | .int _=>false
 | _=>true
def jk (P:Program)(mu:Bool)(fV:List TypeId)(as:List X):Option Bo :=
 match fV,as with
 | [sT,xT],[x,y]=>match P.underlying sT,P.underlying xT with
  | some (.slice e),some d=>match P.info? e with
   | some ei=>match ei.zero with
    | some zv=>if yN d&&zv.cells.size==ei.size&&ei.bytes != 0 then some (.app ei.size ei.bytes mu x y)else none
    | none=>none
   | none=>none
  | _,_=>none
 | _,_=>none
def rM (P:Program)(fV:List TypeId)(as:List X):Option Bo :=
 match fV,as with
 | [sT,xT],[x,k]=>match P.underlying sT,P.underlying xT with
  | some (.slice e),some (.int _)=>match P.info? e,zeroOf P e with
   | some ei,some z=>if ei.bytes != 0 then some (.Jg ei.size ei.bytes z x k)else none
   | _,_=>none
  | _,_=>none
 | _,_=>none
def gz (P:Program)(mu:Bool)(b:Builtin)(fV:List TypeId)(as:List X):Option Bo :=
 match b,fV,as with
 | .append,fV,as=>match rM P fV as with
  | some b=>some b
  | none=>jk P mu fV as
 | .cap,[t],[x]=>match P.underlying t with
  | some (.slice _)=>some (.cap x)
  | _=>none
 | .copy,[dT,_],[x,y]=>match P.underlying dT with
  | some (.slice e)=>(P.info? e).map fun ei=>.wv ei.size x y
  | _=>none
 | .len,[t],[x]=>match P.underlying t with
  | some .string=>some (.len .str x)
  | some (.slice _)=>some (.len .sl x)
  | some (.map _ _)=>some (.len .map x)
  | _=>none
 | .clear,[t],[x]=>match P.underlying t with
  | some (.slice e)=>match P.info? e,zeroOf P e with
   | some ei,some z=>some (.Iu ei.size z x)
   | _,_=>none
  | _=>none
 | .min,_,[x,y]=>some (.mn x y)
 | .max,_,[x,y]=>some (.mx x y)
 | .delete,[t,_],[m,k]=>match P.underlying t with
  | some (.map key _)=>match qn P key with
   | some kt=>if jW P key kt then some (.del kt m k)else none
   | none=>none
  | _=>none
 | _,_,_=>none
def tL (P:Program)(ty:TypeId)(m k:X):Option (Nat×KT×T) :=
 match P.underlying ty with
 | some (.map key e)=>match qn P key,P.info? e with
  | some kt,some ei=>match ei.zero with
   | some zv=>match jV zv with
    | some z=>if jW P key kt then some (e,kt,z)else none
    | none=>none
   | none=>none
  | _,_=>none
 | _=>none
def rN (P:Program)(fs:List Field):Bool:=fs.all fun f=>(P.info? f.type).isSome
def lJ (P:Program)(ty:TypeId)(ps:List (Nat×X)):Option Bo :=
 match P.underlying ty,zeroOf P ty with
 | some (.struct fs),some z=>if rN P fs.toList&&ps.all (fun p=>p.1<fs.size)then
   some (.build z (ps.map fun p=>((((placesOf P fs.toList)[p.1]?).getD (0,0)).1,(((placesOf P fs.toList)[p.1]?).getD (0,0)).2,p.2)))else none
 | _,_=>none
def wX (P:Program)(mu:Bool)(ty:TypeId)(n:Nat)(ps:List (Nat×X)):Option Bo :=
 match P.underlying ty with
 | some (.slice e)=>match P.info? e,zeroOf P e with
  | some ei,some z=>if z.length==ei.size&&decide (n*ei.size≤16777216)then some (if mu then .Iv n z ps else .o7 n z ps)else none
  | _,_=>none
 | _=>none
def wY (P:Program)(mu:Bool)(ty:TypeId)(l c:X):Option Bo :=
 match P.underlying ty with
 | some (.slice e)=>match P.info? e,zeroOf P e with
  | some ei,some z=>if z.length==ei.size&&ei.size != 0 then some (.M3 mu ei.bytes z l c)else none
  | _,_=>none
 | _=>none
def Eb (n:String):Bool:=(Extern.allGenericRows.lookup n).isNone&&(Extern.allTypedRows.lookup n).isNone&&(Extern.allRows.lookup n).isNone
def u1 (P:Program)(f:FuncId):Option Nat :=
 match P.funcs[f]? with
 | some fn=>match fn.params[0]? with
  | some t=>match P.underlying t with
   | some (.slice e)=>match P.info? e with
    | some ei=>if fn.name != "runtime.NumGoroutine"&&fn.body.isNone&&(Extern.findNext fn).isNone&&fn.origin=="slices.overlaps"&&Eb fn.name then some ei.size else none
    | none=>none
   | _=>none
  | none=>none
 | none=>none
def aY (P:Program)(mu:Bool):Op→Option Bo
 | .move x | .assign x=>(av x).map .aD
 | .pick c a b=>match av c,av a,av b with
  | some c,some a,some b=>some (.pick c a b)
  | _,_,_=>none
 | .binOp op ty x y _=>match av x,av y with
  | some x,some y=>yM P op ty x y
  | _,_=>none
 | .unOp op _ x=>(av x).map (.un op)
 | .convert s d x=>(av x).bind (pk P s d)
 | .alloc ty=>(zeroOf P ty).map .alloc
 | .box _ x=>(av x).map .box
 | .build ty ps=>(jZ ps.toList).bind (lJ P ty)
 | .buildSlice ty n ps=>(jZ ps.toList).bind (wX P mu ty n)
 | .load ty x=>(av x).bind (pj P ty)
 | .store ty a v=>match P.info? ty,av a,av v with
  | some i,some a,some v=>some (.st i.size a v)
  | _,_,_=>none
 | .fieldAddr ty x f=>(av x).bind fun x=>ka P ty x f true
 | .field ty x f=>(av x).bind fun x=>ka P ty x f false
 | .indexAddr ty x i=>match av x,av i with
  | some x,some i=>tK P ty x i true
  | _,_=>none
 | .index ty x i=>match av x,av i with
  | some x,some i=>tK P ty x i false
  | _,_=>none
 | .slice ty x lo hi mx=>match av x,gR lo,gR hi,gR mx with
  | some x,some lo,some hi,some mx=>if mu then wW P ty x lo hi mx else lI P ty x lo hi mx
  | _,_,_,_=>none
 | .makeMap _ none=>some .wq
 | .lookup ty m k ok=>match av m,av k with
  | some m,some k=>(tL P ty m k).map fun (_,kt,z)=>.ma kt z ok m k
  | _,_=>none
 | .mapUpdate ty m k v | .insert ty m k v=>match av m,av k,av v with
  | some m,some k,some v=>(tL P ty m k).map fun (_,kt,_)=>.xS kt m k v
  | _,_,_=>none
 | .makeSlice ty l c=>match av l,av c with
  | some l,some c=>wY P mu ty l c
  | _,_=>none
 | .makeFunc (.func f) first iB=>if first.size=0 then(dX iB.toList).map (.D0 f)else none
 | .extract x i=>(av x).map (.ext i)
 | .nilCheck x=>(av x).map .x0
 | .range ty m=>match P.underlying ty with
  | some (.map _ _)=>(av m).map .Je
  | _=>none
 | .next it false=>(av it).map .oE
 | .entry it=>(av it).map .Jf
 | .call { callee:=.value (.func f),args,.. }=>match u1 P f,dX args.toList with
  | some n,some [x,y]=>some (.Is n x y)
  | _,_=>none
 | .call { callee:=.builtin b,args,argTypes }=>(dX args.toList).bind (gz P mu b argTypes.toList)
 | _=>none
def BE (P:Program)(w0:World)(g:Ctx)(H:ae)(w:World)(s:Sem Next)(t:T)(H':ae):Prop :=
 ∃nx v w' g',s.run P w=.ok nx w'∧(nx=.value v∨(nx=.skip∧v=undef))∧Le g w g' w'∧SR w0 g' H' w'∧VR g' w' t v∧Fr g H g' H'
theorem br.kb {P:Program}{w0 w:World}{g:Ctx}{H H':ae}{s:Sem Value}{t:T}(h:br P w0 g H w s t H'):BE P w0 g H w (do pure (.value (←s))) t H':=by
 obtain⟨v,w',g',h1,h2⟩:=h
 exact⟨.value v,v,w',g',by simp[h1],.inl rfl,h2⟩
theorem fG {g:Ctx}{w:World}:VR g w bq undef:=.bE rfl (by simp)
section
variable {P:Program} {w0 w:World} {g:Ctx} {H:ae} {R:aj} {ρ:Operand→Value}
def RV (g:Ctx)(w:World)(R:aj)(ρ:Operand→Value)(xs:List Operand):Prop:=∀x∈xs,∀y,av x=some y→VR g w (y.ev R) (ρ x)
theorem dY:∀(xs:List Operand) (ys:List X),dX xs=some ys→RV g w R ρ xs→aW g w (ys.map (X.ev R)) (xs.map ρ)
 | [],ys,h,_=>by simp[dX]at h;subst h;exact aW.nil
 | x :: xs,ys,h,hv=>by
  simp only[dX]at h
  cases h1:av x with
  | none=>simp[h1]at h
  | some y =>
   cases h2:dX xs with
   | none=>simp[h1,h2]at h
   | some Su =>
    simp[h1,h2]at h;subst h
    exact aW.cons (hv x (by simp) y h1) (dY xs Su h2 (fun z hz=>hv z (by simp[hz])))
theorem lK:∀(ps:List (Nat×Operand)) (qs:List (Nat×X)),jZ ps=some qs→RV g w R ρ (ps.map (·.2))→PV g w R qs (ps.map fun p=>(p.1,ρ p.2))
 | [],qs,h,_=>by simp[jZ]at h;subst h;exact .nil
 | (i,x) :: ps,qs,h,hv=>by
  simp only[jZ]at h
  cases h1:av x with
  | none=>simp[h1]at h
  | some y =>
   cases h2:jZ ps with
   | none=>simp[h1,h2]at h
   | some Sv =>
    simp[h1,h2]at h;subst h
    exact .cons (hv x (by simp) y h1) (lK ps Sv h2 (fun z hz=>hv z (by simp at hz ⊢;exact .inr hz)))
end
section
variable {P:Program} {w0 w:World} {g:Ctx} {H H':ae} {R:aj} {ρ:Operand→Value} {t:T}
theorem CE {op:BinOp}{ty:TypeId}{ox oy:Operand}{x y:X}{b:Bo}(hc:yM P op ty x y=some b)(h:SR w0 g H w)(hx:VR g w (x.ev R) (ρ ox))(hy:VR g w (y.ev R) (ρ oy))(he:ai R H b=some (t,H')) :
  BE P w0 g H w (do pure (Next.value (←(do eqGuard op ty ox oy (ρ ox) (ρ oy);binOp op ty (ρ ox) (ρ oy))))) t H':=by
 refine br.kb ?_
 unfold yM at hc
 cases hu:P.underlying ty with
 | none=>simp[hu]at hc
 | some d =>
  rw[hu]at hc
  have heq:∀n,isEq op=some n→op=if n then .neq else .eql:=by
   intro n hn;cases op<;>simp[isEq]at hn<;>subst hn<;>rfl
  have bin:b=.bin op x y→br P w0 g H w (do eqGuard op ty ox oy (ρ ox) (ρ oy);binOp op ty (ρ ox) (ρ oy)) t H':=by
   rintro rfl
   simp only[ai,Option.map_eq_some_iff,Prod.mk.injEq]at he
   obtain⟨t',h1,rfl,rfl⟩:=he
   exact BV h hx hy h1
  have ref:(∃n c,isEq op=some n∧cls d=some c∧b=.my n c x y)→br P w0 g H w (do eqGuard op ty ox oy (ρ ox) (ρ oy);binOp op ty (ρ ox) (ρ oy)) t H':=by
   rintro⟨n,c,h1,h2,rfl⟩
   simp only[ai,Option.map_eq_some_iff,Prod.mk.injEq]at he
   obtain⟨r,h3,rfl,rfl⟩:=he
   rw[heq n h1]
   exact BX hu (by cases d<;>simp[cls]at h2<;>subst h2<;>rfl) h hx hy h3
  have lM:(match isEq op,cls d with|some n,some c=>some (Bo.my n c x y)|_,_=>none)=some b→(∃n c,isEq op=some n∧cls d=some c∧b=.my n c x y):=by
   intro hh
   cases h1:isEq op with
   | none=>simp[h1]at hh
   | some n =>
    cases h2:cls d with
    | none=>simp[h1,h2]at hh
    | some c=>simp[h1,h2]at hh;exact⟨n,c,rfl,rfl,hh.symm⟩
  cases d with
  | int k=>simp at hc;exact bin hc.symm
  | string=>simp at hc;exact bin hc.symm
  | bool =>
   simp only[Option.map_eq_some_iff]at hc
   obtain⟨n,h1,rfl⟩:=hc
   simp only[ai]at he
   rw[heq n h1]
   generalize x.ev R=tx at hx he
   generalize y.ev R=FE at hy he
   cases tx<;>cases FE<;>simp at he
   obtain⟨rfl,rfl⟩:=he
   exact BW hu h hx hy
  | struct fs =>
   cases h1:isEq op with
   | none=>simp[h1]at hc
   | some n =>
    cases h2:kinds P fs.toList with
    | none=>simp[h1,h2]at hc
    | some ks =>
     simp only[h1,h2]at hc
     split at hc
     ·rename_i bF
      simp only[Bool.and_eq_true,Bool.not_eq_true']at bF
      simp at hc;subst hc
      simp only[ai]at he
      rw[heq n h1]
      generalize x.ev R=tx at hx he
      generalize y.ev R=FE at hy he
      cases tx<;>cases FE<;>(try simp only[reduceCtorEq]at he)
      split at he
      ·rename_i hk
       simp only[Option.map_eq_some_iff,Prod.mk.injEq]at he
       obtain⟨r,h3,rfl,rfl⟩:=he
       exact BZ hu bF.1.1 bF.1.2 bF.2 h hx hy hk h3
      ·cases he
     ·cases hc
  | pointer _=>exact ref (lM hc)
  | slice _=>exact ref (lM hc)
  | map _ _=>exact ref (lM hc)
  | func _ _ _=>exact ref (lM hc)
  | invalid=>exact ref (lM hc)
  | float _=>exact ref (lM hc)
  | complex _=>exact ref (lM hc)
  | unsafePointer=>exact ref (lM hc)
  | array _ _=>exact ref (lM hc)
  | chan _ _=>exact ref (lM hc)
  | interface _=>exact ref (lM hc)
  | tuple _=>exact ref (lM hc)
  | named _ _=>exact ref (lM hc)
theorem yO {ty:TypeId}{v:Value}{x:X}{b:Bo}(hc:pj P ty x=some b)(h:SR w0 g H w)(hx:VR g w (x.ev R) v)(he:ai R H b=some (t,H')):BE P w0 g H w (do pure (Next.value (←Instr.loadAt ty v))) t H':=by
 refine br.kb ?_
 unfold pj at hc
 cases hu:P.underlying ty with
 | none=>simp[hu]at hc
 | some d =>
  cases hi:P.info? ty with
  | none=>simp[hu,hi]at hc
  | some i =>
   simp only[hu,hi,Option.some.injEq]at hc
   subst hc
   simp only[ai]at he
   cases hl:ku H (if cS d then i.size else 1) (x.ev R)with
   | none=>simp[hl]at he
   | some cs =>
    simp only[hl,Option.map_eq_some_iff,Prod.mk.injEq]at he
    obtain⟨t',h1,rfl,rfl⟩:=he
    exact Fc hu hi rfl (fun e=>by rw[if_pos e]) h hx hl h1
theorem pn {ty:TypeId}{v:Value}{x:X}{f:Nat}{ad:Bool}{b:Bo}(hc:ka P ty x f ad=some b)(h:SR w0 g H w)(hx:VR g w (x.ev R) v)(he:ai R H b=some (t,H')) :
  br P w0 g H w (if ad then Instr.fieldAt ty v f else Instr.field ty v f) t H':=by
 unfold ka at hc
 cases hu:P.underlying ty with
 | none=>simp[hu]at hc
 | some d =>
  cases d<;>simp only[hu]at hc<;>(try (cases hc;done))
  rename_i fs
  cases hf:fs[f]? with
  | none=>simp[hf]at hc
  | some fl =>
   simp only[hf]at hc
   cases hd:P.underlying fl.type with
   | none=>simp[hd]at hc
   | some d =>
    cases hi:P.info? fl.type with
    | none=>simp[hd,hi]at hc
    | some i =>
     simp only[hd,hi]at hc
     cases ad with
     | true =>
      simp only[if_true]at hc
      split at hc
      ·cases hc
      ·rename_i hz
       simp at hc;subst hc
       simp only[ai]at he
       simp only[Option.map_eq_some_iff,Prod.mk.injEq]at he
       obtain⟨t',h1,rfl,rfl⟩:=he
       exact B3 hu hf hi hz h hx h1
     | false =>
      simp only[Bool.false_eq_true,if_false,Option.some.injEq]at hc
      subst hc
      simp only[ai]at he
      generalize x.ev R=tx at hx he
      cases tx<;>(try simp only[reduceCtorEq]at he)
      rename_i cs
      split at he
      ·rename_i hle
       simp only[Option.map_eq_some_iff,Prod.mk.injEq]at he
       obtain⟨t',h1,rfl,rfl⟩:=he
       exact B4 hu hf hd hi rfl h hx hle h1
      ·cases he
theorem u2 {ty:TypeId}{v vi:Value}{x i:X}{ad:Bool}{b:Bo}(hc:tK P ty x i ad=some b)(h:SR w0 g H w)(hx:VR g w (x.ev R) v)(hi:VR g w (i.ev R) vi)(he:ai R H b=some (t,H')) :
  br P w0 g H w (if ad then Instr.indexAt ty v vi else Instr.index ty v vi) t H':=by
 unfold tK at hc
 cases hu:P.underlying ty with
 | none=>simp[hu]at hc
 | some d =>
  cases d<;>cases ad<;>simp only[hu]at hc<;>(try (cases hc;done))
  ·-- string
   simp at hc;subst hc
   simp only[ai]at he
   generalize x.ev R=tx at hx he
   cases tx<;>(try simp only[reduceCtorEq]at he)
   cases hn:bB (i.ev R)with
   | none=>simp[hn]at he
   | some n =>
    simp only[hn,Option.map_eq_some_iff,Prod.mk.injEq]at he
    obtain⟨c,h1,rfl,rfl⟩:=he
    exact B7 hu h hx hi hn h1
  ·-- slice
   rename_i e
   cases mC:P.info? e with
   | none=>simp[mC]at hc
   | some ei =>
    simp[mC]at hc;subst hc
    simp only[ai]at he
    simp only[Option.bind_eq_some_iff,Option.map_eq_some_iff,Prod.mk.injEq]at he
    obtain⟨n,h1,t',h2,rfl,rfl⟩:=he
    exact B5 hu mC h hx hi h1 h2
  ·-- CF value
   rename_i n e
   cases mC:P.info? e with
   | none=>simp[mC]at hc
   | some ei =>
    cases FF:P.underlying e with
    | none=>simp[mC,FF]at hc
    | some d =>
     simp[mC,FF]at hc;subst hc
     simp only[ai]at he
     generalize x.ev R=tx at hx he
     cases tx<;>(try simp only[reduceCtorEq]at he)
     cases hn:bB (i.ev R)with
     | none=>simp[hn]at he
     | some m =>
      simp only[hn]at he
      split at he
      ·rename_i fg
       simp only[Option.map_eq_some_iff,Prod.mk.injEq]at he
       obtain⟨t',h1,rfl,rfl⟩:=he
       exact B8 hu FF mC rfl h hx hi hn fg.1 fg.2 h1
      ·cases he
  ·-- CF address
   rename_i n e
   cases mC:P.info? e with
   | none=>simp[mC]at hc
   | some ei =>
    simp[mC]at hc;subst hc
    simp only[ai]at he
    generalize x.ev R=tx at hx he
    cases tx<;>(try simp only[reduceCtorEq]at he)
    cases hn:bB (i.ev R)with
    | none=>simp[hn]at he
    | some m =>
     simp only[hn]at he
     split at he
     ·rename_i au
      simp at he
      obtain⟨rfl,rfl⟩:=he
      exact B6 hu mC h hx hi hn au
     ·cases he
theorem fo {x:Option Operand}{y:Option X}(h:gR x=some y)(hv:RV g w R ρ x.toList):OV g w R y (x.map ρ):=by
 cases x with
 | none=>simp[gR]at h;subst h;trivial
 | some x =>
  simp only[gR,Option.map_eq_some_iff]at h
  obtain⟨y',h1,rfl⟩:=h
  exact hv x (by simp) y' h1
theorem CG {ty:TypeId}{v:Value}{x:X}{lo hi mx:Option X}{gJ hY yP:Option Value}{b:Bo}(hc:wW P ty x lo hi mx=some b)(h:SR w0 g H w)(hx:VR g w (x.ev R) v)(pf:OV g w R lo gJ)(rO:OV g w R hi hY)(Ec:OV g w R mx yP)
  (he:ai R H b=some (t,H')):BE P w0 g H w (do pure (Next.value (←Instr.sliceAt ty v gJ hY yP))) t H':=by
 refine br.kb ?_
 unfold wW at hc
 split at hc
 ·rename_i e oI hu
  cases mC:P.info? e with
  | none=>simp[mC]at hc
  | some ei =>
   simp only[mC,Option.map_some,Option.some.injEq]at hc
   subst hc
   cases gJ with
   | some _=>exact pf.elim
   | none=>cases yP with
    | some _=>exact Ec.elim
    | none=>cases hY with
     | none=>exact rO.elim
     | some vh =>
      simp only[ai]at he
      generalize x.ev R=tx at hx he
      split at he
      ·rename_i bb off len n' hh Nr
       split at he
       ·rename_i fg
        obtain⟨rfl,h1,h2,h3⟩:=fg
        simp only[Option.some.injEq,Prod.mk.injEq]at he
        obtain⟨rfl,rfl⟩:=he
        exact Cb hu mC h hx rO Nr h1 h2 h3
       ·cases he
      ·cases he
 ·cases hc
theorem wZ {ty:TypeId}{v:Value}{x:X}{lo hi mx:Option X}{gJ hY yP:Option Value}{b:Bo}(hc:lI P ty x lo hi mx=some b)(h:SR w0 g H w)(hx:VR g w (x.ev R) v)(pf:OV g w R lo gJ)(rO:OV g w R hi hY)(Ec:OV g w R mx yP)
  (he:ai R H b=some (t,H')):BE P w0 g H w (do pure (Next.value (←Instr.sliceAt ty v gJ hY yP))) t H':=by
 refine br.kb ?_
 unfold lI at hc
 cases hu:P.underlying ty with
 | none=>simp[hu]at hc
 | some d =>
  cases d<;>simp only[hu]at hc<;>(try (cases hc;done))
  ·-- string
   cases mx with
   | some _=>simp at hc
   | none =>
    cases yP with
    | some _=>exact Ec.elim
    | none =>
     simp at hc;subst hc
     simp only[ai]at he
     generalize x.ev R=tx at hx he
     cases tx<;>(try simp only[reduceCtorEq]at he)
     rename_i s
     cases hl:fy R 0 lo with
     | none=>simp[hl]at he
     | some l =>
      cases hh:fy R s.size hi with
      | none=>simp[hl,hh]at he
      | some r =>
       simp only[hl,hh]at he
       split at he
       ·rename_i fg
        simp at he
        obtain⟨rfl,rfl⟩:=he
        exact B9 hu h hx pf rO hl hh fg.1 fg.2
       ·cases he
  ·-- slice
   rename_i e
   cases mC:P.info? e with
   | none=>simp[mC]at hc
   | some ei =>
    simp only[mC]at hc
    split at hc
    ·cases hc
    ·rename_i Sw
     simp at hc;subst hc
     simp only[ai]at he
     generalize x.ev R=tx at hx he
     cases tx<;>(try simp only[reduceCtorEq]at he)
     ·rename_i k es
      cases hl:fy R 0 lo with
      | none=>simp[hl]at he
      | some l =>
       cases hh:fy R es.length hi with
       | none=>simp[hl,hh]at he
       | some r =>
        simp only[hl,hh]at he
        cases mx with
        | none =>
         cases yP with
         | some _=>exact Ec.elim
         | none =>
          simp only at he
          split at he
          ·rename_i fg
           simp at he
           obtain⟨rfl,rfl⟩:=he
           exact Ca hu mC h hx pf rO hl hh fg.1 fg.2.1 fg.2.2
          ·cases he
        | some m =>
         cases yP with
         | none=>exact Ec.elim
         | some vm =>
          cases hi with
          | none=>simp at Sw
          | some hi =>
           cases hY with
           | none=>exact rO.elim
           | some vh =>
            simp only at he
            cases hm:bB (m.ev R)with
            | none=>simp[hm]at he
            | some m' =>
             simp only[hm]at he
             split at he
             ·rename_i fg
              simp only[Option.some.injEq,Prod.mk.injEq]at he
              obtain⟨rfl,rfl⟩:=he
              exact yr hu mC h hx pf rO Ec hl hh hm fg.1 fg.2.1 fg.2.2.1 fg.2.2.2
             ·cases he
     ·rename_i bb off len n'
      cases hl:fy R 0 lo with
      | none=>simp[hl]at he
      | some l =>
       cases hh:fy R len hi with
       | none=>simp[hl,hh]at he
       | some r =>
        simp only[hl,hh]at he
        cases mx with
        | some _=>simp at he
        | none =>
         cases yP with
         | some _=>exact Ec.elim
         | none =>
          simp only at he
          split at he
          ·rename_i fg
           obtain⟨rfl,h1,h2⟩:=fg
           simp only[Option.some.injEq,Prod.mk.injEq]at he
           obtain⟨rfl,rfl⟩:=he
           exact yu hu mC h hx pf rO hl hh h1 h2
          ·cases he
     ·rename_i bb off len n' cc
      cases hl:fy R 0 lo with
      | none=>simp[hl]at he
      | some l =>
       cases hh:fy R len hi with
       | none=>simp[hl,hh]at he
       | some r =>
        simp only[hl,hh]at he
        cases mx with
        | some _=>simp at he
        | none =>
         cases yP with
         | some _=>exact Ec.elim
         | none =>
          simp only at he
          split at he
          ·rename_i fg
           obtain⟨rfl,h1,h2⟩:=fg
           simp only[Option.some.injEq,Prod.mk.injEq]at he
           obtain⟨rfl,rfl⟩:=he
           exact yv hu mC h hx pf rO hl hh h1 h2
          ·cases he
theorem yQ {src dst:TypeId}{v:Value}{x:X}{b:Bo}(hc:pk P src dst x=some b)(h:SR w0 g H w)(hx:VR g w (x.ev R) v)(he:ai R H b=some (t,H')):BE P w0 g H w (do pure (Next.value (←convert src dst v))) t H':=by
 refine br.kb ?_
 unfold pk at hc
 cases hs:P.underlying src with
 | none=>simp[hs]at hc
 | some ds =>
  cases hd:P.underlying dst with
  | none=>simp[hs,hd]at hc
  | some dd =>
   rw[hs,hd]at hc
   cases ds<;>cases dd<;>simp only[reduceCtorEq]at hc
   ·rename_i k0 k
    simp at hc;subst hc
    simp only[ai]at he
    generalize x.ev R=tx at hx he
    cases tx<;>simp at he
    obtain⟨rfl,rfl⟩:=he
    exact B0 hs hd h hx
   ·rename_i e
    cases hu:P.underlying e with
    | none=>simp[hu]at hc
    | some d =>
     have Ns:d=.int .u8∧b=.Ip x:=by
      rw[hu]at hc
      cases d with
      | int k=>cases k<;>simp at hc;exact⟨rfl,hc.symm⟩
      | _=>simp at hc
     obtain⟨rfl,rfl⟩:=Ns
     simp only[ai]at he
     cases iz:aP H 1 (x.ev R)with
     | none=>simp[iz]at he
     | some es =>
      have wL:∀s,x.ev R≠.str s:=by
       intro s e;simp only[e]at he;split at he<;>cases he
      have D7:(bytesOf es).map (fun l=>(T.str ⟨l.toArray⟩,H))=some (t,H'):=by
       simp only[iz]at he
       generalize x.ev R=tx at he wL
       cases tx<;>first|exact he|exact absurd rfl (wL _)
      simp only[Option.map_eq_some_iff,Prod.mk.injEq]at D7
      obtain⟨l,h1,rfl,rfl⟩:=D7
      exact B2 hs hu hd h hx iz wL h1
end
end Go.Rmp
end
