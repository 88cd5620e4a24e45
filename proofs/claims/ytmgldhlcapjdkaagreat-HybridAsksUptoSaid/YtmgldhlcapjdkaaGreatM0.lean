/- Part of a proof of a law of this seat: the machine of plain values, its simulation, and the contracts of the functions that the law reaches. Conditions: none beyond the given row. -/
import Derived.OrdersIn
import Derived.RangeFuncIn
import Derived.Laws.Sem
import Derived.Laws.World
import Derived.Laws.IdiomCopy
import Derived.ChangeKeysEq
import Derived.Laws.StructEq
import Derived.Laws.BytesString
import Derived.IntWalk
import Derived.Lib.AppendZerosOnto
import Derived.Lib.Overlaps
import Derived.Maps.RangeRun
import Derived.RangeFuncRecord
open Int renaming reduceLT → q3, reduceLE → q4, reduceBEq → q5, reduceBNe → q6, reduceEq → q7
open Nat renaming reduceAdd → q8, reduceLeDiff → q9, reduceLT → j1, reduceEqDiff → j2
set_option linter.unusedSimpArgs false
set_option linter.unusedVariables false
set_option linter.unnecessarySimpa false
set_option maxHeartbeats 4000000
section
namespace Go.Rmp
inductive SK where
 | nil|arg|full|own (t e:Nat)
 deriving DecidableEq
inductive T where
 | int (k:IntKind) (n:Int)
 | bool (b:Bool)
 | str (s:ByteArray)
 | bI
 | ptr (b off:Nat)
 | bh (cs:List T)
 | eG
 | map (b:Nat)
 | sl (k:SK) (es:List (List T))
 | aB (b off len n:Nat)
 | dB (b off len n c:Nat)
 | kT
 | fn (f:Nat) (ja:List T)
 | mQ (b:Nat)
 | eV
 | agg (cs:List T)
 | bC (vs:List T)
abbrev ax:=Nat→T
def aW:T:=.bC []
def T.one:T→Bool
 | .agg _ | .bC _=>false
 | _=>true
def T.cells?:T→Option (List T)
 | .agg cs=>some cs
 | .bC _=>none
 | v=>some [v]
def T.erase:T→T
 | .sl _ es=>.sl .arg es
 | v=>v
inductive X where
 | r (t:Nat)
 | c (v:T)
def X.ev (R:ax):X→T
 | .r t=>R t
 | .c v=>v
def kQ (R:ax)(d:Nat)(v:T):ax:=fun t=>if t=d then v else R t
def a0 (R:ax)(d:Option Nat)(v:T):ax:=match d with|some d=>kQ R d v|none=>R
inductive C8 where|ptr|slice|map|func
 deriving DecidableEq
inductive Lc where|str|sl|map
inductive rG where|int|str|bool
 deriving DecidableEq
inductive KT where
 | sc (t:rG)
 | st (l:List rG)
def T.ub:rG→T→Bool
 | .int,.int _ _ | .str,.str _ | .bool,.bool _=>true
 | _,_=>false
def eg:List rG→List T→Bool
 | [],[]=>true
 | t :: ts,v :: vs=>v.ub t&&eg ts vs
 | _,_=>false
def T.gE:KT→T→Bool
 | .sc t,v=>v.ub t
 | .st l,.agg cs=>eg l cs
 | _,_=>false
inductive Bo where
 | aD (x:X)
 | pick (c a b:X)
 | bin (op:BinOp) (x y:X)
 | l7 (neg:Bool) (c:C8) (x y:X)
 | beq (neg:Bool) (x y:X)
 | eqs (neg:Bool) (ks:List rG) (x y:X)
 | un (op:UnOp) (x:X)
 | fB (k:IntKind) (x:X)
 | yn (x:X)
 | N4 (x:X)
 | len (k:Lc) (x:X)
 | alloc (z:List T)
 | box (x:X)
 | build (z:List T) (ps:List (Nat×Nat×X))
 | lX (n:Nat) (z:List T) (ps:List (Nat×X))
 | ld (n:Nat) (ag:Bool) (x:X)
 | st (n:Nat) (a v:X)
 | gL (off:Nat) (x:X)
 | Nq (off n:Nat) (ag:Bool) (x:X)
 | cK (st:Nat) (x i:X)
 | Nr (n st:Nat) (x i:X)
 | GZ (x i:X)
 | Ns (n st:Nat) (ag:Bool) (x i:X)
 | JF (x:X) (lo hi:Option X)
 | kR (st:Nat) (x:X) (lo hi mx:Option X)
 | vg
 | oU (kt:KT) (z:T) (ok:Bool) (m k:X)
 | x7 (kt:KT) (m k v:X)
 | del (kt:KT) (m k:X)
 | app (st bytes:Nat) (mu:Bool) (x y:X)
 | G0 (mu:Bool) (bytes:Nat) (z:List T) (l c:X)
 | G1 (f:Nat) (ja:List X)
 | ext (i:Nat) (x:X)
 | mn (x y:X)
 | mx (x y:X)
 | wU (x:X)
 | cap (x:X)
 | C9 (n:Nat) (x y:X)
 | Jd (n:Nat) (x y:X)
 | JG (x:X)
 | ni (x:X)
 | JH (x:X)
 | Je (n:Nat) (z:List T) (x:X)
 | JI (n bytes:Nat) (z:List T) (x k:X)
 | Jf (n:Nat) (z:List T) (ps:List (Nat×X))
 | Da (n:Nat) (x hi:X)
abbrev Gd:=Option (Nat×Bool)
structure Rd where
 d:Nat
 op:Bo
 g:Gd
inductive FA where
 | b (op:Bo)
 | call (f:Nat) (as:List X)
 | cq (f:X) (as:List X)
structure O where
 d:Option Nat
 op:FA
 g:Gd
 m7:List Rd
inductive C where
 | skip
 | ops (l:List O)
 | seq (a b:C)
 | cond (x:X) (a b:C)
 | block (id:Nat) (a:C)
 | loop (a:C)
 | exit (id:Nat)
 | ret
 | cg (n:Nat) (x:X) (ps:List Nat) (cf body:C)
inductive Ex where
 | normal|exit (id:Nat)|ret
inductive yo where
 | ready|busy|done
 deriving DecidableEq
inductive B where
 | cells (cs:List T)
 | map (es:List (T×T))
 | tok (e:Nat)
 | loop (st:yo) (cL:Option Ex) (n:Nat) (R:Nat→T) (ps:List Nat) (cf body:C)
 | rQ
 | dead
 /-- a map that is ranged over: the places still to come;the range's block;the place last told -/
 | eH (es:List (T×T)) (ix:List Nat) (bi:Nat) (cur:Option Nat)
 | x8 (b:Nat)
 /-- written cells that stand still from here on: they may be read -/
 | fz (cs:List T)
abbrev ae:=List B
def gn (a b:ByteArray):Bool:=a.toList==b.toList
def strLt (a b:ByteArray):Bool:=Op.bytesLess a.toList b.toList
def bD (op:BinOp):T→T→Option T
 | .int k a,.int k' b =>
  match op with
  | .shl=>if b<0 then none else some (.int k (k.wrap (a*2^(min b.toNat k.bits))))
  | .shr=>if b<0 then none else some (.int k (a.fdiv (2^(min b.toNat k.bits))))
  | op =>
   if k=k' then
    match op with
    | .add=>some (.int k (k.wrap (a+b)))
    | .sub=>some (.int k (k.wrap (a-b)))
    | .mul=>some (.int k (k.wrap (a*b)))
    | .quo=>if b=0 then none else some (.int k (k.wrap (a.tdiv b)))
    | .rem=>if b=0 then none else some (.int k (a.tmod b))
    | .and=>some (.int k (k.wrap (BitVec.ofInt k.bits a &&& BitVec.ofInt k.bits b).toNat))
    | .or=>some (.int k (k.wrap (BitVec.ofInt k.bits a ||| BitVec.ofInt k.bits b).toNat))
    | .xor=>some (.int k (k.wrap (BitVec.ofInt k.bits a ^^^ BitVec.ofInt k.bits b).toNat))
    | .andNot=>some (.int k (k.wrap (BitVec.ofInt k.bits a &&& ~~~ BitVec.ofInt k.bits b).toNat))
    | .eql=>some (.bool (a==b))
    | .neq=>some (.bool (a != b))
    | .lss=>some (.bool (a<b))
    | .leq=>some (.bool (a≤b))
    | .gtr=>some (.bool (a>b))
    | .geq=>some (.bool (a≥b))
    | _=>none
   else none
 | .str a,.str b =>
  match op with
  | .add=>if a.size+b.size≤9223372036854775807 then some (.str (a++b))else none
  | .eql=>some (.bool (gn a b))
  | .neq=>some (.bool (!gn a b))
  | .lss=>some (.bool (strLt a b))
  | .leq=>some (.bool (strLt a b||gn a b))
  | .gtr=>some (.bool (!(strLt a b||gn a b)))
  | .geq=>some (.bool (!strLt a b))
  | _=>none
 | _,_=>none
def Jg (op:UnOp):T→Option T
 | .int k n =>
  match op with
  | .neg=>some (.int k (k.wrap (0-n)))
  | .xor=>some (.int k (k.wrap (BitVec.ofInt k.bits (if k.signed then -1 else k.max) ^^^ BitVec.ofInt k.bits n).toNat))
  | _=>none
 | .bool b=>match op with | .not=>some (.bool !b)|_=>none
 | _=>none
def mR:C8→T→Option Bool
 | .ptr,.bI=>some true
 | .ptr,.ptr _ _ | .ptr,.bh _=>some false
 | .slice,.sl .nil []=>some true
 | .slice,.sl .full _ | .slice,.sl (.own _ _) _ | .slice,.sl .arg (_ :: _) | .slice,.aB _ _ _ _=>some false
 | .map,.eG=>some true
 | .map,.map _=>some false
 | .func,.kT=>some true
 | .func,.fn _ _=>some false
 | _,_=>none
def mS (c:C8)(x y:T):Option Bool :=
 match mR c x,mR c y with
 | some true,some b=>some b
 | some b,some true=>some b
 | _,_=>none
def gM:T→T→Option Bool
 | .int k a,.int k' b=>if k=k' then some (a==b)else none
 | .str a,.str b=>some (gn a b)
 | .bool a,.bool b=>some (a==b)
 | _,_=>none
def bA:List T→List T→Option Bool
 | [],[]=>some true
 | a :: as,b :: bs=>match gM a b,bA as bs with
  | some x,some y=>some (x&&y)
  | _,_=>none
 | _,_=>none
def gp:T→T→Option Bool
 | .agg as,.agg bs=>bA as bs
 | a,b=>gM a b
def cw (k:T):List (T×T)→Option (Option Nat)
 | []=>some none
 | e :: es=>match gp k e.1 with
  | some true=>some (some 0)
  | some false=>(cw k es).map (Option.map (·+1))
  | none=>none
def eJ (H:ae):T→Option (List (T×T))
 | .eG=>some []
 | .map b=>match H[b]? with|some (.map es)=>some es|some (.eH es _ _ _)=>some es|_=>none
 | _=>none
def jV (cells:List T):List (Nat×List T)→Option (List T)
 | []=>some cells
 | (off,vs) :: rest=>if off+vs.length≤cells.length then jV (cells.take off++vs++cells.drop (off+vs.length)) rest else none
def dI (R:ax):List (Nat×Nat×X)→Option (List (Nat×List T))
 | []=>some []
 | (off,n,x) :: rest=>match (x.ev R).cells?,dI R rest with
  | some cs,some l=>if cs.length=n then some ((off,cs) :: l)else none
  | _,_=>none
def gN (n:Nat)(es:List (List T))(R:ax):List (Nat×X)→Option (List (List T))
 | []=>some es
 | (i,x) :: rest=>match (x.ev R).cells? with
  | some cs=>if cs.length=n∧i<es.length then gN n (es.set i (cs.map T.erase)) R rest else none
  | none=>none
def gO (n:Nat)(es:List (List T))(R:ax):List (Nat×X)→Option (List (List T))
 | []=>some es
 | (i,x) :: rest=>match (x.ev R).cells? with
  | some cs=>if cs.length=n∧i<es.length then gO n (es.set i cs) R rest else none
  | none=>none
def iU (H:ae)(n:Nat):T→Option (List T)
 | .ptr b off=>match H[b]? with
  | some (.cells cs)=>if off+n≤cs.length then some ((cs.drop off).take n)else none
  | some (.fz cs)=>if off+n≤cs.length then some ((cs.drop off).take n)else none
  | _=>none
 | .bh cs=>if n≤cs.length then some (cs.take n)else none
 | _=>none
def valOf (ag:Bool)(cs:List T):Option T :=
 if ag then some (.agg cs)else match cs with | [v]=>some v|_=>none
def Db (H:ae)(vs:List T):T→Option ae
 | .ptr b off=>match H[b]? with
  | some (.cells cs)=>if off+vs.length≤cs.length then some (H.set b (.cells (cs.take off++vs++cs.drop (off+vs.length))))else none
  | _=>none
 | _=>none
def fH (off:Nat):T→Option T
 | .ptr b o=>some (.ptr b (o+off))
 | .bh cs=>if off<cs.length then some (.bh (cs.drop off))else none
 | _=>none
def eW (n i:Nat):T→Option T
 | .sl _ es=>match es[i]? with
  | some c=>if c.length=n∧n≠0 then some (.bh c)else none
  | none=>none
 | .aB b off len n'=>if n'=n∧i<len∧n≠0 then some (.ptr b (off+i*n))else none
 | _=>none
def bl (H:ae)(n:Nat):T→Option (List (List T))
 | .sl _ es=>if es.all (·.length==n)then some es else none
 | .aB b off len n'=>match H[b]? with
  | some (.cells cs)=>if n'=n∧off+len*n≤cs.length then some ((List.range len).map fun i=>(cs.drop (off+i*n)).take n)else none
  | some (.fz cs)=>if n'=n∧off+len*n≤cs.length then some ((List.range len).map fun i=>(cs.drop (off+i*n)).take n)else none
  | _=>none
 | .str s=>if n=1 then some (s.data.toList.map fun c=>[.int .u8 c.toNat])else none
 | _=>none
def bytesOf:List (List T)→Option (List UInt8)
 | []=>some []
 | [.int .u8 n] :: es=>(bytesOf es).map (UInt8.ofNat n.toNat :: ·)
 | _=>none
def gb (H:ae):Lc→T→Option Nat
 | .str,.str s=>some s.size
 | .sl,.sl _ es=>some es.length
 | .sl,.aB _ _ len _=>some len
 | .sl,.dB _ _ len _ _=>some len
 | .map,.eG=>some 0
 | .map,.map b=>match H[b]? with
  | some (.map es)=>some es.length
  | some (.eH es _ _ _)=>some es.length
  | _=>none
 | _,_=>none
def bd:T→Option Nat
 | .int _ n=>if 0≤n then some n.toNat else none
 | _=>none
def fe (R:ax)(d:Nat):Option X→Option Nat
 | none=>some d
 | some x=>bd (x.ev R)
def SK.cut (k:SK)(len lo hi:Nat):SK :=
 match k with
 | .nil=>.nil
 | .arg=>.arg
 | .full=>if hi=len then .full else .arg
 | .own t e=>if hi=len∧lo<len then .own t e else .arg
def dv (hU bytes:Nat):Bool:=(hU+hU/4+512)*bytes≤281474976710656
def jP (H:ae)(bytes:Nat)(k:SK)(es new:List (List T)):Option (T×ae) :=
 match new with
 | []=>some (.sl k es,H)
 | _ =>
  if dv (es.length+new.length) bytes then
   match k with
   | .nil | .full=>some (.sl (.own H.length (es.length+new.length)) (es++new.map (·.map T.erase)),H++[.tok (es.length+new.length)])
   | .own t e=>match H[t]? with
    | some (.tok e')=>if e=e' then some (.sl (.own t (e+new.length)) (es++new.map (·.map T.erase)),H.set t (.tok (e+new.length)))else none
    | _=>none
   | .arg=>none
  else none
def vj:T→Bool
 | .sl _ _ | .aB _ _ _ _=>true
 | _=>false
def ko (H:ae)(n bytes:Nat)(x:T)(new:List (List T)):Option (T×ae) :=
 match new with
 | []=>if vj x then some (x,H)else none
 | _ =>
  match x with
  | .sl .nil es | .sl .full es =>
   if dv (es.length+new.length) bytes∧es=[]then some (.aB H.length 0 new.length n,H++[.cells new.flatten])else none
  | .aB b off len n'=>match H[b]? with
   | some (.cells cs) =>
    if n'=n∧off=0∧len*n=cs.length∧dv (len+new.length) bytes then
     some (.aB H.length 0 (len+new.length) n,H.set b .dead++[.cells (cs++new.flatten)])else none
   | _=>none
  | _=>none
def FB:T→T
 | .dB b off len n _=>.aB b off len n
 | t=>t
def fI (H:ae)(n k:Nat):T→Option (List (List T))
 | .aB b off _ n' | .dB b off _ n' _=>match H[b]? with
  | some (.cells cs)=>if n'=n∧off+k*n≤cs.length then some ((List.range k).map fun i=>(cs.drop (off+i*n)).take n)else none
  | _=>none
 | _=>none
def Dc:T→Option Nat
 | .aB _ _ len _ | .dB _ _ len _ _=>some len
 | _=>none
def yp (H:ae)(n:Nat)(x y:T):Option (T×ae) :=
 match x,Dc y with
 | .aB b off len n',some ly | .dB b off len n' _,some ly =>
  match H[b]?,fI H n (min ly len) y with
  | some (.cells cs),some new =>
   if n'=n∧n≠0∧off≤cs.length then some (.int .i64 (min ly len:Nat),H.set b (.cells (cs.take off++new.flatten++cs.drop (off+(min ly len)*n))))else none
  | _,_=>none
 | _,_=>none
def rR (H:ae)(b:Nat):Nat:=match H[b]? with
 | some (.cells cs)=>cs.length
 | some (.fz cs)=>cs.length
 | _=>0
def Dd (H:ae)(n bytes:Nat)(z:List T)(x:T)(k:Nat):Option (T×ae) :=
 match x with
 | .dB b off len n' c=>match fI H n len x with
  | some es=>if n'=n∧n≠0∧0<k∧c<len+k∧z.length=n∧dv (len+k) bytes then some (.aB H.length 0 (len+k) n,H++[.cells (es.flatten++(List.replicate k z).flatten)])else none
  | none=>none
 | _=>none
def yq (H:ae)(n:Nat)(x y:T):Option (T×ae) :=
 match x,y with
 | .aB bv _ _ n1,.dB b _ len n2 _ =>
  match H[bv]?,H[b]? with
  | some (.cells _),some (.cells cs)=>if bv≠b∧n1=n∧n2=n∧0<cs.length then some (.bool false,H)else none
  | _,_=>none
 | _,_=>none
def yr (R:ax)(l:List X):List T:=l.map (X.ev R)
def av (R:ax)(H:ae):Bo→Option (T×ae)
 | .aD x=>some (x.ev R,H)
 | .pick c a b=>match c.ev R with
  | .bool t=>some (if t then a.ev R else b.ev R,H)
  | _=>none
 | .bin op x y=>(bD op (x.ev R) (y.ev R)).map (·,H)
 | .l7 neg c x y=>(mS c (x.ev R) (y.ev R)).map fun b=>(.bool (if neg then !b else b),H)
 | .beq neg x y=>match x.ev R,y.ev R with
  | .bool a,.bool b=>some (.bool (if neg then !(a==b)else a==b),H)
  | _,_=>none
 | .eqs neg ks x y=>match x.ev R,y.ev R with
  | .agg as,.agg bs=>if eg ks as then(bA as bs).map fun b=>(.bool (if neg then !b else b),H)else none
  | _,_=>none
 | .un op x=>(Jg op (x.ev R)).map (·,H)
 | .fB k x=>match x.ev R with
  | .int _ n=>some (.int k (k.wrap n),H)
  | _=>none
 | .yn x=>match bl H 1 (x.ev R)with
  | some es=>match x.ev R with
   | .str _=>none
   | _=>(bytesOf es).map fun l=>(.str ⟨l.toArray⟩,H)
  | none=>none
 | .N4 x=>match x.ev R with
  | .str s=>if s.size=0 then some (.sl .arg [],H)else if s.size≤281474976710656 then some (.sl (.own H.length s.size) (s.data.toList.map fun c=>[.int .u8 c.toNat]),H++[.tok s.size])else none
  | _=>none
 | .len k x=>(gb H k (x.ev R)).map fun (n:Nat)=>(T.int .i64 (n:Int),H)
 | .alloc z=>some (.ptr H.length 0,H++[.cells z])
 | .box x=>(x.ev R).cells?.map fun cs=>(.ptr H.length 0,H++[.cells cs])
 | .build z ps=>match dI R ps with
  | some l=>(jV z l).map fun cs=>(.agg cs,H)
  | none=>none
 | .lX n z ps=>(gN z.length (List.replicate n z) R ps).map fun es=>(.sl .full es,H)
 | .ld n ag x=>match iU H n (x.ev R)with
  | some cs=>(valOf ag cs).map (·,H)
  | none=>none
 | .st n a v=>match (v.ev R).cells? with
  | some vs=>if vs.length=n then(Db H vs (a.ev R)).map (aW,·)else none
  | none=>none
 | .gL off x=>(fH off (x.ev R)).map (·,H)
 | .Nq off n ag x=>match x.ev R with
  | .agg cs=>if off+n≤cs.length then(valOf ag ((cs.drop off).take n)).map (·,H)else none
  | _=>none
 | .cK n x i=>(bd (i.ev R)).bind fun i=>(eW n i (x.ev R)).map (·,H)
 | .Nr len n x i=>match x.ev R,bd (i.ev R)with
  | .ptr b off,some i=>if i<len then some (.ptr b (off+i*n),H)else none
  | _,_=>none
 | .GZ x i=>match x.ev R,bd (i.ev R)with
  | .str s,some i=>(s.data[i]?).map fun c=>(.int .u8 c.toNat,H)
  | _,_=>none
 | .Ns len n ag x i=>match x.ev R,bd (i.ev R)with
  | .agg cs,some i=>if i<len∧i*n+n≤cs.length then(valOf ag ((cs.drop (i*n)).take n)).map (·,H)else none
  | _,_=>none
 | .JF x lo hi=>match x.ev R with
  | .str s=>match fe R 0 lo,fe R s.size hi with
   | some l,some h=>if l≤h∧h≤s.size then some (.str (s.extract l h),H)else none
   | _,_=>none
  | _=>none
 | .kR n x lo hi mx=>match x.ev R with
  | .sl k es=>match fe R 0 lo,fe R es.length hi,mx with
   | some l,some h,none=>if l≤h∧h≤es.length∧es.all (·.length==n)then some (.sl (k.cut es.length l h) ((es.take h).drop l),H)else none
   | some l,some h,some m=>match bd (m.ev R)with
    | some m =>
     if l≤h∧h≤m∧m≤es.length∧es.all (·.length==n)then
      some (.sl (if k=.nil then .nil else if es=[]∧k=.arg then .arg else if h=m then .full else .arg) ((es.take h).drop l),H)else none
    | none=>none
   | _,_,_=>none
  | .aB b off len n'=>match fe R 0 lo,fe R len hi,mx with
   | some l,some h,none =>
    if n'=n∧l≤h∧h≤len then some (if l=h then(if l=0 then .aB b off 0 n else .sl .arg [])else .aB b (off+l*n) (h-l) n,H)else none
   | _,_,_=>none
  | .dB b off len n' c=>match fe R 0 lo,fe R len hi,mx with
   | some l,some h,none =>
    if n'=n∧l≤h∧h≤c then some (if l<c∨l=0 then .dB b (off+l*n) (h-l) n (c-l)else .sl .arg [],H)else none
   | _,_,_=>none
  | _=>none
 | .vg=>some (.map H.length,H++[.map []])
 | .oU kt z ok m k =>
  if (k.ev R).gE kt then
   match eJ H (m.ev R)with
   | some es=>match cw (k.ev R) es with
    | some (some i)=>match es[i]? with
     | some e=>some (if ok then .bC [e.2,.bool true]else e.2,H)
     | none=>none
    | some none=>some (if ok then .bC [z,.bool false]else z,H)
    | none=>none
   | none=>none
  else none
 | .x7 kt m k v=>match m.ev R with
  | .map b=>if (k.ev R).gE kt then match H[b]? with
   | some (.map es)=>match cw (k.ev R) es with
    | some (some i)=>some (aW,H.set b (.map (es.set i (k.ev R,v.ev R))))
    | some none=>some (aW,H.set b (.map (es++[(k.ev R,v.ev R)])))
    | none=>none
   | _=>none else none
  | _=>none
 | .del kt m k=>match m.ev R with
  | .map b=>if (k.ev R).gE kt then match H[b]? with
   | some (.map es)=>match cw (k.ev R) es with
    | some (some i)=>some (.bC [],H.set b (.map (es.eraseIdx i)))
    | some none=>some (.bC [],H)
    | none=>none
   | _=>none else none
  | _=>none
 | .app n bytes mu x y=>match bl H n (y.ev R)with
  | some new=>if mu then ko H n bytes (FB (x.ev R)) new else match x.ev R with
   | .sl k es=>if es.all (·.length==n)then jP H bytes k es new else none
   | _=>none
  | none=>none
 | .G0 mu bytes z l c=>match bd (l.ev R),bd (c.ev R)with
  | some l,some c =>
   if l≤c∧c*bytes≤281474976710656∧c≤9223372036854775807 then
    if mu then some (.aB H.length 0 l z.length,H++[.cells (List.replicate l z).flatten])
    else if l=0 then some (.sl .arg [],H)else some (.sl (.own H.length l) (List.replicate l z),H++[.tok l])
   else none
  | _,_=>none
 | .G1 f ja=>some (.fn f (yr R ja),H)
 | .ext i x=>match x.ev R with
  | .bC vs=>(vs[i]?).map (·,H)
  | _=>none
 | .mn x y=>match x.ev R,y.ev R with
  | .int k a,.int _ b=>some (.int k (if b<a then b else a),H)
  | _,_=>none
 | .mx x y=>match x.ev R,y.ev R with
  | .int k a,.int _ b=>some (.int k (if b>a then b else a),H)
  | _,_=>none
 | .wU x=>match x.ev R with
  | .bI | .eV | .kT=>none
  | v=>some (v,H)
 | .cap x=>match x.ev R with
  | .dB _ _ _ _ c=>some (.int .i64 (c:Nat),H)
  | _=>none
 | .C9 n x y=>yp H n (x.ev R) (y.ev R)
 | .JG x=>match x.ev R with
  | .map b=>(eJ H (.map b)).map fun es=>(.ptr H.length 0,H.set b (.eH es (List.range es.length) H.length none)++[.x8 b])
  | _=>none
 | .ni _=>none
 | .JH x=>match x.ev R with
  | .ptr bi 0=>match H[bi]? with
   | some (.x8 b)=>match H[b]? with
    | some (.eH es _ FC (some c))=>if FC=bi then(es[c]?).map fun e=>(.bC [e.1,e.2],H)else none
    | _=>none
   | _=>none
  | _=>none
 | .Je n z x=>match x.ev R with
  | .aB b off len n'=>match H[b]? with
   | some (.cells cs)=>if n'=n∧z.length=n∧off+len*n≤cs.length then some (aW,H.set b (.cells (cs.take off++(List.replicate len z).flatten++cs.drop (off+len*n))))else none
   | _=>none
  | _=>none
 | .Jd n x y=>yq H n (x.ev R) (y.ev R)
 | .JI n bytes z x k=>(bd (k.ev R)).bind fun k=>Dd H n bytes z (x.ev R) k
 | .Jf n z ps=>(gO z.length (List.replicate n z) R ps).bind fun es=>if z.length≠0 then some (.aB H.length 0 n z.length,H++[.cells es.flatten])else none
 | .Da n x hi=>match x.ev R,bd (hi.ev R)with
  | .aB b off _ n',some h=>if n'=n∧n≠0∧0<h∧off+h*n≤rR H b then some (.aB b off h n,H)else none
  | _,_=>none
def aV (R:ax):Gd→Bool
 | none=>true
 | some (t,b)=>match R t with
  | .bool c=>c==b
  | _=>false
inductive Rs where
 | t (r:Nat)
 | cl (r n:Nat) (ag:Bool)
structure Fn where
 n:Nat
 np:Nat
 res:List Rs
 body:C
structure Env where
 fn:Nat→Option Fn
 l8:Nat→List T→ae→(T→ae→Prop)→Prop
 mono:∀f az H (Q Q':T→ae→Prop),l8 f az H Q→(∀t H',Q t H'→Q' t H')→l8 f az H Q'
inductive J where
 | code (c:C) (R:ax)
 | ops (l:List O) (R:ax)
 | call (f:Nat) (as:List T)
inductive Out where
 | ex (e:Ex) (R:ax)
 | val (v:T)
def C.iR:C→Bool
 | .seq a b | .cond _ a b=>a.iR||b.iR
 | .block _ a | .loop a=>a.iR
 | .cg _ _ _ _ _=>true
 | _=>false
def kV (R:ax):List Nat→List T→ax
 | p :: ps,v :: vs=>kV (kQ R p v) ps vs
 | _,_=>R
def yu:T→Option Nat
 | .ptr b 0=>some b
 | _=>none
def nE:List T→Option (List Nat)
 | []=>some []
 | t :: ts=>match yu t,nE ts with
  | some b,some bs=>some (b :: bs)
  | _,_=>none
def marks:T→Option (List Nat)
 | .bC ts=>nE ts
 | _=>none
def kW (t:T)(b:Nat):T:=match t with
 | .bC ts=>.bC (.ptr b 0 :: ts)
 | t=>t
def kill (H:ae):List Nat→ae
 | []=>H
 | b :: bs=>kill (H.set b .dead) bs
def qx:Option Ex→Ex
 | none=>.normal
 | some e=>e
def gq (as:List T):ax:=fun t=>as.getD t aW
def uc (R:ax)(H:ae):Rs→Option T
 | .t r=>some (R r)
 | .cl r n ag=>match iU H n (R r)with
  | some cs=>valOf ag cs
  | none=>none
def o5 (R:ax)(H:ae):List Rs→Option (List T)
 | []=>some []
 | x :: xs=>match uc R H x,o5 R H xs with
  | some v,some vs=>some (v :: vs)
  | _,_=>none
def wV:List T→T
 | [v]=>v
 | l=>.bC l
def kX (R:ax)(H:ae)(l:List Rs):Option T:=(o5 R H l).map wV
def eX (R:ax)(H:ae)(l:List Rd):Prop:=∀r∈l,aV R r.g=true→av R H r.op=some (R r.d,H)
def eY (cs:List T)(off len n:Nat):List (List T):=(List.range len).map fun i=>(cs.drop (off+i*n)).take n
def yv (b:Nat)(cs:List T):T→T
 | .aB b' off len n=>if b'=b∧off+len*n≤cs.length then .sl .arg (eY cs off len n)else .aB b' off len n
 | t=>t
def rS (b:Nat)(cs:List T):T→T
 | .bC vs=>.bC (vs.map (yv b cs))
 | t=>yv b cs t
def nF (b:Nat):T→Prop
 | .bC vs=>∃off len n,T.aB b off len n∈vs
 | .aB b' _ _ _=>b'=b
 | _=>False
inductive Vw (H:ae):T→T→Prop
 | refl (t:T):Vw H t t
 | ms {b off len n:Nat} {cs:List T} {es:List (List T)} (src:Nat→Nat→T) (hb:H[b]?=some (.fz cs)) (hl:es.length=len) (hn:∀c∈es,c.length=n) (hle:off+len*n≤cs.length)
   (h1:∀(i j:Nat) (c:List T) (t':T),es[i]?=some c→c[j]?=some t'→cs[off+i*n+j]?=some (src i j)∧t'.one=true) (h2:∀(i j:Nat) (c:List T) (t':T),es[i]?=some c→c[j]?=some t'→Vw H (src i j) t'):Vw H (.aB b off len n) (.sl .arg es)
def Jh (H:ae)(as:List T)(b:Nat):Prop:=∃(i b' off len n:Nat),as[i]?=some (.aB b' off len n)∧(b'=b∨∃(cs:List T) (j yw yx n':Nat),(H[b']?=some (.cells cs)∨H[b']?=some (.fz cs))∧(cs[j]?:Option T)=some (.aB b yw yx n'))
def kY (H:ae)(b bi:Nat)(es:List (T×T))(ix:List Nat)(t:T)(H':ae):Prop :=
 (ix=[]∧t=.bC [.bool false]∧H'=H.set b (.map es))∨∃i e,i∈ix∧es[i]?=some e∧t=.bC [.bool true,e.1,e.2]∧H'=H.set b (.eH es (ix.erase i) bi (some i))
inductive W (E:Env):J→ae→(Out→ae→Prop)→Prop
 | skip {R H Q} (h:Q (.ex .normal R) H):W E (.code .skip R) H Q
 | exit {id R H Q} (h:Q (.ex (.exit id) R) H):W E (.code (.exit id) R) H Q
 | ret {R H Q} (h:Q (.ex .ret R) H):W E (.code .ret R) H Q
 | G2 {l R H Q} (h:W E (.ops l R) H Q):W E (.code (.ops l) R) H Q
 | seq {a b R H Q} (M:Out→ae→Prop) (h1:W E (.code a R) H M) (h2:∀R' H',M (.ex .normal R') H'→W E (.code b R') H' Q)
   (h3:∀o H',M o H'→(∀R',o≠.ex .normal R')→Q o H'):W E (.code (.seq a b) R) H Q
 | cond {x a b R H Q} (t:Bool) (hx:x.ev R=.bool t) (h:W E (.code (if t then a else b) R) H Q):W E (.code (.cond x a b) R) H Q
 | block {id a R H Q} (M:Out→ae→Prop) (h1:W E (.code a R) H M) (h2:∀R' H',M (.ex (.exit id) R') H'→Q (.ex .normal R') H')
   (h3:∀o H',M o H'→(∀R',o≠.ex (.exit id) R')→Q o H'):W E (.code (.block id a) R) H Q
 | loop {a R H Q} (M:Out→ae→Prop) (h1:W E (.code a R) H M) (h2:∀R' H',M (.ex .normal R') H'→W E (.code (.loop a) R') H' Q)
   (h3:∀o H',M o H'→(∀R',o≠.ex .normal R')→Q o H'):W E (.code (.loop a) R) H Q
 | nil {R H Q} (h:Q (.ex .normal R) H):W E (.ops [] R) H Q
 | no {o l R H Q} (hg:aV R o.g=false) (h:W E (.ops l (a0 R o.d aW)) H Q):W E (.ops (o :: l) R) H Q
 | op {d b g s l R H Q v H'} (hg:aV R g=true) (he:av R H b=some (v,H')) (hs:eX R H' s) (h:W E (.ops l (a0 R d v)) H' Q):W E (.ops (⟨d,.b b,g,s⟩ :: l) R) H Q
 | call {d f as g s l R H Q} (M:Out→ae→Prop) (hg:aV R g=true) (h1:W E (.call f (as.map (X.ev R))) H M)
   (hs:∀v H',M (.val v) H'→eX R H' s) (h2:∀v H',M (.val v) H'→W E (.ops l (a0 R d v)) H' Q):W E (.ops (⟨d,.call f as,g,s⟩ :: l) R) H Q
 | cq {d x f cs as g s l R H Q} (M:Out→ae→Prop) (hg:aV R g=true) (hf:x.ev R=.fn f cs) (h1:W E (.call f (as.map (X.ev R)++cs)) H M)
   (hs:∀v H',M (.val v) H'→eX R H' s) (h2:∀v H',M (.val v) H'→W E (.ops l (a0 R d v)) H' Q):W E (.ops (⟨d,.cq x as,g,s⟩ :: l) R) H Q
 | ud {d neg c x y s l R H Q} (hs:s=[]) (h:∀b:Bool,W E (.ops l (a0 R d (.bool b))) H Q) (hx:x.ev R=.sl .arg []) (hy:y.ev R=.sl .nil []) (hc:c=.slice) :
   W E (.ops (⟨d,.b (.l7 neg c x y),none,s⟩ :: l) R) H Q
 | mQ {d x b as g s l R H Q n R0 ps cf body} (M1 M:Out→ae→Prop) (hg:aV R g=true) (hf:x.ev R=.mQ b) (hb:H[b]?=some (.loop .ready none n R0 ps cf body)) (hn:as.length=ps.length)
   (h1:W E (.code cf (kV R0 ps (as.map (X.ev R)))) H M1) (pr:∀o H',M1 o H'→(∃R1,o=.ex .normal R1)∧H'[b]?=some (.loop .ready none n R0 ps cf body))
   (h2:∀R1 H1,M1 (.ex .normal R1) H1→W E (.code body R1) (H1.set b (.loop .busy none n R0 ps cf body)) M) (nG:∀o H',M o H'→H'[b]?=some (.loop .busy none n R0 ps cf body))
   (pt:∀R' H',M (.ex .normal R') H'→eX R (H'.set b (.loop .ready none n R0 ps cf body)) s)
   (h3:∀R' H',M (.ex .normal R') H'→W E (.ops l (a0 R d (.bool true))) (H'.set b (.loop .ready none n R0 ps cf body)) Q)
   (CV:∀e R' H',M (.ex e R') H'→e≠.normal→eX R (H'.set b (.loop .done (some e) n R0 ps cf body)) s)
   (h4:∀e R' H',M (.ex e R') H'→e≠.normal→W E (.ops l (a0 R d (.bool false))) (H'.set b (.loop .done (some e) n R0 ps cf body)) Q):W E (.ops (⟨d,.cq x as,g,s⟩ :: l) R) H Q
 | cg {n x ps cf body R H Q f cs} (M:Out→ae→Prop) (hx:x.ev R=.fn f cs) (h1:W E (.call f (.mQ (H.length+1) :: cs)) (H++[.rQ,.loop .ready none n R ps cf body]) M)
   (h2:∀v H',M (.val v) H'→∃st cL,st≠.busy∧cL≠some .normal∧H'[H.length+1]?=some (.loop st cL n R ps cf body)∧Q (.ex (qx cL) (kQ R n (kW (R n) H.length))) (H'.set (H.length+1) .dead)) :
   W E (.code (.cg n x ps cf body) R) H Q
 | Ji {f as H Q fn} (M:Out→ae→Prop) (hf:E.fn f=some fn) (hn:as.length=fn.np) (h1:W E (.code fn.body (gq as)) H M)
   (h2:∀o H',M o H'→∃R' bs,(o=.ex .normal R'∨o=.ex .ret R')∧marks (R' fn.n)=some bs∧bs.Nodup∧(∀b∈bs,H'[b]?=some .rQ)∧∃v,kX R' (kill H' bs) fn.res=some v∧Q (.val v) (kill H' bs)):W E (.call f as) H Q
 | fn {f as H Q fn} (M:Out→ae→Prop) (hf:E.fn f=some fn) (hr:fn.body.iR=false) (hn:as.length=fn.np) (h1:W E (.code fn.body (gq as)) H M)
   (h2:∀o H',M o H'→∃R',(o=.ex .normal R'∨o=.ex .ret R')∧∃v,kX R' H' fn.res=some v∧Q (.val v) H'):W E (.call f as) H Q
 | yz {f as H Q b off len n} (i:Nat) (M:Out→ae→Prop) (hi:as[i]?=some (.aB b off len n)) (h1:∀c,len≤c→W E (.call f (as.set i (.dB b off len n c))) H M) (h2:∀v H',M (.val v) H'→Q (.val (FB v)) H'):W E (.call f as) H Q
 | m8 {f as H Q} (M:Out→ae→Prop) (h1:W E (.call f as) H M) (h2:∀o H',M o H'→∃v b cs,o=.val v∧nF b v∧H'[b]?=some (.cells cs)∧Q (.val (rS b cs v)) (H'.set b .dead)):W E (.call f as) H Q
 | ni {d x g s l R H Q b bi es ix cur} (hg:aV R g=true) (hx:x.ev R=.ptr bi 0) (hb:H[b]?=some (.eH es ix bi cur))
   (hs:∀t H',kY H b bi es ix t H'→eX R H' s) (h:∀t H',kY H b bi es ix t H'→W E (.ops l (a0 R d t)) H' Q):W E (.ops (⟨d,.b (.ni x),g,s⟩ :: l) R) H Q
 | shr {f as H Q} (M:Out→ae→Prop) (h1:W E (.call f as) H M) (h2:∀o H',M o H'→∃v b cs k,o=.val v∧nF b v∧H'[b]?=some (.cells cs)∧Q (.val v) (H'.set b (.cells (cs.take k)))):W E (.call f as) H Q
 | yA {f as H Q b off len n cs} (i:Nat) (hi:as[i]?=some (.aB b off len n)) (hb:H[b]?=some (.cells cs)) (h:W E (.call f (as.map (rS b cs))) (H.set b .dead) Q):W E (.call f as) H Q
 | Jj {f as H Q b cs} (hk:Jh H as b) (hb:H[b]?=some (.cells cs)) (h:W E (.call f as) (H.set b (.fz cs)) Q):W E (.call f as) H Q
 | vw {f as yB H Q} (hl:yB.length=as.length) (hv:∀(i:Nat) (t t':T),as[i]?=some t→yB[i]?=some t'→Vw H t t') (h:W E (.call f yB) H Q):W E (.call f as) H Q
 | Jk {d n bytes y g s l R H Q b len cs v H' t} (hg:aV R g=true) (ht:R t=.aB b 0 len n) (hb:H[b]?=some (.cells cs)) (hlen:len*n=cs.length) (h0:0<len)
   (he:av (kQ R t (.sl (.own H.length len) (eY cs 0 len n))) (H.set b (.fz cs)++[.tok len]) (.app n bytes false (.r t) y)=some (v,H')) (hs:eX R H' s) (h:W E (.ops l (a0 R d v)) H' Q):W E (.ops (⟨d,.b (.app n bytes false (.r t) y),g,s⟩ :: l) R) H Q
 | l8 {f as H Q} (h:E.l8 f as H fun v H'=>Q (.val v) H'):W E (.call f as) H Q
inductive Ow where
 | free|hC|mut (b:Nat)|spare (t:Nat)
 deriving DecidableEq
structure Ctx where
 φ:Nat→Option (Nat×Nat×Nat)
 κ:Nat→Nat→Ow
 π:Nat→Nat→Option (Nat×Nat×Nat)
 ck:Nat→C→Code→Prop
def ue (g:Ctx)(w:World)(r o:Nat)(v:Value):Prop:=g.κ r o=.hC∧w.cell? ⟨r,o,none⟩=some v
def pw (g:Ctx)(k:SK)(r o len cap n:Nat):Prop :=
 match k with
 | .nil=>False
 | .arg=>True
 | .full=>cap=len
 | .own t e=>g.π t e=some (r,o+len*n,o+cap*n)∧0<len
inductive VR (g:Ctx)(w:World):T→Value→Prop
 | int (k n):VR g w (.int k n) (.int k n)
 | bool (b):VR g w (.bool b) (.bool b)
 | str (s):VR g w (.str s) (.string s)
 | bI:VR g w .bI (.pointer none)
 | ptr {b off r o q} (h:g.φ b=some (r,o,q)):VR g w (.ptr b off) (.pointer (some ⟨r,o+off,none⟩))
 | bh {cs r o} (b6:Nat→Value) (h1:∀(j:Nat) (t:T),cs[j]?=some t→t.one=true∧ue g w r (o+j) (b6 j)) (h2:∀(j:Nat) (t:T),cs[j]?=some t→VR g w t (b6 j)) :
   VR g w (.bh cs) (.pointer (some ⟨r,o,none⟩))
 | eG:VR g w .eG (.map none)
 | map {b r o q} (h:g.φ b=some (r,o,q)):VR g w (.map b) (.map (some r))
 | slnil:VR g w (.sl .nil []) (.slice none 0 0)
 | gu (a:Option Addr):VR g w (.sl .arg []) (.slice a 0 0)
 | sl {k es r o cap n} (b6:Nat→Nat→Value) (hk:pw g k r o es.length cap n) (hc:es.length≤cap) (hn:∀c∈es,c.length=n)
   (h1:∀(i j:Nat) (c:List T) (t:T),es[i]?=some c→c[j]?=some t→t.one=true∧ue g w r (o+i*n+j) (b6 i j))
   (h2:∀(i j:Nat) (c:List T) (t:T),es[i]?=some c→c[j]?=some t→VR g w t (b6 i j)) :
   VR g w (.sl k es) (.slice (some ⟨r,o,none⟩) es.length cap)
 | aB {b off len n r o q cap} (h:g.φ b=some (r,o,q)) (hc:len≤cap) (hq:o+off+cap*n=q):VR g w (.aB b off len n) (.slice (some ⟨r,o+off,none⟩) len cap)
 | dB {b off len n r o q c} (h:g.φ b=some (r,o,q)) (hc:len≤c) (hq:o+off+c*n=q):VR g w (.dB b off len n c) (.slice (some ⟨r,o+off,none⟩) len c)
 | kT:VR g w .kT .nilFunc
 | fn {f ja vs} (hl:vs.size=ja.length) (h:∀(i:Nat) (t:T) (v:Value),ja[i]?=some t→vs[i]?=some v→VR g w t v):VR g w (.fn f ja) (.func (.func f) #[] vs)
 | mQ {b r o q} (h:g.φ b=some (r,o,q)):VR g w (.mQ b) (.func (.yield r) #[] #[])
 | eV:VR g w .eV .nilIface
 | agg {cs vs} (hl:vs.size=cs.length) (h1:∀t∈cs,t.one=true) (h2:∀(i:Nat) (t:T) (v:Value),cs[i]?=some t→vs[i]?=some v→VR g w t v):VR g w (.agg cs) (.agg vs)
 | bC {cs vs} (hl:vs.size=cs.length) (h2:∀(i:Nat) (t:T) (v:Value),cs[i]?=some t→vs[i]?=some v→VR g w t v):VR g w (.bC cs) (.tuple vs)
structure Le (g:Ctx)(w:World)(g':Ctx)(w':World):Prop where
 φ:∀b x,g.φ b=some x→g'.φ b=some x
 κ:∀r o,g.κ r o=.hC→g'.κ r o=.hC
 π:∀t e x,g.π t e=some x→g'.π t e=some x
 cell:∀r o v,g.κ r o=.hC→w.cell? ⟨r,o,none⟩=some v→w'.cell? ⟨r,o,none⟩=some v
 ck:g'.ck=g.ck
theorem Le.refl (g:Ctx)(w:World):Le g w g w:=⟨fun _ _ h=>h,fun _ _ h=>h,fun _ _ _ h=>h,fun _ _ _ _ h=>h,rfl⟩
theorem Le.trans {g g' JJ:Ctx}{w w' JK:World}(h:Le g w g' w')(h':Le g' w' JJ JK):Le g w JJ JK :=
 ⟨fun b x e=>h'.φ b x (h.φ b x e),fun r o e=>h'.κ r o (h.κ r o e),fun t e x k=>h'.π t e x (h.π t e x k),fun r o v k e=>h'.cell r o v (h.κ r o k) (h.cell r o v k e),h'.ck.trans h.ck⟩
theorem ue.mono {g g':Ctx}{w w':World}(le:Le g w g' w'){r o:Nat}{v:Value}(h:ue g w r o v):ue g' w' r o v:=⟨le.κ _ _ h.1,le.cell _ _ _ h.1 h.2⟩
theorem pw.mono {g g':Ctx}{w w':World}(le:Le g w g' w'){k:SK}{r o len cap n:Nat}(h:pw g k r o len cap n):pw g' k r o len cap n:=by
 cases k with
 | nil=>exact h
 | arg=>exact h
 | full=>exact h
 | own t e=>exact⟨le.π _ _ _ h.1,h.2⟩
theorem VR.mono {g g':Ctx}{w w':World}(le:Le g w g' w'){t:T}{v:Value}(h:VR g w t v):VR g' w' t v:=by
 induction h with
 | int k n=>exact .int k n
 | bool b=>exact .bool b
 | str s=>exact .str s
 | bI=>exact .bI
 | ptr h=>exact .ptr (le.φ _ _ h)
 | bh b6 h1 _ ih=>exact .bh b6 (fun j t e=>⟨(h1 j t e).1,(h1 j t e).2.mono le⟩) ih
 | eG=>exact .eG
 | map h=>exact .map (le.φ _ _ h)
 | slnil=>exact .slnil
 | gu a=>exact .gu a
 | sl b6 hk hc hn h1 _ ih=>exact .sl b6 (hk.mono le) hc hn (fun i j c t a b=>⟨(h1 i j c t a b).1,(h1 i j c t a b).2.mono le⟩) ih
 | aB h hc hq=>exact .aB (le.φ _ _ h) hc hq
 | dB h hc hq=>exact .dB (le.φ _ _ h) hc hq
 | kT=>exact .kT
 | fn hl _ ih=>exact .fn hl ih
 | mQ h=>exact .mQ (le.φ _ _ h)
 | eV=>exact .eV
 | agg hl h1 _ ih=>exact .agg hl h1 ih
 | bC hl _ ih=>exact .bC hl ih
theorem VR.erase {g:Ctx}{w:World}{t:T}{v:Value}(h:VR g w t v):VR g w t.erase v:=by
 cases h with
 | sl b6 hk hc hn h1 h2=>exact .sl b6 trivial hc hn h1 h2
 | slnil=>exact .gu none
 | gu a=>exact .gu a
 | int k n=>exact .int k n
 | bool b=>exact .bool b
 | str s=>exact .str s
 | bI=>exact .bI
 | ptr h=>exact .ptr h
 | bh b6 h1 h2=>exact .bh b6 h1 h2
 | eG=>exact .eG
 | map h=>exact .map h
 | aB h hc hq=>exact .aB h hc hq
 | dB h hc hq=>exact .dB h hc hq
 | kT=>exact .kT
 | fn hl h=>exact .fn hl h
 | mQ h=>exact .mQ h
 | eV=>exact .eV
 | agg hl h1 h2=>exact .agg hl h1 h2
 | bC hl h2=>exact .bC hl h2
theorem wW (t:T):t.erase.one=t.one:=by cases t<;>rfl
theorem VR.gv {g:Ctx}{w:World}{t:T}{v:Value}(h:VR g w t v)(ho:t.one=true):v.oneCell'=true:=by
 cases h<;>simp_all [T.one,Value.oneCell']
def nj (g:Ctx)(w:World)(b:Nat)(cs:List T)(r o q:Nat):Prop :=
 o+cs.length≤q∧(∀j,o≤j→j<q→g.κ r j=.mut b∧w.frozen? ⟨r,j,none⟩=false∧(w.cell? ⟨r,j,none⟩).isSome=true) ∧
 ∀(i:Nat) (t:T),cs[i]?=some t→t.one=true∧∃v,w.cell? ⟨r,o+i,none⟩=some v∧VR g w t v
def De (g:Ctx)(w:World)(cs:List T)(r o q:Nat):Prop :=
 o+cs.length≤q∧∀(i:Nat) (t:T),cs[i]?=some t→t.one=true∧∃v,ue g w r (o+i) v∧VR g w t v
def cS (g:Ctx)(w:World)(es:List (T×T))(aC:Array MapEntry):Prop :=
 aC.size=es.length∧∀(i:Nat) (e:T×T) (m:MapEntry),es[i]?=some e→aC[i]?=some m→VR g w e.1 m.key∧VR g w e.2 m.val
def dJ (aC:Array MapEntry)(clock:Nat):Prop:=(∀m∈aC.toList,m.born<clock)∧(aC.toList.map (·.born)).Nodup
def Df (aC:Array MapEntry)(seen:Array Nat)(ix:List Nat)(cur:Option Nat):Prop :=
 ix.Nodup∧(∀i,i∈ix↔∃m,aC[i]?=some m∧m.born∉seen)∧∀c,cur=some c→∃m,aC[c]?=some m∧seen.back?=some m.born
def JL (g:Ctx)(w:World)(t e:Nat):Prop :=
 ∃r p q,g.π t e=some (r,p,q)∧p≤q∧(∀j,p≤j→j<q→g.κ r j=.spare t∧w.frozen? ⟨r,j,none⟩=false∧(w.cell? ⟨r,j,none⟩).isSome=true)∧∀e',e<e'→g.π t e'=none
def yo.real:yo→LoopState
 | .ready=>.ready
 | .busy=>.busy
 | .done=>.done
def rT:Option Ex→Option Code
 | some .ret=>some .ret
 | some (.exit id)=>some (.exit id)
 | _=>none
def qy (g:Ctx)(w:World)(st:yo)(cL:Option Ex)(n:Nat)(R:Nat→T)(ps:List Nat)(cf body:C)(rec:Loop):Prop :=
 rec.state=st.real∧rec.pending=rT cL∧rec.params.toList=ps∧rec.tmps.size=n∧(∀t,t<n→VR g w (R t) (rec.tmps.getD t undef))∧(∀p∈ps,p<n)∧g.ck n cf rec.assign∧g.ck n body rec.body
def vn (g:Ctx)(w:World)(b:Nat):B→Prop
 | .cells cs=>∀r o q,g.φ b=some (r,o,q)→nj g w b cs r o q
 | .map es=>∀r o q,g.φ b=some (r,o,q)→g.κ r 0=.mut b∧∃aC clock,w.heap[r]?=some (.map aC clock)∧cS g w es aC∧dJ aC clock
 | .tok e=>JL g w b e
 | .loop st cL n R ps cf body=>∀r o q,g.φ b=some (r,o,q)→g.κ r 0=.mut b∧∃rec,w.heap[r]?=some (.loop rec)∧qy g w st cL n R ps cf body rec
 | .rQ=>∀r o q,g.φ b=some (r,o,q)→g.κ r 0=.mut b∧w.heap[r]?=some (.deferred (some []))
 | .dead=>True
 | .eH es ix bi cur=>∃r o q,g.φ b=some (r,o,q)∧g.κ r 0=.mut b∧∃aC clock,w.heap[r]?=some (.map aC clock)∧cS g w es aC∧dJ aC clock ∧
   ∃ri q' seen,g.φ bi=some (ri,0,q')∧g.κ ri 0=.mut b∧w.heap[ri]?=some (.mapIter (some r) clock seen clock)∧Df aC seen ix cur
 | .x8 _=>True
 | .fz cs=>∀r o q,g.φ b=some (r,o,q)→De g w cs r o q
structure SR (w0:World)(g:Ctx)(H:ae)(w:World):Prop where
 size:w0.heap.size≤w.heap.size
 jb:∀r,r<w0.heap.size→w.heap[r]?=w0.heap[r]?
 wX:∀r o,r<w0.heap.size→g.κ r o=.hC
 fresh:∀r o,w.heap.size≤r→g.κ r o=.free
 nH:∀b x,g.φ b=some x→b<H.length
 ft:∀t e x,g.π t e=some x→t<H.length
 gF:∀b x,H[b]?=some x→vn g w b x
 m8:∀r j,w0.heap.size≤r→w.frozen? ⟨r,j,none⟩=false
 env:w.os=w0.os∧w.output=w0.output
def dK:Obj→Bool
 | .map _ _ | .loop _ | .deferred _ | .mapIter _ _ _ _=>true
 | _=>false
structure Tr (w w':World)(S:Nat→Nat→Prop)(M:Nat→Prop):Prop where
 size:w.heap.size≤w'.heap.size
 cell:∀r j,r<w.heap.size→¬S r j→w'.cell? ⟨r,j,none⟩=w.cell? ⟨r,j,none⟩
 m8:∀r j,r<w.heap.size→w'.frozen? ⟨r,j,none⟩=w.frozen? ⟨r,j,none⟩
 jc:∀r j,r<w.heap.size→(w.cell? ⟨r,j,none⟩).isSome=true→(w'.cell? ⟨r,j,none⟩).isSome=true
 maps:∀r x,¬M r→dK x=true→w.heap[r]?=some x→w'.heap[r]?=some x
 jb:∀r,r<w.heap.size→¬M r→(∀j,¬S r j)→w'.heap[r]?=w.heap[r]?
 uf:∀r j,w.heap.size≤r→w'.frozen? ⟨r,j,none⟩=false
 env:w'.os=w.os∧w'.output=w.output
theorem bL {w:World}{r j:Nat}(h:w.heap.size≤r):w.frozen? ⟨r,j,none⟩=false:=by
 unfold World.frozen?
 rw[Array.getElem?_eq_none h]
theorem hY {w:World}{r j:Nat}{v:Value}(h:w.cell? ⟨r,j,none⟩=some v):r<w.heap.size:=by
 unfold World.cell? at h
 cases hr:w.heap[r]? with
 | none=>simp[hr]at h
 | some x=>exact(Array.getElem?_eq_some_iff.1 hr).1
theorem nj.mono {g g':Ctx}{w w':World}{b:Nat}{cs:List T}{r o q:Nat}(h:nj g w b cs r o q)(le:Le g w g' w')
  (hκ:∀j,o≤j→j<q→g'.κ r j=.mut b) (hf:∀j,o≤j→j<q→w'.frozen? ⟨r,j,none⟩=w.frozen? ⟨r,j,none⟩∧w'.cell? ⟨r,j,none⟩=w.cell? ⟨r,j,none⟩):nj g' w' b cs r o q:=by
 obtain⟨h1,h2,h3⟩:=h
 refine⟨h1,fun j hj hq=>⟨hκ j hj hq,by rw[(hf j hj hq).1];exact(h2 j hj hq).2.1,by rw[(hf j hj hq).2];exact(h2 j hj hq).2.2⟩,fun i t hi=>?_⟩
 have aE:i<cs.length:=(List.getElem?_eq_some_iff.1 hi).1
 obtain⟨h4,v,h5,h6⟩:=h3 i t hi
 exact⟨h4,v,by rw[(hf (o+i) (by omega) (by omega)).2];exact h5,h6.mono le⟩
theorem De.mono {g g':Ctx}{w w':World}{cs:List T}{r o q:Nat}(h:De g w cs r o q)(le:Le g w g' w'):De g' w' cs r o q :=
 ⟨h.1,fun i t hi=>let ⟨a,v,b,c⟩:=h.2 i t hi;⟨a,v,b.mono le,c.mono le⟩⟩
theorem cS.mono {g g':Ctx}{w w':World}{es:List (T×T)}{aC:Array MapEntry}(h:cS g w es aC)(le:Le g w g' w'):cS g' w' es aC :=
 ⟨h.1,fun i e m a b=>⟨(h.2 i e m a b).1.mono le,(h.2 i e m a b).2.mono le⟩⟩
theorem qy.mono {g g':Ctx}{w w':World}{st:yo}{cL:Option Ex}{n:Nat}{R:Nat→T}{ps:List Nat}{cf body:C}{rec:Loop}(h:qy g w st cL n R ps cf body rec)(le:Le g w g' w'):qy g' w' st cL n R ps cf body rec:=by
 obtain⟨h1,h2,h3,h4,h5,h6,h7,h8⟩:=h
 exact⟨h1,h2,h3,h4,fun t ht=>(h5 t ht).mono le,h6,by rw[le.ck];exact h7,by rw[le.ck];exact h8⟩
theorem SR.step {w0 w w':World}{g g':Ctx}{H H':ae}(h:SR w0 g H w)(G3:Nat→Prop){S:Nat→Nat→Prop}{M:Nat→Prop}(tr:Tr w w' S M)(le:Le g w g' w')
  (hS:∀r j,S r j→g.κ r j=.free∨(∃b,g.κ r j=.mut b∧G3 b)∨∃b,g.κ r j=.spare b∧G3 b) (hM:∀r,M r→∃b,g.κ r 0=.mut b∧G3 b)
  (G4:∀r o,w'.heap.size≤r→g'.κ r o=.free) (N5:∀b x,g'.φ b=some x→b<H'.length) (JM:∀t e x,g'.π t e=some x→t<H'.length)
  (kφ:∀b,b<H.length→¬G3 b→g'.φ b=g.φ b) (kκ:∀r j b,¬G3 b→(g.κ r j=.mut b→g'.κ r j=.mut b)∧(g.κ r j=.spare b→g'.κ r j=.spare b))
  (kπ:∀t e,t<H.length→¬G3 t→g'.π t e=g.π t e)
  (hb:∀b x,H'[b]?=some x→(¬G3 b∧H[b]?=some x)∨vn g' w' b x):SR w0 g' H' w':=by
 have nS:∀r j,r<w0.heap.size→¬S r j:=by
  intro r j hr hs
  have:=h.wX r j hr
  rcases hS r j hs with e|⟨b,e,_⟩|⟨b,e,_⟩<;>simp[this]at e
 have nM:∀r,r<w0.heap.size→¬M r:=by
  intro r hr hm
  have:=h.wX r 0 hr
  obtain⟨b,e,_⟩:=hM r hm
  simp[this]at e
 refine⟨Nat.le_trans h.size tr.size,fun r hr=>?_,fun r o hr=>le.κ _ _ (h.wX r o hr),G4,N5,JM,fun b x hx=>?_,fun r j hr=>(by
  by_cases hw:r<w.heap.size
  ·rw[tr.m8 r j hw];exact h.m8 r j hr
  ·exact tr.uf r j (by omega)),tr.env.1.trans h.env.1,tr.env.2.trans h.env.2⟩
 ·rw[tr.jb r (Nat.lt_of_lt_of_le hr h.size) (nM r hr) (fun j=>nS r j hr)]
  exact h.jb r hr
 ·rcases hb b x hx with⟨nt,dk⟩|l9
  ·have aE:b<H.length:=(List.getElem?_eq_some_iff.1 dk).1
   have hk:=h.gF b x dk
   have RD:∀r j,g.κ r j=.mut b∨g.κ r j=.spare b→¬S r j:=by
    intro r j hm hs
    rcases hS r j hs with e|⟨b',e,ht⟩|⟨b',e,ht⟩<;>rcases hm with hm|hm<;>simp[hm]at e
    ·exact nt (e▸ht)
    ·exact nt (e▸ht)
   cases x with
   | cells cs =>
    intro r o q hφ
    have iV:g.φ b=some (r,o,q):=by rw[←kφ b aE nt];exact hφ
    have hc:=hk r o q iV
    refine hc.mono le (fun j a c=>(kκ r j b nt).1 (hc.2.1 j a c).1) fun j a c=>?_
    have hh:=hc.2.1 j a c
    have hr:r<w.heap.size:=by
     cases hv:w.cell? ⟨r,j,none⟩with
     | none=>simp[hv]at hh
     | some v=>exact hY hv
    exact⟨tr.m8 r j hr,tr.cell r j hr (RD r j (.inl hh.1))⟩
   | map es =>
    intro r o q hφ
    have iV:g.φ b=some (r,o,q):=by rw[←kφ b aE nt];exact hφ
    obtain⟨h1,aC,c,h2,h3⟩:=hk r o q iV
    refine⟨(kκ r 0 b nt).1 h1,aC,c,tr.maps r _ (fun hm=>?_) rfl h2,h3.1.mono le,h3.2⟩
    obtain⟨b',e,ht⟩:=hM r hm
    rw[h1]at e;cases e;exact nt ht
   | eH es ix bi cur =>
    obtain⟨r,o,q,hφ,h1,aC,c,h2,h3,h4,ri,q',seen,h5,h6,h7,h8⟩:=hk
    refine⟨r,o,q,le.φ _ _ hφ,(kκ r 0 b nt).1 h1,aC,c,tr.maps r _ (fun hm=>?_) rfl h2,h3.mono le,h4,ri,q',seen,le.φ _ _ h5,(kκ ri 0 b nt).1 h6,tr.maps ri _ (fun hm=>?_) rfl h7,h8⟩
    ·obtain⟨b',e,ht⟩:=hM r hm
     rw[h1]at e;cases e;exact nt ht
    ·obtain⟨b',e,ht⟩:=hM ri hm
     rw[h6]at e;cases e;exact nt ht
   | x8 _=>trivial
   | fz cs =>
    intro r o q hφ
    exact(hk r o q (by rw[←kφ b aE nt];exact hφ)).mono le
   | tok e =>
    obtain⟨r,p,q,h1,h2,h3,h4⟩:=hk
    refine⟨r,p,q,le.π _ _ _ h1,h2,fun j a c=>?_,fun e' he=>by rw[kπ b e' aE nt];exact h4 e' he⟩
    have hh:=h3 j a c
    have hr:r<w.heap.size:=by
     cases hv:w.cell? ⟨r,j,none⟩with
     | none=>simp[hv]at hh
     | some v=>exact hY hv
    exact⟨(kκ r j b nt).2 hh.1,by rw[tr.m8 r j hr];exact hh.2.1,by rw[tr.cell r j hr (RD r j (.inr hh.1))];exact hh.2.2⟩
   | loop st cL n R ps cf body =>
    intro r o q hφ
    have iV:g.φ b=some (r,o,q):=by rw[←kφ b aE nt];exact hφ
    obtain⟨h1,rec,h2,h3⟩:=hk r o q iV
    refine⟨(kκ r 0 b nt).1 h1,rec,tr.maps r _ (fun hm=>?_) rfl h2,h3.mono le⟩
    obtain⟨b',e,ht⟩:=hM r hm
    rw[h1]at e;cases e;exact nt ht
   | rQ =>
    intro r o q hφ
    have iV:g.φ b=some (r,o,q):=by rw[←kφ b aE nt];exact hφ
    obtain⟨h1,h2⟩:=hk r o q iV
    refine⟨(kκ r 0 b nt).1 h1,tr.maps r _ (fun hm=>?_) rfl h2⟩
    obtain⟨b',e,ht⟩:=hM r hm
    rw[h1]at e;cases e;exact nt ht
   | dead=>trivial
  ·exact l9
def Fr (g:Ctx)(H:ae)(g':Ctx)(H':ae):Prop :=
 H.length≤H'.length∧∀b x,H[b]?=some x→(∀e,x≠.tok e)→g.φ b=none→H'[b]?=some x∧g'.φ b=none
theorem Fr.refl (g:Ctx)(H:ae):Fr g H g H:=⟨Nat.le_refl _,fun _ _ h _ k=>⟨h,k⟩⟩
theorem Fr.trans {g g' JJ:Ctx}{H H' x9:ae}(h:Fr g H g' H')(h':Fr g' H' JJ x9):Fr g H JJ x9 :=
 ⟨Nat.le_trans h.1 h'.1,fun b x a c d=>let ⟨e,f⟩:=h.2 b x a c d;h'.2 b x e c f⟩
def bp (P:Program)(w0:World)(g:Ctx)(H:ae)(w:World)(s:Sem Value)(t:T)(H':ae):Prop :=
 ∃v w' g',s.run P w=.ok v w'∧Le g w g' w'∧SR w0 g' H' w'∧VR g' w' t v∧Fr g H g' H'
theorem bp.same {P:Program}{w0:World}{g:Ctx}{H:ae}{w:World}{s:Sem Value}{t:T}{v:Value}(h:SR w0 g H w)(hr:s.run P w=.ok v w)(hv:VR g w t v):bp P w0 g H w s t H :=
 ⟨v,w,g,hr,.refl _ _,h,hv,.refl _ _⟩
def a6 (g:Ctx)(w:World)(ts:List T)(vs:List Value):Prop:=ts.length=vs.length∧∀(i:Nat) (t:T) (v:Value),ts[i]?=some t→vs[i]?=some v→VR g w t v
theorem a6.mono {g g':Ctx}{w w':World}(le:Le g w g' w'){ts:List T}{vs:List Value}(h:a6 g w ts vs):a6 g' w' ts vs:=⟨h.1,fun i t v a b=>(h.2 i t v a b).mono le⟩
theorem a6.nil {g:Ctx}{w:World}:a6 g w [] []:=⟨rfl,fun i t v h=>by simp at h⟩
theorem a6.cons {g:Ctx}{w:World}{t:T}{v:Value}{ts:List T}{vs:List Value}(h:VR g w t v)(hs:a6 g w ts vs):a6 g w (t :: ts) (v :: vs) :=
 ⟨by simp[hs.1],fun i a b ha hb=>by
  cases i with
  | zero=>simp at ha hb;subst ha;subst hb;exact h
  | succ i=>exact hs.2 i a b (by simpa using ha) (by simpa using hb)⟩
theorem a6.head {g:Ctx}{w:World}{t:T}{v:Value}{ts:List T}{vs:List Value}(h:a6 g w (t :: ts) (v :: vs)):VR g w t v:=h.2 0 t v rfl rfl
theorem a6.tail {g:Ctx}{w:World}{t:T}{v:Value}{ts:List T}{vs:List Value}(h:a6 g w (t :: ts) (v :: vs)):a6 g w ts vs :=
 ⟨by have:=h.1;simpa using this,fun i a b ha hb=>h.2 (i+1) a b (by simpa using ha) (by simpa using hb)⟩
theorem a6.append {g:Ctx}{w:World}{ts G5:List T}{vs Jl:List Value}(h:a6 g w ts vs)(h':a6 g w G5 Jl):a6 g w (ts++G5) (vs++Jl):=by
 refine⟨by simp[h.1,h'.1],fun i t v ha hb=>?_⟩
 rw[List.getElem?_append]at ha hb
 rw[←h.1]at hb
 split at ha
 ·rename_i hi;rw[if_pos hi]at hb;exact h.2 i t v ha hb
 ·rename_i hi;rw[if_neg hi]at hb;exact h'.2 _ t v ha hb
theorem a6.take {g:Ctx}{w:World}{ts:List T}{vs:List Value}(n:Nat)(h:a6 g w ts vs):a6 g w (ts.take n) (vs.take n) :=
 ⟨by simp[h.1],fun i t v ha hb=>by
  rw[List.getElem?_take]at ha hb
  split at ha
  ·rename_i hi;rw[if_pos hi]at hb;exact h.2 i t v ha hb
  ·simp at ha⟩
theorem a6.drop {g:Ctx}{w:World}{ts:List T}{vs:List Value}(n:Nat)(h:a6 g w ts vs):a6 g w (ts.drop n) (vs.drop n) :=
 ⟨by simp[h.1],fun i t v ha hb=>by
  rw[List.getElem?_drop]at ha hb
  exact h.2 _ t v ha hb⟩
def bJ (cs:List T):Prop:=∀t∈cs,t.one=true
theorem a6.gv {g:Ctx}{w:World}{ts:List T}{vs:List Value}(h:a6 g w ts vs)(ho:bJ ts):∀v∈vs,v.oneCell'=true:=by
 intro v hv
 obtain⟨i,hi,rfl⟩:=List.getElem_of_mem hv
 have lY:i<ts.length:=by rw[h.1];exact hi
 exact(h.2 i ts[i] vs[i] (List.getElem?_eq_getElem lY) (List.getElem?_eq_getElem hi)).gv (ho _ (List.getElem_mem lY))
theorem b7 (r o j:Nat):(⟨r,o,none⟩:Addr).add j=⟨r,o+j,none⟩:=by
 unfold Addr.add;split<;>simp_all
theorem nI {w:World}{r o:Nat}:∀(n:Nat) (f:Nat→Value),(∀j,j<n→w.cell? ⟨r,o+j,none⟩=some (f j))→∀(j:Nat) (v:Value),((List.range n).map f)[j]?=some v→w.cell? ⟨r,o+j,none⟩=some v:=by
 intro n f h j v hv
 have hj:j<n:=by
  have:=(List.getElem?_eq_some_iff.1 hv).1
  simpa using this
 rw[h j hj]
 simp[hj]at hv
 rw[hv]
theorem kr {w0 w:World}{g:Ctx}{H:ae}{n:Nat}{p:T}{vp:Value}{cs:List T}(h:SR w0 g H w)(hv:VR g w p vp)(he:iU H n p=some cs) :
  ∃r o vs,vp=.pointer (some ⟨r,o,none⟩)∧vs.length=n∧(∀(j:Nat) (v:Value),vs[j]?=some v→w.cell? ⟨r,o+j,none⟩=some v)∧a6 g w cs vs∧bJ cs:=by
 cases hv with
 | @ptr b off r o q hφ =>
  have main:∀qz:List T,(∀(i:Nat) (t:T),qz[i]?=some t→t.one=true∧∃v,w.cell? ⟨r,o+i,none⟩=some v∧VR g w t v)→(if off+n≤qz.length then some ((qz.drop off).take n)else none)=some cs →
    ∃r' o' vs,(Value.pointer (some ⟨r,o+off,none⟩))=.pointer (some ⟨r',o',none⟩)∧vs.length=n∧(∀(j:Nat) (v:Value),vs[j]?=some v→w.cell? ⟨r',o'+j,none⟩=some v)∧a6 g w cs vs∧bJ cs:=by
   intro qz h3 he
   split at he
   ·rename_i hle
    simp at he
    subst he
    have key:∀j,j<n→∃t v,qz[off+j]?=some t∧t.one=true∧w.cell? ⟨r,o+off+j,none⟩=some v∧VR g w t v:=by
     intro j hj
     have aE:off+j<qz.length:=by omega
     obtain⟨a,v,b',c⟩:=h3 (off+j) qz[off+j] (List.getElem?_eq_getElem aE)
     exact⟨_,v,List.getElem?_eq_getElem aE,a,by rw[Nat.add_assoc];exact b',c⟩
    refine⟨r,o+off,(List.range n).map (fun j=>(w.cell? ⟨r,o+off+j,none⟩).getD undef),rfl,by simp,nI n _ (fun j hj=>?_),⟨by simp;omega,fun i t v ha eR=>?_⟩,fun t ht=>?_⟩
    ·obtain⟨t,v,_,_,e,_⟩:=key j hj
     simp[e]
    ·have hi:i<n:=by
      have:=(List.getElem?_eq_some_iff.1 eR).1
      simpa using this
     obtain⟨t',v',e1,e2,e3,e4⟩:=key i hi
     simp[hi]at eR
     rw[e3]at eR;simp at eR
     rw[List.getElem?_take,if_pos hi,List.getElem?_drop,e1]at ha
     simp at ha
     subst ha;subst eR;exact e4
    ·obtain⟨i,hi,rfl⟩:=List.getElem_of_mem ht
     simp at hi
     obtain⟨t',v',e1,e2,_,_⟩:=key i (by omega)
     have JN:=(List.getElem?_eq_some_iff.1 e1).2
     simp[JN,e2]
   ·simp at he
  simp only[iU]at he
  cases hb:H[b]? with
  | none=>simp[hb]at he
  | some x =>
   cases x with
   | cells qz =>
    simp only[hb]at he
    exact main qz (h.gF b _ hb r o q hφ).2.2 he
   | fz qz =>
    simp only[hb]at he
    exact main qz (fun i t hi=>let ⟨a,v,b',c⟩:=(h.gF b _ hb r o q hφ).2 i t hi;⟨a,v,b'.2,c⟩) he
   | map _=>simp[hb]at he
   | tok _=>simp[hb]at he
   | _=>simp[hb]at he
 | @bh qz r o b6 h1 h2 =>
  simp only[iU]at he
  split at he
  ·rename_i hle
   simp at he
   subst he
   have get:∀i,i<n→∃t,qz[i]?=some t:=fun i hi=>⟨qz[i]'(by omega),List.getElem?_eq_getElem _⟩
   refine⟨r,o,(List.range n).map b6,rfl,by simp,nI n _ (fun j hj=>?_),⟨by simp;omega,fun i t v ha hb=>?_⟩,fun t ht=>?_⟩
   ·obtain⟨t,e⟩:=get j hj
    exact(h1 j t e).2.2
   ·have hi:i<n:=by
     have:=(List.getElem?_eq_some_iff.1 hb).1
     simpa using this
    simp[hi]at hb
    rw[List.getElem?_take,if_pos hi]at ha
    rw[←hb];exact h2 i t ha
   ·obtain⟨i,hi,rfl⟩:=List.getElem_of_mem ht
    simp at hi
    have:qz[i]?=some qz[i]:=List.getElem?_eq_getElem _
    simp
    exact(h1 i _ this).1
  ·simp at he
 | _=>simp[iU]at he
theorem a6.agg {g:Ctx}{w:World}{cs:List T}{vs:List Value}(h:a6 g w cs vs)(ho:bJ cs):VR g w (.agg cs) (.agg vs.toArray) :=
 .agg (by simp[h.1]) ho (fun i t v ha hb=>h.2 i t v ha (by simpa using hb))
theorem a6.bC {g:Ctx}{w:World}{cs:List T}{vs:List Value}(h:a6 g w cs vs):VR g w (.bC cs) (.tuple vs.toArray) :=
 .bC (by simp[h.1]) (fun i t v ha hb=>h.2 i t v ha (by simpa using hb))
theorem VR.ey {g:Ctx}{w:World}{cs:List T}{v:Value}(h:VR g w (.agg cs) v):∃vs:List Value,v=.agg vs.toArray∧a6 g w cs vs∧bJ cs:=by
 cases h with
 | @agg _ vs hl h1 h2=>exact⟨vs.toList,by simp,⟨by simp[hl],fun i t v ha hb=>h2 i t v ha (by simpa using hb)⟩,h1⟩
theorem VR.Dg {g:Ctx}{w:World}{cs:List T}{v:Value}(h:VR g w (.bC cs) v):∃vs:List Value,v=.tuple vs.toArray∧a6 g w cs vs:=by
 cases h with
 | @bC _ vs hl h2=>exact⟨vs.toList,by simp,⟨by simp[hl],fun i t v ha hb=>h2 i t v ha (by simpa using hb)⟩⟩
theorem gP {g:Ctx}{w:World}{t:T}{v:Value}{cs:List T}(h:VR g w t v)(hc:t.cells?=some cs):a6 g w cs v.cells.toList∧bJ cs:=by
 by_cases ha:∃c,t=.agg c
 ·obtain⟨c,rfl⟩:=ha
  simp[T.cells?]at hc;subst hc
  obtain⟨vs,rfl,h1,h2⟩:=h.ey
  exact⟨by simpa[Value.cells]using h1,h2⟩
 ·by_cases ht:∃c,t=.bC c
  ·obtain⟨c,rfl⟩:=ht;simp[T.cells?]at hc
  ·have e:cs=[t]:=by cases t<;>simp_all [T.cells?]
   have o:t.one=true:=by cases t<;>simp_all [T.one]
   have ev:v.cells=#[v]:=by
    have:=h.gv o
    cases v<;>simp_all [Value.cells,Value.oneCell']
   subst e
   rw[ev]
   exact⟨a6.cons h a6.nil,by simpa[bJ]using o⟩
theorem nJ {g:Ctx}{w:World}{cs:List T}{vs:List Value}{ag:Bool}{t:T}(h:a6 g w cs vs)(ho:bJ cs)(hv:valOf ag cs=some t) :
  (ag=true→VR g w t (.agg vs.toArray))∧(ag=false→∃v,vs=[v]∧VR g w t v):=by
 cases ag with
 | true=>simp[valOf]at hv;subst hv;exact⟨fun _=>h.agg ho,by simp⟩
 | false =>
  refine⟨by simp,fun _=>?_⟩
  cases cs with
  | nil=>simp[valOf]at hv
  | cons c cs =>
   cases cs with
   | nil =>
    simp[valOf]at hv;subst hv
    cases vs with
    | nil=>have:=h.1;simp at this
    | cons v vs =>
     cases vs with
     | nil=>exact⟨v,rfl,h.head⟩
     | cons _ _=>have:=h.1;simp at this
   | cons _ _=>simp[valOf]at hv
theorem aS {P:Program}{w:World}{t:TypeId}{i:TypeInfo}(h:P.info? t=some i):(typeInfo t).run P w=.ok i w:=by
 simp[typeInfo,h]
def cT:TypeDesc→Bool
 | .struct _ | .array _ _=>true
 | _=>false
theorem dw {P:Program}{t:TypeId}{d:TypeDesc}(h:P.underlying t=some d)(w:World):(isAgg t).run P w=.ok (cT d) w:=by
 simp only[isAgg,Sem.run_bind,run_underlying h,Result.andThen_ok]
 cases d<;>rfl
theorem G6 {P:Program}{w0 w:World}{g:Ctx}{H:ae}{n:Nat}{ag:Bool}{p t:T}{vp:Value}{cs:List T}{ty:TypeId}{d:TypeDesc}{i:TypeInfo}
  (hd:P.underlying ty=some d) (hi:P.info? ty=some i) (rU:cT d=ag) (hn:ag=true→i.size=n)
  (h:SR w0 g H w) (hv:VR g w p vp) (he:iU H n p=some cs) (ht:valOf ag cs=some t):bp P w0 g H w (Instr.loadAt ty vp) t H:=by
 obtain⟨r,o,vs,rfl,h1,h2,h3,h4⟩:=kr h hv he
 obtain⟨ha,hb⟩:=nJ h3 h4 ht
 cases ag with
 | true =>
  refine bp.same h (v:=.agg vs.toArray) ?_ (ha rfl)
  have:=run_loadCells_list (P:=P) w ⟨r,o,none⟩ vs (fun j v hj=>by rw[b7];exact h2 j v hj)
  simp[Instr.loadAt,Instr.sureAddr,loadVar,dw hd,rU,sizeOf,aS hi,hn rfl,←h1,this]
 | false =>
  obtain⟨v,rfl,dC⟩:=hb rfl
  refine bp.same h (v:=v) ?_ dC
  have:=h2 0 v rfl
  simp at this
  simp[Instr.loadAt,Instr.sureAddr,loadVar,dw hd,rU,run_load,this]
theorem Dh {P:Program}{w0 w:World}{g:Ctx}{H:ae}{n:Nat}{ag:Bool}{p t:T}{vp:Value}{cs:List T}{ty:TypeId}{d:TypeDesc}{i:TypeInfo}
  (hd:P.underlying ty=some d) (hi:P.info? ty=some i) (rU:cT d=ag) (hn:ag=true→i.size=n)
  (h:SR w0 g H w) (hv:VR g w p vp) (he:iU H n p=some cs) (ht:valOf ag cs=some t):∃v w' g',(Instr.loadAt ty vp).run P w=.ok v w'∧w'=w∧VR g' w t v∧g'=g:=by
 obtain⟨r,o,vs,rfl,h1,h2,h3,h4⟩:=kr h hv he
 obtain⟨ha,hb⟩:=nJ h3 h4 ht
 cases ag with
 | true =>
  refine⟨.agg vs.toArray,w,g,?_,rfl,ha rfl,rfl⟩
  have:=run_loadCells_list (P:=P) w ⟨r,o,none⟩ vs (fun j v hj=>by rw[b7];exact h2 j v hj)
  simp[Instr.loadAt,Instr.sureAddr,loadVar,dw hd,rU,sizeOf,aS hi,hn rfl,←h1,this]
 | false =>
  obtain⟨v,rfl,dC⟩:=hb rfl
  refine⟨v,w,g,?_,rfl,dC,rfl⟩
  have:=h2 0 v rfl
  simp at this
  simp[Instr.loadAt,Instr.sureAddr,loadVar,dw hd,rU,run_load,this]
section
variable {P:Program} {w:World} {op:BinOp} {ty:TypeId} {x y:Operand}
theorem pz {k k':IntKind}{a b:Int}:(eqGuard op ty x y (.int k a) (.int k' b)).run P w=.ok () w:=by cases op<;>rfl
theorem pA {a b:ByteArray}:(eqGuard op ty x y (.string a) (.string b)).run P w=.ok () w:=by cases op<;>rfl
theorem hZ {a b:Bool}:(eqGuard op ty x y (.bool a) (.bool b)).run P w=.ok () w:=by cases op<;>rfl
theorem wY {a b:Option Addr}:(eqGuard op ty x y (.pointer a) (.pointer b)).run P w=.ok () w:=by cases op<;>rfl
theorem rV {a b:Option Addr}{c d e f:Nat}:(eqGuard op ty x y (.slice a c d) (.slice b e f)).run P w=.ok () w:=by cases op<;>rfl
theorem wZ {a b:Option Nat}:(eqGuard op ty x y (.map a) (.map b)).run P w=.ok () w:=by cases op<;>rfl
theorem yC {f:Go.Fn}{a b:Array Value}:(eqGuard op ty x y (.func f a b) .nilFunc).run P w=.ok () w:=by cases op<;>rfl
theorem yD {f:Go.Fn}{a b:Array Value}:(eqGuard op ty x y .nilFunc (.func f a b)).run P w=.ok () w:=by cases op<;>rfl
theorem yE:(eqGuard op ty x y .nilFunc .nilFunc).run P w=.ok () w:=by cases op<;>rfl
end
section
variable {P:Program} {w:World} {ty:TypeId}
theorem pB (n:Nat)(h:P.underlying ty=some .bool)(a b:Bool):(Op.equalIn (n+1) ty (.bool a) (.bool b)).run P w=.ok (a==b) w:=by
 rw[Op.equalIn];simp only[Sem.run_bind,run_underlying h,Result.andThen_ok];rfl
theorem yF (n:Nat){k:IntKind}(h:P.underlying ty=some (.int k))(a b:Int)(k':IntKind):(Op.equalIn (n+1) ty (.int k' a) (.int k' b)).run P w=.ok (a==b) w:=by
 rw[Op.equalIn];simp only[Sem.run_bind,run_underlying h,Result.andThen_ok];simp
theorem yG (n:Nat)(h:P.underlying ty=some .string)(a b:ByteArray):(Op.equalIn (n+1) ty (.string a) (.string b)).run P w=.ok (a==b) w:=by
 rw[Op.equalIn];simp only[Sem.run_bind,run_underlying h,Result.andThen_ok];rfl
theorem eK {x y:Value}{b:Bool}(h:∀n,(Op.equalIn (n+1) ty x y).run P w=.ok b w):(Op.equal ty x y).run P w=.ok b w:=h 9999
theorem nK (h:P.underlying ty=some .bool)(a b:Bool):(Op.equal ty (.bool a) (.bool b)).run P w=.ok (a==b) w:=eK fun n=>pB n h a b
end
theorem Di {P:Program}{w0 w:World}{g:Ctx}{H:ae}{op:BinOp}{x y t:T}{vx vy:Value}{ty:TypeId}{ox oy:Operand}
  (h:SR w0 g H w) (hx:VR g w x vx) (hy:VR g w y vy) (he:bD op x y=some t):bp P w0 g H w (do eqGuard op ty ox oy vx vy;binOp op ty vx vy) t H:=by
 cases hx<;>cases hy<;>(try (simp[bD]at he;done))
 case int.int k a k' b =>
  have key:∃v,(binOp op ty (.int k a) (.int k' b)).run P w=.ok v w∧VR g w t v:=by
   cases op<;>simp only[bD]at he<;>(repeat' (split at he))<;>(try (simp at he;done)) <;>
    (simp at he;subst he;first
     | (refine⟨_,?_,.int _ _⟩;simp_all [binOp,Op.shift,Op.intArith,Op.intDiv,Op.intBits,Op.intCmp];done)
     | (refine⟨_,?_,.int _ _⟩;rename_i hs;simp only[binOp,Op.shift,if_neg hs,Sem.run_pure];done)
     | (refine⟨_,?_,.bool _⟩;simp_all [binOp,Op.shift,Op.intArith,Op.intDiv,Op.intBits,Op.intCmp];done))
  obtain⟨v,hr,hv⟩:=key
  refine bp.same h (v:=v) ?_ hv
  simp[pz,pA,hZ,hr]
 case str.str a b =>
  have key:∃v,(binOp op ty (.string a) (.string b)).run P w=.ok v w∧VR g w t v:=by
   cases op<;>simp only[bD]at he<;>(repeat' (split at he))<;>(try (simp at he;done)) <;>
    (simp at he;subst he;first
     | (refine⟨_,?_,.str _⟩;rename_i hs;simp[binOp,Op.stringOp,IntKind.max,IntKind.signed,IntKind.bits];omega)
     | (refine⟨_,?_,.bool _⟩;simp[binOp,Op.stringOp,gn,strLt];done))
  obtain⟨v,hr,hv⟩:=key
  refine bp.same h (v:=v) ?_ hv
  simp[pz,pA,hZ,hr]
theorem Dj {P:Program}{w0 w:World}{g:Ctx}{H:ae}{neg:Bool}{a b:Bool}{vx vy:Value}{ty:TypeId}{ox oy:Operand}(hu:P.underlying ty=some .bool)
  (h:SR w0 g H w) (hx:VR g w (.bool a) vx) (hy:VR g w (.bool b) vy) :
  bp P w0 g H w (do eqGuard (if neg then .neq else .eql) ty ox oy vx vy;binOp (if neg then .neq else .eql) ty vx vy) (.bool (if neg then !(a==b)else a==b)) H:=by
 cases hx;cases hy
 cases neg
 ·refine bp.same h (v:=.bool (a==b)) ?_ (.bool _)
  simp only[Bool.false_eq_true,if_false,Sem.run_bind,hZ,Result.andThen_ok,binOp,nK hu,Sem.run_pure]
 ·refine bp.same h (v:=.bool (!(a==b))) ?_ (.bool _)
  simp only[if_true,Sem.run_bind,hZ,Result.andThen_ok,binOp,nK hu,Sem.run_pure]
def yH:C8→TypeDesc→Bool
 | .ptr,.pointer _ | .slice,.slice _ | .map,.map _ _ | .func,.func _ _ _=>true
 | _,_=>false
theorem rW {g:Ctx}{w:World}{c:C8}{x:T}{vx:Value}{b:Bool}(hx:VR g w x vx)(h:mR c x=some b) :
  match c with
  | .ptr=>∃a:Option Addr,vx=.pointer a∧a.isNone=b
  | .slice=>∃(a:Option Addr) (l p:Nat),vx=.slice a l p∧a.isNone=b
  | .map=>∃r:Option Nat,vx=.map r∧r.isNone=b
  | .func=>(b=true∧vx=.nilFunc)∨(b=false∧∃f vs,vx=.func f #[] vs):=by
 cases c<;>cases hx<;>first
  | (change (none:Option Bool)=some b at h;simp at h;done)
  | (change some true=some b at h;simp at h;subst h;simp;done)
  | (change some false=some b at h;simp at h;subst h;simp;done)
  | skip
 case slice.sl k es r o cap n b6 hk hc hn h1 h2 =>
  have hb:b=false:=by
   cases k
   ·exact hk.elim
   ·cases es with
    | nil=>change (none:Option Bool)=some b at h;simp at h
    | cons _ _=>change some false=some b at h;simpa using h.symm
   ·change some false=some b at h;simpa using h.symm
   ·change some false=some b at h;simpa using h.symm
  subst hb
  exact⟨_,_,_,rfl,rfl⟩
theorem Dk {P:Program}{w0 w:World}{g:Ctx}{H:ae}{neg:Bool}{c:C8}{x y:T}{b:Bool}{vx vy:Value}{ty:TypeId}{ox oy:Operand}{d:TypeDesc}
  (hu:P.underlying ty=some d) (hc:yH c d=true)
  (h:SR w0 g H w) (hx:VR g w x vx) (hy:VR g w y vy) (he:mS c x y=some b) :
  bp P w0 g H w (do eqGuard (if neg then .neq else .eql) ty ox oy vx vy;binOp (if neg then .neq else .eql) ty vx vy) (.bool (if neg then !b else b)) H:=by
 have key:(∀op,(eqGuard op ty ox oy vx vy).run P w=.ok () w)∧(Op.equal ty vx vy).run P w=.ok b w∧∀neg:Bool,(binOp (if neg then .neq else .eql) ty vx vy).run P w=((Op.equal ty vx vy).run P w).andThen fun b w'=>.ok (.bool (if neg then !b else b)) w':=by
  unfold mS at he
  cases G7:mR c x with
  | none=>simp[G7]at he
  | some bx =>
   cases RE:mR c y with
   | none=>cases bx<;>simp[G7,RE]at he
   | some bY =>
    have e:b=(bx&&bY)∧(bx=true∨bY=true):=by
     cases bx<;>cases bY<;>simp_all
    obtain⟨rfl,SQ⟩:=e
    have h1:=rW hx G7
    have h2:=rW hy RE
    cases c with
    | ptr =>
     obtain⟨a,rfl,rfl⟩:=h1
     obtain⟨a',rfl,rfl⟩:=h2
     cases d<;>simp[yH]at hc
     refine⟨fun op=>wY,eK fun n=>?_,fun neg=>by cases neg<;>simp[binOp]⟩
     rw[Op.equalIn];simp only[Sem.run_bind,run_underlying hu,Result.andThen_ok]
     cases a<;>cases a'<;>simp_all
    | slice =>
     obtain⟨a,l,p,rfl,rfl⟩:=h1
     obtain⟨a',l',p',rfl,rfl⟩:=h2
     cases d<;>simp[yH]at hc
     refine⟨fun op=>rV,eK fun n=>?_,fun neg=>by cases neg<;>simp[binOp]⟩
     rw[Op.equalIn];simp only[Sem.run_bind,run_underlying hu,Result.andThen_ok]
     cases a<;>cases a'<;>simp_all
    | map =>
     obtain⟨a,rfl,rfl⟩:=h1
     obtain⟨a',rfl,rfl⟩:=h2
     cases d<;>simp[yH]at hc
     refine⟨fun op=>wZ,eK fun n=>?_,fun neg=>by cases neg<;>simp[binOp]⟩
     rw[Op.equalIn];simp only[Sem.run_bind,run_underlying hu,Result.andThen_ok]
     cases a<;>cases a'<;>simp_all
    | func =>
     cases d<;>simp[yH]at hc
     rcases h1 with⟨rfl,rfl⟩|⟨rfl,f,vs,rfl⟩<;>rcases h2 with⟨rfl,rfl⟩|⟨rfl,f',Jl,rfl⟩
     ·refine⟨fun op=>yE,eK fun n=>?_,fun neg=>by cases neg<;>simp[binOp]⟩
      rw[Op.equalIn];simp[run_underlying hu]
     ·refine⟨fun op=>yD,eK fun n=>?_,fun neg=>by cases neg<;>simp[binOp]⟩
      rw[Op.equalIn];simp[run_underlying hu]
     ·refine⟨fun op=>yC,eK fun n=>?_,fun neg=>by cases neg<;>simp[binOp]⟩
      rw[Op.equalIn];simp[run_underlying hu]
     ·simp at SQ
 obtain⟨k1,k2,k3⟩:=key
 refine bp.same h (v:=.bool (if neg then !b else b)) ?_ (.bool _)
 simp only[Sem.run_bind,k1,Result.andThen_ok,k3,k2]
section
variable {P:Program} {w0 w:World} {g:Ctx} {H:ae}
def CW:rG→TypeDesc→Bool
 | .int,.int _ | .str,.string | .bool,.bool=>true
 | _,_=>false
def flat (P:Program):List Field→Nat→List rG→Bool
 | [],_,[]=>true
 | f :: fs,off,k :: ks=>f.offset==off&&f.name != "_"&&(match P.underlying f.type with | some d=>CW k d | none=>false)&&flat P fs (off+1) ks
 | _,_,_=>false
theorem vo {n:Nat}{ty:TypeId}{d:TypeDesc}{k:rG}(hu:P.underlying ty=some d)(hk:CW k d=true){a b:T}{va vb:Value}{r:Bool}(ha:VR g w a va)(hb:VR g w b vb)(h1:a.ub k=true)(he:gM a b=some r) :
  (Op.equalIn (n+1) ty va vb).run P w=.ok r w:=by
 cases k<;>cases d<;>simp[CW]at hk<;>cases ha<;>simp[T.ub]at h1<;>cases hb<;>simp[gM]at he
 ·obtain⟨rfl,rfl⟩:=he
  rw[yF n hu]
 ·subst he
  rw[yG n hu,beq_toListBytes];rfl
 ·subst he
  rw[pB n hu]
theorem ma {ty:TypeId}{d:TypeDesc}{k:rG}(hu:P.underlying ty=some d)(hk:CW k d=true){xs:Array Value}{off:Nat}{v:Value}(h:xs[off]?=some v):(part ty xs off).run P w=.ok v w:=by
 have:cT d=false:=by cases k<;>cases d<;>simp_all [CW,cT]
 simp[part,dw hu,this,h]
theorem mT {n:Nat}:∀(fs:List Field) (off:Nat) (ks:List rG) (cs ds:List T) (xs ys:Array Value) (r:Bool),flat P fs off ks=true→eg ks cs=true →
  (∀(i:Nat) (t:T),cs[i]?=some t→∃v,xs[off+i]?=some v∧VR g w t v)→(∀(i:Nat) (t:T),ds[i]?=some t→∃v,ys[off+i]?=some v∧VR g w t v)→bA cs ds=some r →
  (Op.eqFields (n+1) xs ys fs).run P w=.ok r w
 | [],off,ks,cs,ds,xs,ys,r,hf,hk,hc,hd,he=>by
  cases ks with
  | nil =>
   cases cs with
   | nil=>cases ds<;>simp[bA]at he;subst he;rfl
   | cons _ _=>simp[eg]at hk
  | cons _ _=>simp[flat]at hf
 | f :: fs,off,ks,cs,ds,xs,ys,r,hf,hk,hc,hd,he=>by
  cases ks with
  | nil=>simp[flat]at hf
  | cons k ks =>
   cases cs with
   | nil=>simp[eg]at hk
   | cons c cs =>
    cases ds with
    | nil=>simp[bA]at he
    | cons d ds =>
     simp only[flat,Bool.and_eq_true,beq_iff_eq,bne_iff_ne]at hf
     obtain⟨⟨⟨w4,yI⟩,CX⟩,cA⟩:=hf
     simp only[eg,Bool.and_eq_true]at hk
     cases hu:P.underlying f.type with
     | none=>simp[hu]at CX
     | some de =>
      simp[hu]at CX
      obtain⟨va,Dl,o6⟩:=hc 0 c rfl
      obtain⟨vb,lZ,pC⟩:=hd 0 d rfl
      simp only[Nat.add_zero]at Dl lZ
      simp only[bA]at he
      cases e1:gM c d with
      | none=>simp[e1]at he
      | some r1 =>
       cases e2:bA cs ds with
       | none=>simp[e1,e2]at he
       | some r2 =>
        simp[e1,e2]at he;subst he
        have ih:=mT (n:=n) fs (off+1) ks cs ds xs ys r2 cA hk.2 (fun i t hi=>by have:=hc (i+1) t (by simpa using hi);rwa[show off+1+i=off+(i+1) by omega])
         (fun i t hi=>by have:=hd (i+1) t (by simpa using hi);rwa[show off+1+i=off+(i+1) by omega]) e2
        simp only[Op.eqFields,yI,ne_eq,not_false_eq_true,if_true,Sem.run_bind,w4,ma hu CX Dl,ma hu CX lZ,Result.andThen_ok,vo hu CX o6 pC hk.1 e1]
        cases r1
        ·simp
        ·simp[ih]
theorem a6.eC {ts:List T}{vs:List Value}(h:a6 g w ts vs)(i:Nat)(t:T)(hi:ts[i]?=some t):∃v,vs.toArray[i]?=some v∧VR g w t v:=by
 have aE:i<vs.length:=by rw[←h.1];exact(List.getElem?_eq_some_iff.1 hi).1
 exact⟨vs[i],by simp[aE],h.2 i t _ hi (List.getElem?_eq_getElem aE)⟩
theorem pD {ty:TypeId}{fs:Array Field}{ks:List rG}(hu:P.underlying ty=some (.struct fs))(hf:flat P fs.toList 0 ks=true)(hp:P.stoodInHeld ty=false){cs ds:List T}{xs ys:List Value}{r:Bool}
  (hk:eg ks cs=true) (hx:a6 g w cs xs) (hy:a6 g w ds ys) (he:bA cs ds=some r) (n:Nat):(Op.equalIn (n+1+1) ty (.agg xs.toArray) (.agg ys.toArray)).run P w=.ok r w:=by
 have CY:P.fieldsOf ty=fs:=by simp[Program.fieldsOf,hu]
 rw[run_equalIn_struct w (n+1) ty _ _ (by rw[CY];exact hu) hp,CY]
 exact mT _ 0 ks cs ds _ _ r hf hk (fun i t hi=>by simpa using hx.eC i t hi) (fun i t hi=>by simpa using hy.eC i t hi) he
theorem Dm {neg:Bool}{ks:List rG}{cs ds:List T}{r:Bool}{vx vy:Value}{ty:TypeId}{ox oy:Operand}{fs:Array Field}
  (hu:P.underlying ty=some (.struct fs)) (hf:flat P fs.toList 0 ks=true) (hp:P.stoodInHeld ty=false) (hg:P.eqGuardType P.depth ty=false)
  (h:SR w0 g H w) (hx:VR g w (.agg cs) vx) (hy:VR g w (.agg ds) vy) (hk:eg ks cs=true) (he:bA cs ds=some r) :
  bp P w0 g H w (do eqGuard (if neg then .neq else .eql) ty ox oy vx vy;binOp (if neg then .neq else .eql) ty vx vy) (.bool (if neg then !r else r)) H:=by
 obtain⟨xs,rfl,CZ,_⟩:=hx.ey
 obtain⟨ys,rfl,N6,_⟩:=hy.ey
 have e:(Op.equalIn 10000 ty (.agg xs.toArray) (.agg ys.toArray)).run P w=.ok r w:=pD hu hf hp hk CZ N6 he 9998
 refine bp.same h (v:=.bool (if neg then !r else r)) ?_ (.bool _)
 cases neg
 ·simp only[Bool.false_eq_true,if_false,Sem.run_bind,run_eqGuard_agg w _ _ _ _ _ _ hg,Result.andThen_ok,run_eql_struct,e]
 ·simp only[if_true,Sem.run_bind,run_eqGuard_agg w _ _ _ _ _ _ hg,Result.andThen_ok,run_neq_struct,e]
theorem G8 {op:UnOp}{x t:T}{vx:Value}(h:SR w0 g H w)(hx:VR g w x vx)(he:Jg op x=some t):bp P w0 g H w (Op.unary op vx) t H:=by
 cases hx<;>(try (simp[Jg]at he;done))<;>cases op<;>simp[Jg]at he<;>subst he
 ·exact bp.same h (by simp[Op.unary,Op.intArith]) (.int _ _)
 ·exact bp.same h (by simp[Op.unary,Op.intBits]) (.int _ _)
 ·exact bp.same h (by simp[Op.unary]) (.bool _)
theorem Dn {src dst:TypeId}{ds:TypeDesc}{k k0:IntKind}{n:Int}{vx:Value}(hs:P.underlying src=some ds)(hd:P.underlying dst=some (.int k))(h:SR w0 g H w)(hx:VR g w (.int k0 n) vx) :
  bp P w0 g H w (convert src dst vx) (.int k (k.wrap n)) H:=by
 cases hx
 exact bp.same h (by simp[convert,run_underlying hs,run_underlying hd,Conv.intToInt]) (.int _ _)
theorem yJ {c:Bool}{x y:T}{vc vx vy:Value}(h:SR w0 g H w)(hc:VR g w (.bool c) vc)(hx:VR g w x vx)(hy:VR g w y vy) :
  bp P w0 g H w (do pure (if ←asBool vc then vx else vy)) (if c then x else y) H:=by
 cases hc
 refine bp.same h (v:=if c then vx else vy) (by simp[asBool]) ?_
 cases c<;>simpa
def N7:Lc→TypeDesc→Bool
 | .str,.string | .sl,.slice _ | .map,.map _ _=>true
 | _,_=>false
theorem Dp {ty rt:TypeId}{d:TypeDesc}{k:Lc}{x:T}{vx:Value}{n:Nat}(hu:P.underlying ty=some d)(hd:N7 k d=true)
  (h:SR w0 g H w) (hx:VR g w x vx) (he:gb H k x=some n):bp P w0 g H w (Builtin.len_ #[ty] rt #[vx]) (.int .i64 n) H:=by
 refine bp.same h (v:=.int .i64 n) ?_ (.int _ _)
 cases k<;>cases d<;>(first|(simp[N7]at hd;done)|skip)<;>cases hx<;>simp[gb]at he
 ·subst he;simp[Builtin.len_,run_underlying hu,goInt]
 ·subst he;simp[Builtin.len_,run_underlying hu,goInt]
 ·subst he;simp[Builtin.len_,run_underlying hu,goInt]
 ·subst he;simp[Builtin.len_,run_underlying hu,goInt]
 ·subst he;simp[Builtin.len_,run_underlying hu,goInt]
 ·subst he;simp[Builtin.len_,run_underlying hu,goInt]
 ·subst he;simp[Builtin.len_,run_underlying hu,goInt]
 ·rename_i b r o q hφ
  cases hb:H[b]? with
  | none=>simp[hb]at he
  | some y =>
   cases y<;>simp[hb]at he
   ·rename_i es
    obtain⟨_,aC,c,h2,h3,_⟩:=h.gF b _ hb r o q hφ
    subst he
    simp[Builtin.len_,run_underlying hu,goInt,getObj,Sem.run,h2,h3.1]
   ·rename_i es _ _ _
    obtain⟨r',o',q',iV,_,aC,c,h2,h3,_⟩:=h.gF b _ hb
    rw[hφ]at iV;cases iV
    subst he
    simp[Builtin.len_,run_underlying hu,goInt,getObj,Sem.run,h2,h3.1]
theorem kZ {n:Nat}{x:T}{vx:Value}{es:List (List T)}(h:SR w0 g H w)(hx:VR g w x vx)(he:bl H n x=some es)(hs:∀s,x≠.str s) :
  ∃(a:Option Addr) (cap:Nat) (vs:List Value),vx=.slice a es.length cap∧es.length≤cap∧(a=none→es=[]∧cap=0)∧(∀a',a=some a'→(es≠[]→a'.spot=none)∧∀(j:Nat) (v:Value),vs[j]?=some v→w.cell? (a'.add j)=some v) ∧
   a6 g w es.flatten vs∧vs.length=es.length*n∧bJ es.flatten∧∀c∈es,c.length=n:=by
 cases hx with
 | slnil=>simp[bl]at he;subst he;exact⟨none,0,[],rfl,Nat.le_refl _,fun _=>⟨rfl,rfl⟩,(by simp),a6.nil,by simp,by simp[bJ],by simp⟩
 | gu a=>simp[bl]at he;subst he;exact⟨a,0,[],rfl,Nat.le_refl _,fun _=>⟨rfl,rfl⟩,(by simp),a6.nil,by simp,by simp[bJ],by simp⟩
 | @sl k ya r o cap n' b6 hk hc hn h1 h2 =>
  simp only[bl]at he
  split at he
  ·rename_i cj
   simp at he;subst he
   have nL:∀c∈ya,c.length=n:=by simpa using cj
   have key:∀(i j:Nat),i<ya.length→j<n→∃c t,ya[i]?=some c∧c[j]?=some t∧t.one=true∧w.cell? ⟨r,o+i*n+j,none⟩=some (b6 i j)∧VR g w t (b6 i j):=by
    intro i j hi hj
    have e1:ya[i]?=some ya[i]:=List.getElem?_eq_getElem hi
    have l1:(ya[i]).length=n:=nL _ (List.getElem_mem hi)
    have l2:(ya[i]).length=n':=hn _ (List.getElem_mem hi)
    have e2:(ya[i])[j]?=some ((ya[i])[j]'(by omega)):=List.getElem?_eq_getElem _
    have a:=h1 i j _ _ e1 e2
    have Dq:n'=n:=by omega
    exact⟨_,_,e1,e2,a.1,by rw[←Dq];exact a.2.2,h2 i j _ _ e1 e2⟩
   have build:∀(l:List (List T)) (k:Nat),(∀i c,l[i]?=some c→ya[k+i]?=some c)→∃vs:List Value,vs.length=l.length*n∧a6 g w l.flatten vs∧bJ l.flatten ∧
     ∀(j:Nat) (v:Value),vs[j]?=some v→w.cell? ⟨r,o+k*n+j,none⟩=some v:=by
    intro l
    induction l with
    | nil=>intro k _;exact⟨[],by simp,a6.nil,by simp[bJ],by simp⟩
    | cons c l ih =>
     intro k hk
     have jC:=hk 0 c rfl
     simp only[Nat.add_zero]at jC
     have G9:k<ya.length:=(List.getElem?_eq_some_iff.1 jC).1
     have lg:c.length=n:=nL c (List.mem_of_getElem? jC)
     obtain⟨vs,a1,a2,a3,a4⟩:=ih (k+1) (fun i c' hi=>by have:=hk (i+1) c' (by simpa using hi);rwa[show k+1+i=k+(i+1) by omega])
     refine⟨(List.range n).map (b6 k)++vs,by simp[a1,Nat.succ_mul];omega,?_,?_,fun j v hj=>?_⟩
     ·rw[List.flatten_cons]
      refine a6.append ⟨by simp[lg],fun i t v hi hv=>?_⟩ a2
      have aE:i<n:=by have:=(List.getElem?_eq_some_iff.1 hv).1;simpa using this
      obtain⟨c',t',e1,e2,_,_,e5⟩:=key k i G9 aE
      rw[jC]at e1;cases e1
      rw[hi]at e2;cases e2
      simp[aE]at hv
      rw[←hv];exact e5
     ·rw[List.flatten_cons]
      intro t ht
      rcases List.mem_append.1 ht with ht|ht
      ·obtain⟨i,hi,rfl⟩:=List.getElem_of_mem ht
       obtain⟨c',t',e1,e2,e3,_,_⟩:=key k i G9 (by omega)
       rw[jC]at e1;cases e1
       rw[List.getElem?_eq_getElem hi]at e2;cases e2
       exact e3
      ·exact a3 t ht
     ·rw[List.getElem?_append]at hj
      split at hj
      ·rename_i aE
       simp at aE
       simp[aE]at hj
       obtain⟨c',t',_,_,_,e4,_⟩:=key k j G9 aE
       rw[←hj];exact e4
      ·rename_i dD
       simp at dD hj
       have:=a4 _ v hj
       rwa[show o+(k+1)*n+(j-n)=o+k*n+j by rw[Nat.succ_mul];omega]at this
   obtain⟨vs,a1,a2,a3,a4⟩:=build ya 0 (fun i c h=>by simpa using h)
   refine⟨some ⟨r,o,none⟩,cap,vs,rfl,hc,by simp,fun a' ha=>?_,a2,a1,a3,nL⟩
   cases ha
   exact⟨fun _=>rfl,fun j v hj=>by rw[b7];simpa using a4 j v hj⟩
  ·simp at he
 | @aB b off len n' r o q cap hφ hc hq =>
  simp only[bl]at he
  cases hb:H[b]? with
  | none=>simp[hb]at he
  | some y =>
   cases y with
   | cells cs =>
    simp only[hb]at he
    split at he
    ·rename_i a9
     obtain⟨rfl,hle⟩:=a9
     simp at he
     obtain⟨h1,h2,h3⟩:=h.gF b _ hb r o q hφ
     have hlen:es.length=len:=by rw[←he];simp
     have hn:∀c∈es,c.length=n':=by
      rw[←he]
      intro c mc
      obtain⟨i,hi,rfl⟩:=List.mem_map.1 mc
      simp at hi
      have:i*n'+n'≤len*n':=by rw[←Nat.succ_mul];exact Nat.mul_le_mul_right _ hi
      simp;omega
     have jQ:∀m,m≤len→((List.range m).map fun i=>(cs.drop (off+i*n')).take n').flatten=(cs.drop off).take (m*n'):=by
      intro m
      induction m with
      | zero=>intro _;simp
      | succ m ih =>
       intro hm
       rw[List.range_succ,List.map_append,List.flatten_append,ih (by omega)]
       simp only[List.map_cons,List.map_nil,List.flatten_cons,List.flatten_nil,List.append_nil]
       rw[Nat.succ_mul,List.take_add,List.drop_drop]
     have rX:es.flatten=(cs.drop off).take (len*n'):=by rw[←he];exact jQ len (Nat.le_refl _)
     have hp:iU H (len*n') (.ptr b off)=some ((cs.drop off).take (len*n')):=by simp[iU,hb,hle]
     obtain⟨r',o',vs,e1,e2,e3,e4,e5⟩:=kr h (.ptr hφ) hp
     cases e1
     refine⟨some ⟨r,o+off,none⟩,cap,vs,by rw[hlen],by omega,by simp,fun a' ha=>?_,by rw[rX];exact e4,by rw[e2,hlen],by rw[rX];exact e5,hn⟩
     cases ha
     exact⟨fun _=>rfl,fun j v hj=>by rw[b7];exact e3 j v hj⟩
    ·simp at he
   | fz cs =>
    simp only[hb]at he
    split at he
    ·rename_i a9
     obtain⟨rfl,hle⟩:=a9
     simp at he
     have hlen:es.length=len:=by rw[←he];simp
     have hn:∀c∈es,c.length=n':=by
      rw[←he]
      intro c mc
      obtain⟨i,hi,rfl⟩:=List.mem_map.1 mc
      simp at hi
      have:i*n'+n'≤len*n':=by rw[←Nat.succ_mul];exact Nat.mul_le_mul_right _ hi
      simp;omega
     have jQ:∀m,m≤len→((List.range m).map fun i=>(cs.drop (off+i*n')).take n').flatten=(cs.drop off).take (m*n'):=by
      intro m
      induction m with
      | zero=>intro _;simp
      | succ m ih =>
       intro hm
       rw[List.range_succ,List.map_append,List.flatten_append,ih (by omega)]
       simp only[List.map_cons,List.map_nil,List.flatten_cons,List.flatten_nil,List.append_nil]
       rw[Nat.succ_mul,List.take_add,List.drop_drop]
     have rX:es.flatten=(cs.drop off).take (len*n'):=by rw[←he];exact jQ len (Nat.le_refl _)
     have hp:iU H (len*n') (.ptr b off)=some ((cs.drop off).take (len*n')):=by simp[iU,hb,hle]
     obtain⟨r',o',vs,e1,e2,e3,e4,e5⟩:=kr h (.ptr hφ) hp
     cases e1
     refine⟨some ⟨r,o+off,none⟩,cap,vs,by rw[hlen],by omega,by simp,fun a' ha=>?_,by rw[rX];exact e4,by rw[e2,hlen],by rw[rX];exact e5,hn⟩
     cases ha
     exact⟨fun _=>rfl,fun j v hj=>by rw[b7];exact e3 j v hj⟩
    ·simp at he
   | map _=>simp[hb]at he
   | tok _=>simp[hb]at he
   | _=>simp[hb]at he
 | str s=>exact absurd rfl (hs s)
 | _=>simp[bl]at he
theorem nN:∀(es:List (List T)) (l:List UInt8),bytesOf es=some l→∃ns:List Int,es=ns.map (fun n=>[T.int .u8 n])∧l=ns.map (fun n=>UInt8.ofNat n.toNat)
 | [],l,h=>⟨[],rfl,by simpa[bytesOf]using h.symm⟩
 | [.int .u8 n] :: es,l,h=>by
  simp only[bytesOf,Option.map_eq_some_iff]at h
  obtain⟨l',h1,rfl⟩:=h
  obtain⟨ns,rfl,rfl⟩:=nN es l' h1
  exact⟨n :: ns,rfl,rfl⟩
 | [] :: es,l,h=>by simp[bytesOf]at h
 | (_ :: _ :: _) :: es,l,h=>by simp[bytesOf]at h
 | [.int .i8 n] :: es,l,h=>by simp[bytesOf]at h
 | [.int .i16 n] :: es,l,h=>by simp[bytesOf]at h
 | [.int .i32 n] :: es,l,h=>by simp[bytesOf]at h
 | [.int .i64 n] :: es,l,h=>by simp[bytesOf]at h
 | [.int .u16 n] :: es,l,h=>by simp[bytesOf]at h
 | [.int .u32 n] :: es,l,h=>by simp[bytesOf]at h
 | [.int .u64 n] :: es,l,h=>by simp[bytesOf]at h
 | [.bool _] :: es,l,h=>by simp[bytesOf]at h
 | [.str _] :: es,l,h=>by simp[bytesOf]at h
 | [.bI] :: es,l,h=>by simp[bytesOf]at h
 | [.ptr _ _] :: es,l,h=>by simp[bytesOf]at h
 | [.bh _] :: es,l,h=>by simp[bytesOf]at h
 | [.eG] :: es,l,h=>by simp[bytesOf]at h
 | [.map _] :: es,l,h=>by simp[bytesOf]at h
 | [.sl _ _] :: es,l,h=>by simp[bytesOf]at h
 | [.aB _ _ _ _] :: es,l,h=>by simp[bytesOf]at h
 | [.kT] :: es,l,h=>by simp[bytesOf]at h
 | [.fn _ _] :: es,l,h=>by simp[bytesOf]at h
 | [.eV] :: es,l,h=>by simp[bytesOf]at h
 | [.agg _] :: es,l,h=>by simp[bytesOf]at h
 | [.bC _] :: es,l,h=>by simp[bytesOf]at h
theorem foldl_push (ns:List Int):∀(b:ByteArray),ns.foldl (fun r n=>r.push (UInt8.ofNat n.toNat)) b=⟨b.data++(ns.map (fun n=>UInt8.ofNat n.toNat)).toArray⟩:=by
 induction ns with
 | nil=>intro b;simp
 | cons n ns ih=>intro b;rw[List.foldl_cons,ih];cases b;simp[ByteArray.push]
theorem JO (ns:List Int):(ns.map fun n=>[T.int .u8 n]).flatten=ns.map (T.int .u8):=by
 induction ns with
 | nil=>rfl
 | cons n ns ih=>simp only[List.map_cons,List.flatten_cons,ih];rfl
theorem Ds {src dst e:TypeId}{x:T}{vx:Value}{es:List (List T)}{l:List UInt8}(hs:P.underlying src=some (.slice e))(hb:P.underlying e=some (.int .u8))(hd:P.underlying dst=some .string)
  (h:SR w0 g H w) (hx:VR g w x vx) (he:bl H 1 x=some es) (hn:∀s,x≠.str s) (hl:bytesOf es=some l):bp P w0 g H w (convert src dst vx) (.str ⟨l.toArray⟩) H:=by
 obtain⟨a,cap,vs,rfl,_,h1,h2,h3,h4,h5,_⟩:=kZ h hx he hn
 obtain⟨ns,rfl,rfl⟩:=nN es l hl
 refine bp.same h ?_ (.str _)
 rw[run_convert_bytes_string w src dst e a _ cap hs hb hd]
 cases a with
 | none =>
  have:=h1 rfl
  have FD:ns=[]:=by simpa using this.1
  subst FD
  simp[Conv.bytesToString];rfl
 | some a =>
  obtain⟨_,h6⟩:=h2 a rfl
  have l3:vs=ns.map (Value.int .u8):=by
   apply List.ext_getElem?
   intro i
   have hlen:vs.length=ns.length:=by simpa using h4
   by_cases hi:i<ns.length
   ·have hv:vs[i]?=some vs[i]:=List.getElem?_eq_getElem (by omega)
    have ht:((ns.map fun n=>[T.int .u8 n]).flatten)[i]?=some (T.int .u8 ns[i]):=by
     rw[JO];simp[hi]
    have:=h3.2 i _ _ ht hv
    rw[hv]
    simp only[List.getElem?_map,List.getElem?_eq_getElem hi,Option.map_some]
    congr 1
    generalize vs[i]=vv at this
    cases this;rfl
   ·rw[List.getElem?_eq_none (by omega),List.getElem?_eq_none (by simpa using hi)]
  have:=run_loadCells_list (P:=P) w a vs h6
  rw[h4]at this
  have hl:(ns.map fun n=>[T.int .u8 n]).length*1=(ns.map fun n=>[T.int .u8 n]).length:=Nat.mul_one _
  rw[hl]at this
  rw[run_bytesToString w a _ cap ns (by rw[this,l3]),foldl_push]
  show Result.ok (Value.string ⟨#[]++_⟩) w=_
  simp
end
section
variable {P:Program} {w0 w:World} {g:Ctx} {H:ae}
def nO:Value→Option T
 | .int k n=>some (.int k n)
 | .bool b=>some (.bool b)
 | .string s=>some (.str s)
 | .pointer none=>some .bI
 | .slice none 0 0=>some (.sl .nil [])
 | .map none=>some .eG
 | .nilFunc=>some .kT
 | .nilIface=>some .eV
 | _=>none
def dy:List Value→Option (List T)
 | []=>some []
 | v :: vs=>match nO v,dy vs with
  | some t,some ts=>some (t :: ts)
  | _,_=>none
def ku:Value→Option T
 | .agg cs=>(dy cs.toList).map .agg
 | .tuple cs=>if cs.size=0 then some (.bC [])else none
 | v=>nO v
theorem pE {v:Value}{t:T}(h:nO v=some t):VR g w t v∧t.one=true:=by
 unfold nO at h
 split at h<;>simp at h<;>subst h
 ·exact⟨.int _ _,rfl⟩
 ·exact⟨.bool _,rfl⟩
 ·exact⟨.str _,rfl⟩
 ·exact⟨.bI,rfl⟩
 ·exact⟨.slnil,rfl⟩
 ·exact⟨.eG,rfl⟩
 ·exact⟨.kT,rfl⟩
 ·exact⟨.eV,rfl⟩
theorem cI:∀(vs:List Value) (ts:List T),dy vs=some ts→a6 g w ts vs∧bJ ts
 | [],ts,h=>by simp[dy]at h;subst h;exact⟨a6.nil,by simp[bJ]⟩
 | v :: vs,ts,h=>by
  simp only[dy]at h
  cases h1:nO v with
  | none=>simp[h1]at h
  | some t =>
   cases h2:dy vs with
   | none=>simp[h1,h2]at h
   | some G5 =>
    simp[h1,h2]at h;subst h
    obtain⟨a,b⟩:=pE (g:=g) (w:=w) h1
    obtain⟨c,d⟩:=cI vs G5 h2
    exact⟨a6.cons a c,by intro x hx;rcases List.mem_cons.1 hx with rfl|hx;exact b;exact d x hx⟩
theorem jD {v:Value}{t:T}(h:ku v=some t):VR g w t v:=by
 unfold ku at h
 split at h
 ·rename_i cs
  simp only[Option.map_eq_some_iff]at h
  obtain⟨ts,h1,rfl⟩:=h
  obtain⟨a,b⟩:=cI (g:=g) (w:=w) _ _ h1
  have:=a.agg b
  simpa using this
 ·rename_i cs
  split at h
  ·rename_i hs
   simp at h;subst h
   have:cs=#[]:=Array.eq_empty_of_size_eq_zero hs
   subst this
   exact .bC rfl (by simp)
  ·simp at h
 ·exact(pE h).1
theorem cU {x:T}{vx:Value}{i:Nat}(hx:VR g w x vx)(h:bd x=some i):∃(k:IntKind) (n:Int),vx=.int k n∧0≤n∧n.toNat=i:=by
 cases hx<;>simp[bd]at h
 exact⟨_,_,rfl,h.1,h.2⟩
theorem w6 {cs:List T}{r o off:Nat}(h:VR g w (.bh cs) (.pointer (some ⟨r,o,none⟩))):VR g w (.bh (cs.drop off)) (.pointer (some ⟨r,o+off,none⟩)):=by
 cases h with
 | bh b6 h1 h2 =>
  refine .bh (fun j=>b6 (off+j)) (fun j t e=>?_) (fun j t e=>?_)
  ·rw[List.getElem?_drop]at e
   have:=h1 (off+j) t e
   exact⟨this.1,by rw[Nat.add_assoc];exact this.2⟩
  ·rw[List.getElem?_drop]at e
   exact h2 (off+j) t e
theorem Dt {ty:TypeId}{fs:Array Field}{i:Nat}{f:Field}{fi:TypeInfo}{x t:T}{vx:Value}(hu:P.underlying ty=some (.struct fs))(hf:fs[i]?=some f)(hi:P.info? f.type=some fi)(hz:fi.size≠0)
  (h:SR w0 g H w) (hx:VR g w x vx) (he:fH f.offset x=some t) :
  bp P w0 g H w (Instr.fieldAt ty vx i) t H:=by
 cases hx<;>simp[fH]at he
 case ptr b off r o q hφ =>
  subst he
  refine bp.same h (v:=.pointer (some ⟨r,o+(off+f.offset),none⟩)) ?_ (.ptr hφ)
  simp[Instr.fieldAt,Instr.sureAddr,run_underlying hu,hf,fieldPlace,sizeOf,aS hi,hz,b7,Nat.add_assoc]
 case bh cs r o b6 h1 h2 =>
  obtain⟨_,rfl⟩:=he
  refine bp.same h (v:=.pointer (some ⟨r,o+f.offset,none⟩)) ?_ (w6 (.bh b6 h1 h2))
  simp[Instr.fieldAt,Instr.sureAddr,run_underlying hu,hf,fieldPlace,sizeOf,aS hi,hz,b7]
theorem rY {ty:TypeId}{d:TypeDesc}{i:TypeInfo}{ag:Bool}{n off:Nat}{cs:List T}{vs:List Value}{t:T}(hd:P.underlying ty=some d)(hi:P.info? ty=some i)(rU:cT d=ag)(hn:i.size=n)
  (hv:a6 g w cs vs) (ho:bJ cs) (hle:off+n≤cs.length) (he:valOf ag ((cs.drop off).take n)=some t):∃v,(part ty vs.toArray off).run P w=.ok v w∧VR g w t v:=by
 have h1:=(hv.drop off).take n
 have h2:bJ ((cs.drop off).take n):=fun x hx=>ho x (List.mem_of_mem_drop (List.mem_of_mem_take hx))
 obtain⟨ha,hb⟩:=nJ h1 h2 he
 cases ag with
 | true =>
  refine⟨_,?_,ha rfl⟩
  simp[part,dw hd,rU,sizeOf,aS hi,hn]
 | false =>
  obtain⟨v,h3,h4⟩:=hb rfl
  refine⟨v,?_,h4⟩
  have h5:vs[off]?=some v:=by
   have:((vs.drop off).take n)[0]?=some v:=by rw[h3];rfl
   rw[List.getElem?_take]at this
   split at this
   ·rw[List.getElem?_drop]at this;simpa using this
   ·simp at this
  simp[part,dw hd,rU,h5]
theorem Du {ty:TypeId}{fs:Array Field}{i:Nat}{f:Field}{fi:TypeInfo}{d:TypeDesc}{cs:List T}{t:T}{vx:Value}{ag:Bool}(hu:P.underlying ty=some (.struct fs))(hf:fs[i]?=some f)(hd:P.underlying f.type=some d)(hi:P.info? f.type=some fi)
  (rU:cT d=ag) (h:SR w0 g H w) (hx:VR g w (.agg cs) vx) (hle:f.offset+fi.size≤cs.length) (he:valOf ag ((cs.drop f.offset).take fi.size)=some t):bp P w0 g H w (Instr.field ty vx i) t H:=by
 obtain⟨vs,rfl,h1,h2⟩:=hx.ey
 obtain⟨v,hr,hv⟩:=rY (P:=P) hd hi rU rfl h1 h2 hle he
 exact bp.same h (by simp[Instr.field,run_underlying hu,hf,asAgg,hr]) hv
theorem Dv {ty elem:TypeId}{ei:TypeInfo}{x ix t:T}{i:Nat}{vx vi:Value}(hu:P.underlying ty=some (.slice elem))(hi:P.info? elem=some ei)
  (h:SR w0 g H w) (hx:VR g w x vx) (rZ:VR g w ix vi) (hn:bd ix=some i) (he:eW ei.size i x=some t):bp P w0 g H w (Instr.indexAt ty vx vi) t H:=by
 obtain⟨k,m,rfl,w8,FE⟩:=cU rZ hn
 cases hx<;>simp[eW]at he
 case sl k' es r o cap n b6 hk hc FF h1 h2 =>
  cases iS:es[i]? with
  | none=>simp[iS]at he
  | some c =>
   simp[iS]at he
   obtain⟨⟨lg,aY⟩,rfl⟩:=he
   have aE:i<es.length:=(List.getElem?_eq_some_iff.1 iS).1
   have N8:c.length=n:=FF c (List.mem_of_getElem? iS)
   have Dq:n=ei.size:=by omega
   subst Dq
   refine bp.same h (v:=.pointer (some ⟨r,o+i*ei.size,none⟩)) ?_ (.bh (b6 i) (fun j t e=>h1 i j c t iS e) (fun j t e=>h2 i j c t iS e))
   have ug:m<es.length:=by omega
   simp[Instr.indexAt,asIntOf,run_underlying hu,w8,ug,sizeOf,aS hi,b7,FE]
 case aB b off len n r o q cap hφ hc hq =>
  obtain⟨⟨rfl,aE,aY⟩,rfl⟩:=he
  refine bp.same h (v:=.pointer (some ⟨r,o+(off+i*ei.size),none⟩)) ?_ (.ptr hφ)
  have ug:m<len:=by omega
  simp[Instr.indexAt,asIntOf,run_underlying hu,w8,ug,sizeOf,aS hi,b7,FE,Nat.add_assoc]
theorem Dw {ty elem:TypeId}{len:Nat}{ei:TypeInfo}{ix:T}{b off i:Nat}{vx vi:Value}(hu:P.underlying ty=some (.array len elem))(hi:P.info? elem=some ei)
  (h:SR w0 g H w) (hx:VR g w (.ptr b off) vx) (rZ:VR g w ix vi) (hn:bd ix=some i) (aE:i<len):bp P w0 g H w (Instr.indexAt ty vx vi) (.ptr b (off+i*ei.size)) H:=by
 obtain⟨k,m,rfl,w8,FE⟩:=cU rZ hn
 cases hx with
 | @ptr _ _ r o q hφ =>
  refine bp.same h (v:=.pointer (some ⟨r,o+(off+i*ei.size),none⟩)) ?_ (.ptr hφ)
  have ug:m<len:=by omega
  simp[Instr.indexAt,Instr.sureAddr,asIntOf,run_underlying hu,w8,ug,sizeOf,aS hi,b7,FE,Nat.add_assoc]
theorem Dx {ty:TypeId}{ix:T}{s:ByteArray}{i:Nat}{c:UInt8}{vx vi:Value}(hu:P.underlying ty=some .string)
  (h:SR w0 g H w) (hx:VR g w (.str s) vx) (rZ:VR g w ix vi) (hn:bd ix=some i) (hc:s.data[i]?=some c):bp P w0 g H w (Instr.index ty vx vi) (.int .u8 c.toNat) H:=by
 obtain⟨k,m,rfl,w8,FE⟩:=cU rZ hn
 cases hx
 refine bp.same h ?_ (.int _ _)
 have mc:s[i]?=some c:=by
  have aE:i<s.data.size:=(Array.getElem?_eq_some_iff.1 hc).1
  have h2:=(Array.getElem?_eq_some_iff.1 hc).2
  have N9:i<s.size:=aE
  rw[getElem?_pos s i N9]
  exact congrArg some h2
 simp[Instr.index,asIntOf,run_underlying hu,w8,FE,mc]
theorem Dy {ty elem:TypeId}{len i:Nat}{ei:TypeInfo}{d:TypeDesc}{ag:Bool}{ix t:T}{cs:List T}{vx vi:Value}(hu:P.underlying ty=some (.array len elem))(hd:P.underlying elem=some d)(hi:P.info? elem=some ei)(rU:cT d=ag)
  (h:SR w0 g H w) (hx:VR g w (.agg cs) vx) (rZ:VR g w ix vi) (hn:bd ix=some i) (aE:i<len) (hle:i*ei.size+ei.size≤cs.length) (he:valOf ag ((cs.drop (i*ei.size)).take ei.size)=some t):bp P w0 g H w (Instr.index ty vx vi) t H:=by
 obtain⟨k,m,rfl,w8,FE⟩:=cU rZ hn
 obtain⟨vs,rfl,h1,h2⟩:=hx.ey
 obtain⟨v,hr,hv⟩:=rY (P:=P) hd hi rU rfl h1 h2 hle he
 have ug:m<len:=by omega
 exact bp.same h (by simp[Instr.index,asIntOf,run_underlying hu,w8,ug,sizeOf,aS hi,FE,hr]) hv
def OV (g:Ctx)(w:World)(R:ax):Option X→Option Value→Prop
 | none,none=>True
 | some x,some v=>VR g w (x.ev R) v
 | _,_=>False
def Ha (l:Nat):Option Value→Prop
 | none=>l=0
 | some v=>∃k n,v=.int k n∧0≤n∧n.toNat=l
theorem run_sliceBound {k:IntKind}{n:Int}{y:Nat}{c:BoundsCode}(h0:0≤n)(hy:n.toNat≤y):(Instr.sliceBound (.int k n) y c).run P w=.ok n.toNat w:=by
 have:n≤y:=by omega
 simp[Instr.sliceBound,asIntOf,h0,this]
theorem eo {R:ax}{yK:Bool}{len cap d l hh:Nat}{lo hi:Option X}{hG iL:Option Value}(oV:OV g w R lo hG)
  (r5:OV g w R hi iL) (hl:fe R 0 lo=some l) (qA:fe R d hi=some hh) (hd:hi=none→d=len) (h1:l≤hh) (h2:hh≤cap) :
  (Instr.sliceBounds yK len cap hG iL none).run P w=.ok (l,hh,cap) w:=by
 have eh:∀c,(match iL with|some v=>Instr.sliceBound v cap c|none=>pure len:Sem Nat).run P w=.ok hh w:=by
  intro c
  cases hi with
  | none =>
   cases iL with
   | none=>simp[fe]at qA;simp[←qA,hd rfl]
   | some _=>exact r5.elim
  | some x =>
   cases iL with
   | none=>exact r5.elim
   | some v =>
    obtain⟨k,n,rfl,a,b⟩:=cU r5 qA
    subst b
    exact run_sliceBound a h2
 have el:∀c,(match hG with|some v=>Instr.sliceBound v hh c|none=>pure 0:Sem Nat).run P w=.ok l w:=by
  intro c
  cases lo with
  | none =>
   cases hG with
   | none=>simp[fe]at hl;simp[←hl]
   | some _=>exact oV.elim
  | some x =>
   cases hG with
   | none=>exact oV.elim
   | some v =>
    obtain⟨k,n,rfl,a,b⟩:=cU oV hl
    subst b
    exact run_sliceBound a h1
 have Vz:=eh (if yK then .sliceAcap else .sliceAlen)
 have VA:=el .sliceB
 cases iL<;>cases hG<;>simp_all [Instr.sliceBounds]
theorem Dz {R:ax}{ty:TypeId}{s:ByteArray}{l hh:Nat}{lo hi:Option X}{hG iL:Option Value}{vx:Value}(hu:P.underlying ty=some .string)
  (h:SR w0 g H w) (hx:VR g w (.str s) vx) (oV:OV g w R lo hG)
  (r5:OV g w R hi iL) (hl:fe R 0 lo=some l) (qA:fe R s.size hi=some hh) (h1:l≤hh) (h2:hh≤s.size) :
  bp P w0 g H w (Instr.sliceAt ty vx hG iL none) (.str (s.extract l hh)) H:=by
 cases hx
 refine bp.same h ?_ (.str _)
 have:=eo (P:=P) (yK:=false) oV r5 hl qA (fun _=>rfl) h1 h2
 simp[Instr.sliceAt,run_underlying hu,Instr.slice,this]
theorem vq {k k':SK}{es:List (List T)}{r o cap qB n l m:Nat}{a:Option Addr}(b6:Nat→Nat→Value)(hn:∀c∈es,c.length=n)
  (h1:∀(i j:Nat) (c:List T) (t:T),es[i]?=some c→c[j]?=some t→t.one=true∧ue g w r (o+i*n+j) (b6 i j))
  (h2:∀(i j:Nat) (c:List T) (t:T),es[i]?=some c→c[j]?=some t→VR g w t (b6 i j))
  (VB:l≤m) (hm:m≤es.length) (lh:m-l≤qB) (hk:pw g k' r (o+l*n) (m-l) qB n) :
  VR g w (.sl k' ((es.take m).drop l)) (.slice (some ⟨r,o+l*n,none⟩) (m-l) qB):=by
 have hlen:((es.take m).drop l).length=m-l:=by simp;omega
 have get:∀i c,((es.take m).drop l)[i]?=some c→es[l+i]?=some c:=by
  intro i c hi
  rw[List.getElem?_drop,List.getElem?_take]at hi
  split at hi
  ·exact hi
  ·simp at hi
 have:=VR.sl (g:=g) (w:=w) (k:=k') (es:=(es.take m).drop l) (r:=r) (o:=o+l*n) (cap:=qB) (n:=n) (fun i j=>b6 (l+i) j) (by rw[hlen];exact hk) (by omega)
  (fun c hc=>hn c (List.mem_of_mem_take (List.mem_of_mem_drop hc)))
  (fun i j c t a b=>⟨(h1 (l+i) j c t (get i c a) b).1,by
   have:=(h1 (l+i) j c t (get i c a) b).2
   rwa[show o+l*n+i*n+j=o+(l+i)*n+j by rw[Nat.add_mul];omega]⟩)
  (fun i j c t a b=>h2 (l+i) j c t (get i c a) b)
 rwa[hlen]at this
theorem DA {R : ax}{ty elem : TypeId}{ei : TypeInfo}{k : SK}{es : List (List T)}{l hh : Nat}{lo hi : Option X}{hG iL : Option Value}{vx : Value}(hu : P.underlying ty = some (.slice elem))(lY : P.info? elem = some ei)
    (h : SR w0 g H w) (hx : VR g w (.sl k es) vx) (oV : OV g w R lo hG)
    (r5 : OV g w R hi iL) (hl : fe R 0 lo = some l) (qA : fe R es.length hi = some hh) (h1 : l ≤ hh) (h2 : hh ≤ es.length) (cj : es.all (·.length == ei.size) = true) :
    bp P w0 g H w (Instr.sliceAt ty vx hG iL none) (.sl (k.cut es.length l hh) ((es.take hh).drop l)) H := by
  have nL : ∀c ∈ es, c.length = ei.size := by simpa using cj
  cases hx with
  | slnil =>
    simp at h2; subst h2
    have vt : l = 0 := by omega
    subst vt
    have := eo (P := P) (w := w) (g := g) (yK := true) (cap := 0) oV r5 hl qA (fun _ => rfl) h1 (Nat.le_refl _)
    simp only[List.length_nil]at this
    exact bp.same h (v := .slice none 0 0) (by simp[Instr.sliceAt, run_underlying hu, Instr.slice, this, sizeOf, aS lY]) (by simpa[SK.cut]using VR.slnil)
  | gu a =>
    simp at h2; subst h2
    have vt : l = 0 := by omega
    subst vt
    have := eo (P := P) (w := w) (g := g) (yK := true) (cap := 0) oV r5 hl qA (fun _ => rfl) h1 (Nat.le_refl _)
    simp only[List.length_nil]at this
    exact bp.same h (v := .slice a 0 0) (by cases a<;>simp[Instr.sliceAt, run_underlying hu, Instr.slice, this, sizeOf, aS lY]) (by simpa[SK.cut]using VR.gu a)
  | @sl _ _ r o cap n b6 hk hc hn h3 h4 =>
    have := eo (P := P) (w := w) (g := g) (yK := true) (cap := cap) oV r5 hl qA (fun _ => rfl) h1 (by omega)
    have hr : (Instr.sliceAt ty (.slice (some ⟨r, o, none⟩) es.length cap) hG iL none).run P w = .ok (.slice (some (if cap = l then⟨r, o, none⟩else⟨r, o + l * ei.size, none⟩)) (hh - l) (cap - l)) w := by
      simp[Instr.sliceAt, run_underlying hu, Instr.slice, this, sizeOf, aS lY, b7]
      split<;>rfl
    by_cases he : l<hh
    · -- Jm is left
      have lg : cap ≠ l := by omega
      simp only[lg, if_false]at hr
      have Dq : n = ei.size := by
        cases es with
        | nil => simp at h2; omega
        | cons c es => have a := hn c (by simp); have b := nL c (by simp); omega
      subst Dq
      refine bp.same h hr (vq (k := k) (cap := cap) (a := none) b6 hn h3 h4 h1 h2 (by omega) ?_)
      cases k with
      | nil => exact hk.elim
      | arg => trivial
      | full =>
        simp only[SK.cut]; split
        · rename_i e; simp only[pw]at hk ⊢; omega
        · trivial
      | own t e =>
        simp only[SK.cut]; split
        · rename_i e'
          simp only[pw]at hk ⊢
          refine⟨?_, by omega⟩
          rw[hk.1]
          have e1 : o + l * ei.size + (hh - l) * ei.size = o + es.length * ei.size := by
            rw[Nat.add_assoc, ←Nat.add_mul]; congr 2; omega
          have e2 : o + l * ei.size + (cap - l) * ei.size = o + cap * ei.size := by
            rw[Nat.add_assoc, ←Nat.add_mul]; congr 2; omega
          rw[e1, e2]
        · trivial
    · have hle : l = hh := by omega
      subst hle
      have hd : (es.take l).drop l = [] := by simp
      rw[hd]
      have vr : ∀a : Addr, a.spot = none → VR g w (.sl .arg []) (.slice (some a) 0 (cap - l)) := by
        intro a ha
        obtain⟨ab, ao, as⟩ := a
        simp at ha; subst ha
        exact .sl (n := 0) (fun _ _ => .nilIface) trivial (by simp) (by simp) (by simp) (by simp)
      have bE : k.cut es.length l l = .arg ∨ (k.cut es.length l l = .full ∧ cap = l) := by
        cases k with
        | nil => exact hk.elim
        | arg => exact .inl rfl
        | full => simp only[SK.cut]; split
                  · rename_i e; right; simp only[pw]at hk; exact⟨rfl, by omega⟩
                  · exact .inl rfl
        | own t e => simp only[SK.cut]; split
                     · omega
                     · exact .inl rfl
      rcases bE with e|⟨e, lg⟩
      · rw[e]
        refine bp.same h hr ?_
        rw[Nat.sub_self]
        exact vr _ (by split<;>rfl)
      · rw[e]
        refine bp.same h hr ?_
        rw[Nat.sub_self, lg, Nat.sub_self]
        have vu : ∀a : Addr, a.spot = none → VR g w (.sl .full []) (.slice (some a) 0 0) := by
          intro a ha
          obtain⟨ab, ao, as⟩ := a
          simp at ha; subst ha
          exact .sl (n := 0) (fun _ _ => .nilIface) rfl (by simp) (by simp) (by simp) (by simp)
        exact vu _ (by split<;>rfl)
theorem me {yK:Bool}{len cap l hh m:Nat}{hG:Option Value}{k:IntKind}{nm:Int}{vh:Value}
  (w8:0≤nm) (Oa:nm.toNat=m) (RG:m≤cap) (qA:∃k n,vh=.int k n∧0≤n∧n.toNat=hh) (h2:hh≤m)
  (hl:Ha l hG) (h1:l≤hh) :
  (Instr.sliceBounds yK len cap hG (some vh) (some (.int k nm))).run P w=.ok (l,hh,m) w:=by
 subst Oa
 obtain⟨kh,nh,rfl,a,b⟩:=qA
 subst b
 cases hG with
 | none=>simp only[Ha]at hl;subst hl;simp[Instr.sliceBounds,run_sliceBound w8 RG,run_sliceBound a h2]
 | some v =>
  obtain⟨kl,nl,rfl,c,d⟩:=hl
  subst d
  simp[Instr.sliceBounds,run_sliceBound w8 RG,run_sliceBound a h2,run_sliceBound c h1]
theorem yL {R:ax}{ty elem:TypeId}{ei:TypeInfo}{k:SK}{es:List (List T)}{l hh m:Nat}{lo:Option X}{hi mx:X}{hG:Option Value}{iL vm:Value}{vx:Value}(hu:P.underlying ty=some (.slice elem))(lY:P.info? elem=some ei)
  (h:SR w0 g H w) (hx:VR g w (.sl k es) vx) (oV:OV g w R lo hG)
  (r5:VR g w (hi.ev R) iL) (SS:VR g w (mx.ev R) vm) (hl:fe R 0 lo=some l) (qA:bd (hi.ev R)=some hh) (hm:bd (mx.ev R)=some m) (h1:l≤hh) (h2:hh≤m) (JP:m≤es.length) (cj:es.all (·.length==ei.size)=true) :
  bp P w0 g H w (Instr.sliceAt ty vx hG (some iL) (some vm)) (.sl (if k=.nil then .nil else if es=[]∧k=.arg then .arg else if hh=m then .full else .arg) ((es.take hh).drop l)) H:=by
 have nL:∀c∈es,c.length=ei.size:=by simpa using cj
 have pF:Ha l hG:=by
  cases lo<;>cases hG
  ·simp[fe]at hl;exact hl.symm
  ·exact oV.elim
  ·exact oV.elim
  ·exact cU oV hl
 obtain⟨km,nm,rfl,w8,Oa⟩:=cU SS hm
 have hb:∀cap,m≤cap→(Instr.sliceBounds true es.length cap hG (some iL) (some (.int km nm))).run P w=.ok (l,hh,m) w :=
  fun cap hc=>me w8 Oa hc (cU r5 qA) h2 pF h1
 cases hx with
 | slnil =>
  simp at JP;subst JP
  obtain rfl:hh=0:=by omega
  obtain rfl:l=0:=by omega
  have:=hb 0 (Nat.le_refl _)
  simp only[List.length_nil]at this
  exact bp.same h (v:=.slice none 0 0) (by simp[Instr.sliceAt,run_underlying hu,Instr.slice,this,sizeOf,aS lY]) (by simpa using VR.slnil)
 | gu a =>
  simp at JP;subst JP
  obtain rfl:hh=0:=by omega
  obtain rfl:l=0:=by omega
  have:=hb 0 (Nat.le_refl _)
  simp only[List.length_nil]at this
  exact bp.same h (v:=.slice a 0 0) (by cases a<;>simp[Instr.sliceAt,run_underlying hu,Instr.slice,this,sizeOf,aS lY]) (by simpa using VR.gu a)
 | @sl _ _ r o cap n b6 hk hc hn h3 h4 =>
  have JQ:k≠.nil:=by rintro rfl;exact hk.elim
  simp only[JQ,if_false]
  have hr:(Instr.sliceAt ty (.slice (some ⟨r,o,none⟩) es.length cap) hG (some iL) (some (.int km nm))).run P w=.ok (.slice (some (if m=l then⟨r,o,none⟩else⟨r,o+l*ei.size,none⟩)) (hh-l) (m-l)) w:=by
   simp[Instr.sliceAt,run_underlying hu,Instr.slice,hb cap (by omega),sizeOf,aS lY,b7]
   split<;>rfl
  by_cases he:l<hh
  ·have lg:m≠l:=by omega
   simp only[lg,if_false]at hr
   have aY:es≠[]:=by rintro rfl;simp at JP;omega
   have Dq:n=ei.size:=by
    cases es with
    | nil=>exact absurd rfl aY
    | cons c es=>have a:=hn c (by simp);have b:=nL c (by simp);omega
   subst Dq
   simp only[aY,false_and,if_false]
   refine bp.same h hr (vq (k:=k) (cap:=cap) (a:=none) b6 hn h3 h4 h1 (by omega) (by omega) ?_)
   split
   ·rename_i e;simp only[pw];omega
   ·trivial
  ·obtain rfl:l=hh:=by omega
   have hd:(es.take l).drop l=[]:=by simp
   rw[hd]
   have vu:∀(a:Addr) (c:Nat) (k':SK),a.spot=none→(k'=.arg∨(k'=.full∧c=0))→VR g w (.sl k' []) (.slice (some a) 0 c):=by
    intro a c k' ha r6
    obtain⟨ab,ao,as⟩:=a
    simp at ha;subst ha
    refine .sl (n:=0) (fun _ _=>.nilIface) ?_ (by simp) (by simp) (by simp) (by simp)
    rcases r6 with rfl|⟨rfl,rfl⟩
    ·trivial
    ·rfl
   refine bp.same h hr ?_
   rw[Nat.sub_self]
   refine vu _ _ _ (by split<;>rfl) ?_
   split
   ·exact .inl rfl
   ·split
    ·exact .inr ⟨rfl,by omega⟩
    ·exact .inl rfl
theorem yM {R:ax}{ty elem:TypeId}{ei:TypeInfo}{b off len l hh:Nat}{lo hi:Option X}{hG iL:Option Value}{vx:Value}(hu:P.underlying ty=some (.slice elem))(lY:P.info? elem=some ei)
  (h:SR w0 g H w) (hx:VR g w (.aB b off len ei.size) vx) (oV:OV g w R lo hG)
  (r5:OV g w R hi iL) (hl:fe R 0 lo=some l) (qA:fe R len hi=some hh) (h1:l≤hh) (h2:hh≤len) :
  bp P w0 g H w (Instr.sliceAt ty vx hG iL none) (if l=hh then(if l=0 then .aB b off 0 ei.size else .sl .arg [])else .aB b (off+l*ei.size) (hh-l) ei.size) H:=by
 cases hx with
 | @aB _ _ _ _ r o q cap hφ hc hq =>
  have:=eo (P:=P) (w:=w) (g:=g) (yK:=true) (cap:=cap) oV r5 hl qA (fun _=>rfl) h1 (by omega)
  have hr:(Instr.sliceAt ty (.slice (some ⟨r,o+off,none⟩) len cap) hG iL none).run P w=.ok (.slice (some (if cap=l then⟨r,o+off,none⟩else⟨r,o+off+l*ei.size,none⟩)) (hh-l) (cap-l)) w:=by
   simp[Instr.sliceAt,run_underlying hu,Instr.slice,this,sizeOf,aS lY,b7]
   split<;>rfl
  refine bp.same h hr ?_
  have key:∀a:Addr,a=⟨r,o+(off+l*ei.size),none⟩→(cap≠l∨l=0)→VR g w (.aB b (off+l*ei.size) (hh-l) ei.size) (.slice (some a) (hh-l) (cap-l)):=by
   rintro a rfl lg
   refine .aB hφ (by omega) ?_
   rw[←hq]
   have:l*ei.size+(cap-l)*ei.size=cap*ei.size:=by rw[←Nat.add_mul];congr 1;omega
   omega
  split
  ·rename_i e;subst e
   split
   ·rename_i e;subst e
    have:=key (if cap=0 then⟨r,o+off,none⟩else⟨r,o+off+0*ei.size,none⟩) (by split<;>simp) (.inr rfl)
    simpa using this
   ·rw[Nat.sub_self]
    have vu:∀(a:Addr) (c:Nat),a.spot=none→VR g w (.sl .arg []) (.slice (some a) 0 c):=by
     intro a c ha
     obtain⟨ab,ao,as⟩:=a
     simp at ha;subst ha
     exact .sl (n:=0) (fun _ _=>.nilIface) trivial (by simp) (by simp) (by simp) (by simp)
    exact vu _ _ (by split<;>rfl)
  ·have lg:cap≠l:=by omega
   exact key _ (by rw[if_neg lg,Nat.add_assoc]) (.inl lg)
theorem DB {R:ax}{ty elem:TypeId}{ei:TypeInfo}{b off len hh:Nat}{hi:X}{iL:Value}{vx:Value}(hu:P.underlying ty=some (.slice elem))(lY:P.info? elem=some ei)
  (h:SR w0 g H w) (hx:VR g w (.aB b off len ei.size) vx)
  (r5:OV g w R (some hi) (some iL)) (qA:bd (hi.ev R)=some hh) (hn:ei.size≠0) (h0:0<hh) (hr:off+hh*ei.size≤rR H b) :
  bp P w0 g H w (Instr.sliceAt ty vx none (some iL) none) (.aB b off hh ei.size) H:=by
 cases hx with
 | @aB _ _ _ _ r o q cap hφ hc hq =>
  have r7:o+(off+hh*ei.size)≤q:=by
   unfold rR at hr
   split at hr
   ·rename_i cs hb
    have:=(h.gF _ _ hb r o q hφ).1;omega
   ·rename_i cs hb
    have:=(h.gF _ _ hb r o q hφ).1;omega
   ·have:0<hh*ei.size:=Nat.mul_pos h0 (Nat.pos_of_ne_zero hn)
    omega
  have lh:hh≤cap:=by
   have h1:hh*ei.size≤cap*ei.size:=by omega
   exact Nat.le_of_mul_le_mul_right h1 (Nat.pos_of_ne_zero hn)
  have:=eo (P:=P) (w:=w) (g:=g) (R:=R) (yK:=true) (d:=len) (len:=len) (cap:=cap) (lo:=none) (hG:=none) (l:=0) trivial r5 rfl qA (fun _=>rfl) (Nat.zero_le _) lh
  have hr:(Instr.sliceAt ty (.slice (some ⟨r,o+off,none⟩) len cap) none (some iL) none).run P w=.ok (.slice (some (if cap=0 then⟨r,o+off,none⟩else⟨r,o+off+0*ei.size,none⟩)) (hh-0) (cap-0)) w:=by
   simp[Instr.sliceAt,run_underlying hu,Instr.slice,this,sizeOf,aS lY,b7]
  refine bp.same h hr ?_
  have:VR g w (.aB b off hh ei.size) (.slice (some ⟨r,o+off,none⟩) hh cap):=.aB hφ lh hq
  simpa using this
theorem yN {R:ax}{ty elem:TypeId}{ei:TypeInfo}{b off len c l hh:Nat}{lo hi:Option X}{hG iL:Option Value}{vx:Value}(hu:P.underlying ty=some (.slice elem))(lY:P.info? elem=some ei)
  (h:SR w0 g H w) (hx:VR g w (.dB b off len ei.size c) vx) (oV:OV g w R lo hG)
  (r5:OV g w R hi iL) (hl:fe R 0 lo=some l) (qA:fe R len hi=some hh) (h1:l≤hh) (h2:hh≤c) :
  bp P w0 g H w (Instr.sliceAt ty vx hG iL none) (if l<c∨l=0 then .dB b (off+l*ei.size) (hh-l) ei.size (c-l)else .sl .arg []) H:=by
 cases hx with
 | @dB _ _ _ _ r o q cap hφ hc hq =>
  have:=eo (P:=P) (w:=w) (g:=g) (yK:=true) (cap:=c) oV r5 hl qA (fun _=>rfl) h1 (by omega)
  have hr:(Instr.sliceAt ty (.slice (some ⟨r,o+off,none⟩) len c) hG iL none).run P w=.ok (.slice (some (if c=l then⟨r,o+off,none⟩else⟨r,o+off+l*ei.size,none⟩)) (hh-l) (c-l)) w:=by
   simp[Instr.sliceAt,run_underlying hu,Instr.slice,this,sizeOf,aS lY,b7]
   split<;>rfl
  refine bp.same h hr ?_
  by_cases h3:l<c∨l=0
  case neg =>
   rw[if_neg h3]
   have e0:hh-l=0:=by omega
   have vu:∀(a:Addr) (c:Nat),a.spot=none→VR g w (.sl .arg []) (.slice (some a) 0 c):=by
    intro a c ha
    obtain⟨ab,ao,as⟩:=a
    simp at ha;subst ha
    exact .sl (n:=0) (fun _ _=>.nilIface) trivial (by simp) (by simp) (by simp) (by simp)
   rw[e0]
   exact vu _ _ (by split<;>rfl)
  rw[if_pos h3]
  have e:(if c=l then(⟨r,o+off,none⟩:Addr)else⟨r,o+off+l*ei.size,none⟩)=⟨r,o+(off+l*ei.size),none⟩:=by
   split
   ·have:l=0:=by omega
    subst this;simp
   ·simp[Nat.add_assoc]
  rw[e]
  refine .dB hφ (by omega) ?_
  rw[←hq]
  have:l*ei.size+(c-l)*ei.size=c*ei.size:=by rw[←Nat.add_mul];congr 1;omega
  omega
end
section
variable {P:Program} {w0 w:World} {g:Ctx} {H:ae}
def kv (P:Program)(ty:TypeId):KT→Bool
 | .sc t=>match P.underlying ty with|some d=>CW t d|none=>false
 | .st ks=>match P.underlying ty with|some (.struct fs)=>flat P fs.toList 0 ks&&!P.stoodInHeld ty|_=>false
theorem yO {e:Bool}{n:Nat}{ty:TypeId}{d:TypeDesc}{k:rG}{v:Value}(hu:P.underlying ty=some d)(hk:CW k d=true):(Instr.checkKey e (n+1) ty v).run P w=.ok () w:=by
 rw[Instr.checkKey];simp only[Sem.run_bind,run_underlying hu,Result.andThen_ok]
 cases k<;>cases d<;>simp[CW]at hk<;>cases v<;>rfl
theorem lj {e:Bool}{n:Nat}:∀(fs:List Field) (off:Nat) (ks:List rG) (cs:List T) (xs:Array Value),flat P fs off ks=true→cs.length=ks.length →
  (∀(i:Nat) (t:T),cs[i]?=some t→∃v,xs[off+i]?=some v∧VR g w t v) →
  (forIn fs PUnit.unit (fun f _=>if f.name≠"_" then (do let x ← part f.type xs f.offset;Instr.checkKey e (n+1) f.type x;pure (ForInStep.yield PUnit.unit))
   else pure (ForInStep.yield PUnit.unit)):Sem PUnit).run P w=.ok PUnit.unit w
 | [],off,ks,cs,xs,hf,hl,hc=>by simp
 | f :: fs,off,ks,cs,xs,hf,hl,hc=>by
  cases ks with
  | nil=>simp[flat]at hf
  | cons k ks =>
   cases cs with
   | nil=>simp at hl
   | cons c cs =>
    simp only[flat,Bool.and_eq_true,beq_iff_eq,bne_iff_ne]at hf
    obtain⟨⟨⟨w4,yI⟩,CX⟩,cA⟩:=hf
    cases hu:P.underlying f.type with
    | none=>simp[hu]at CX
    | some de =>
     simp[hu]at CX
     obtain⟨va,Dl,o6⟩:=hc 0 c rfl
     simp only[Nat.add_zero]at Dl
     have ih:=lj (e:=e) (n:=n) fs (off+1) ks cs xs cA (by simpa using hl) (fun i t hi=>by have:=hc (i+1) t (by simpa using hi);rwa[show off+1+i=off+(i+1) by omega])
     simp only[List.forIn_cons,Sem.run_bind,yI,ne_eq,not_false_eq_true,if_true,w4,ma hu CX Dl,Result.andThen_ok,yO hu CX,Sem.run_pure]
     exact ih
theorem nP:∀(ks:List rG) (cs:List T),eg ks cs=true→cs.length=ks.length
 | [],[],_=>rfl
 | _ :: ks,_ :: cs,h=>by simp[eg]at h;simp[nP ks cs h.2]
 | [],_ :: _,h=>by simp[eg]at h
 | _ :: _,[],h=>by simp[eg]at h
theorem jd {e:Bool}{ty:TypeId}{kt:KT}{k:T}{vk:Value}(ic:kv P ty kt=true)(hk:VR g w k vk)(h:k.gE kt=true):(Instr.checkKey e 10000 ty vk).run P w=.ok () w:=by
 cases kt with
 | sc t =>
  simp only[kv]at ic
  cases hu:P.underlying ty with
  | none=>simp[hu]at ic
  | some d=>simp[hu]at ic;exact yO (n:=9999) hu ic
 | st ks =>
  simp only[kv]at ic
  cases hu:P.underlying ty with
  | none=>simp[hu]at ic
  | some d =>
   cases d<;>simp[hu]at ic
   rename_i fs
   cases k<;>simp[T.gE]at h
   rename_i cs
   obtain⟨xs,rfl,CZ,_⟩:=hk.ey
   show(Instr.checkKey e (9998+1+1) ty _).run P w=_
   rw[Instr.checkKey];simp only[Sem.run_bind,run_underlying hu,Result.andThen_ok]
   rw[←Array.forIn_toList]
   rw[lj (g:=g) (e:=e) (n:=9998) fs.toList 0 ks cs xs.toArray ic.1 (nP _ _ h) (fun i t hi=>by simpa using CZ.eC i t hi)]
   rfl
theorem yP {n:Nat}{ty:TypeId}{kt:KT}{a b:T}{va vb:Value}{r:Bool}(ic:kv P ty kt=true)(ha:VR g w a va)(hb:VR g w b vb)(hk:a.gE kt=true)(he:gp a b=some r) :
  (Op.equalIn (n+1+1) ty va vb).run P w=.ok r w:=by
 cases kt with
 | sc t =>
  simp only[kv]at ic
  cases hu:P.underlying ty with
  | none=>simp[hu]at ic
  | some d =>
   simp[hu]at ic
   have FG:gM a b=some r:=by
    cases a<;>simp[T.gE]at hk<;>(first|exact he|(cases t<;>simp[T.ub]at hk))
   exact vo hu ic ha hb hk FG
 | st ks =>
  simp only[kv]at ic
  cases hu:P.underlying ty with
  | none=>simp[hu]at ic
  | some d =>
   cases d<;>simp[hu]at ic
   rename_i fs
   cases a<;>simp[T.gE]at hk
   rename_i cs
   cases b<;>simp[gp,gM]at he
   rename_i ds
   obtain⟨xs,rfl,CZ,_⟩:=ha.ey
   obtain⟨ys,rfl,N6,_⟩:=hb.ey
   exact pD hu ic.1 (by simpa using ic.2) hk CZ N6 he n
theorem uh {t:rG}{d:TypeDesc}{a b:T}{va vb:Value}{r:Bool}(hd:CW t d=true)(ha:VR g w a va)(hb:VR g w b vb)(hk:a.ub t=true)(he:gp a b=some r):Instr.sameNow d va vb=some r:=by
 cases t<;>cases d<;>simp[CW]at hd<;>cases ha<;>simp[T.ub]at hk<;>cases hb<;>simp[gp,gM]at he
 ·obtain⟨rfl,rfl⟩:=he;simp[Instr.sameNow]
 ·subst he;simp[Instr.sameNow,gn,beq_toListBytes]
 ·subst he;simp[Instr.sameNow]
theorem qC {ty:TypeId}{kt:KT}{k:T}{vk:Value}(ic:kv P ty kt=true)(hk:VR g w k vk)(h:k.gE kt=true)(es:List (T×T))(aC:List MapEntry)(hl:aC.length=es.length)
  (hh:∀(i:Nat) (e:T×T) (m:MapEntry),es[i]?=some e→aC[i]?=some m→VR g w e.1 m.key∧VR g w e.2 m.val) {r:Option Nat} (hr:cw k es=some r) :
  (Instr.findKey ty vk aC).run P w=.ok (r.bind fun i=>(aC[i]?).map fun m=>(i,m.val)) w:=by
 cases kt with
 | sc t =>
  simp only[kv]at ic
  cases hu:P.underlying ty with
  | none=>simp[hu]at ic
  | some d =>
   simp[hu]at ic
   have key:∀(es:List (T×T)) (aC:List MapEntry) (j:Nat) (r:Option Nat),aC.length=es.length→(∀(i:Nat) (e:T×T) (m:MapEntry),es[i]?=some e→aC[i]?=some m→VR g w e.1 m.key∧VR g w e.2 m.val) →
     cw k es=some r→Instr.findNow d vk aC j=some (r.bind fun i=>(aC[i]?).map fun m=>(j+i,m.val)):=by
    intro es
    induction es with
    | nil =>
     intro aC j r hl _ hr
     simp[cw]at hr;subst hr
     cases aC with
     | nil=>rfl
     | cons _ _=>simp at hl
    | cons e es ih =>
     intro aC j r hl hh hr
     cases aC with
     | nil=>simp at hl
     | cons m aC =>
      have h0:=hh 0 e m rfl rfl
      simp only[cw]at hr
      cases he:gp k e.1 with
      | none=>simp[he]at hr
      | some b =>
       have hs:=uh ic hk h0.1 h he
       cases b with
       | true=>simp[he]at hr;subst hr;simp[Instr.findNow,hs]
       | false =>
        simp only[he,Option.map_eq_some_iff]at hr
        obtain⟨r',h1,rfl⟩:=hr
        simp only[Instr.findNow,hs]
        rw[ih aC (j+1) r' (by simpa using hl) (fun i e' m' a b=>hh (i+1) e' m' (by simpa using a) (by simpa using b)) h1]
        cases r' with
        | none=>rfl
        | some i=>simp;cases aC[i]?<;>simp;omega
   have:=key es aC 0 r hl hh hr
   simp only[Instr.findKey,Sem.run_bind,run_underlying hu,Result.andThen_ok,this,Sem.run_pure]
   simp
 | st ks =>
  have Ob:=ic
  simp only[kv]at ic
  cases hu:P.underlying ty with
  | none=>simp[hu]at ic
  | some d =>
   cases d<;>simp[hu]at ic
   rename_i fs
   have key:∀(es:List (T×T)) (aC:List MapEntry) (j:Nat) (r:Option Nat),aC.length=es.length→(∀(i:Nat) (e:T×T) (m:MapEntry),es[i]?=some e→aC[i]?=some m→VR g w e.1 m.key∧VR g w e.2 m.val) →
     cw k es=some r→(Instr.findAsking ty vk aC j).run P w=.ok (r.bind fun i=>(aC[i]?).map fun m=>(j+i,m.val)) w:=by
    intro es
    induction es with
    | nil =>
     intro aC j r hl _ hr
     simp[cw]at hr;subst hr
     cases aC with
     | nil=>rfl
     | cons _ _=>simp at hl
    | cons e es ih =>
     intro aC j r hl hh hr
     cases aC with
     | nil=>simp at hl
     | cons m aC =>
      have h0:=hh 0 e m rfl rfl
      simp only[cw]at hr
      cases he:gp k e.1 with
      | none=>simp[he]at hr
      | some b =>
       have hs:(Op.equal ty vk m.key).run P w=.ok b w:=yP (n:=9998) Ob hk h0.1 h he
       cases b with
       | true=>simp[he]at hr;subst hr;simp[Instr.findAsking,hs]
       | false =>
        simp only[he,Option.map_eq_some_iff]at hr
        obtain⟨r',h1,rfl⟩:=hr
        simp only[Instr.findAsking,Sem.run_bind,hs,Result.andThen_ok,Bool.false_eq_true,if_false]
        rw[ih aC (j+1) r' (by simpa using hl) (fun i e' m' a b=>hh (i+1) e' m' (by simpa using a) (by simpa using b)) h1]
        cases r' with
        | none=>rfl
        | some i=>simp;cases aC[i]?<;>simp;omega
   have r6:=key es aC 0 r hl hh hr
   cases aC with
   | nil =>
    simp only[Instr.findKey,Sem.run_bind,run_underlying hu,Result.andThen_ok,Instr.findNow,Sem.run_pure]
    exact r6
   | cons m aC =>
    have:Instr.findNow (.struct fs) vk (m :: aC) 0=none:=by simp[Instr.findNow,Instr.sameNow]
    simp only[Instr.findKey,Sem.run_bind,run_underlying hu,Result.andThen_ok,this]
    simpa using r6
def yQ (w:World)(vm:Value)(aC:Array MapEntry):Prop:=(vm=.map none∧aC=#[])∨∃r c,vm=.map (some r)∧w.heap[r]?=some (.map aC c)
theorem w9 {m:T}{vm:Value}{es:List (T×T)}(h:SR w0 g H w)(hm:VR g w m vm)(iS:eJ H m=some es):∃aC,yQ w vm aC∧cS g w es aC:=by
 cases hm<;>simp[eJ]at iS
 ·subst iS;exact⟨#[],.inl ⟨rfl,rfl⟩,⟨rfl,by simp⟩⟩
 ·rename_i b r' o q hφ
  cases hb:H[b]? with
  | none=>simp[hb]at iS
  | some y =>
   cases y<;>simp[hb]at iS
   ·subst iS
    obtain⟨_,aC,c,h2,h3,_⟩:=h.gF b _ hb r' o q hφ
    exact⟨aC,.inr ⟨r',c,rfl,h2⟩,h3⟩
   ·subst iS
    obtain⟨r2,o',q',iV,_,aC,c,h2,h3,_⟩:=h.gF b _ hb
    rw[hφ]at iV;cases iV
    exact⟨aC,.inr ⟨r',c,rfl,h2⟩,h3⟩
theorem nQ {ty key elem:TypeId}{ei:TypeInfo}{zv vm vk:Value}{ok:Bool}{aC:Array MapEntry}{r:Option (Nat×Value)}(hu:P.underlying ty=some (.map key elem))(hi:P.info? elem=some ei)(hz:ei.zero=some zv)
  (he:yQ w vm aC) (hc:(Instr.checkKey aC.isEmpty 10000 key vk).run P w=.ok () w) (hf:(Instr.findKey key vk aC.toList).run P w=.ok r w) :
  (Instr.lookup ty vm vk ok).run P w=.ok (match r with|some (_,v)=>if ok then .tuple #[v,.bool true]else v|none=>if ok then .tuple #[zv,.bool false]else zv) w:=by
 rcases he with⟨rfl,rfl⟩|⟨rr,c,rfl,h2⟩
 ·have nk:(Instr.findKey key vk []).run P w=.ok r w:=hf
  have mc:(Instr.checkKey true 10000 key vk).run P w=.ok () w:=hc
  simp only[Instr.lookup,Sem.run_bind,run_underlying hu,Result.andThen_ok]
  cases r with
  | none=>simp[mc,nk,zeroValue,aS hi,hz]
  | some x=>obtain⟨i,v⟩:=x;simp[mc,nk]
 ·simp only[Instr.lookup,Sem.run_bind,run_underlying hu,Result.andThen_ok]
  cases r with
  | none=>simp[getObj,Sem.run,h2,hc,hf,zeroValue,aS hi,hz]
  | some x=>obtain⟨i,v⟩:=x;simp[getObj,Sem.run,h2,hc,hf]
theorem vz {ty key elem:TypeId}{ei:TypeInfo}{zv:Value}{kt:KT}{z m k t:T}{ok:Bool}{vm vk:Value}{es:List (T×T)}{r:Option Nat}(hu:P.underlying ty=some (.map key elem))(hi:P.info? elem=some ei)(hz:ei.zero=some zv)(oW:ku zv=some z)
  (ic:kv P key kt=true) (h:SR w0 g H w) (hm:VR g w m vm) (hk:VR g w k vk) (ui:k.gE kt=true)
  (iS:eJ H m=some es) (hr:cw k es=some r)
  (ht:(match r with|some i=>(es[i]?).map fun e=>if ok then T.bC [e.2,.bool true]else e.2|none=>some (if ok then .bC [z,.bool false]else z))=some t):bp P w0 g H w (Instr.lookup ty vm vk ok) t H:=by
 obtain⟨aC,Nt,hE⟩:=w9 h hm iS
 have hf:=qC ic hk ui es aC.toList (by simpa using hE.1) (fun i e m a b=>hE.2 i e m a (by simpa using b)) hr
 have hc:=jd (e:=aC.isEmpty) ic hk ui
 have RH:VR g w z zv:=jD oW
 cases r with
 | none =>
  simp only[Option.some.injEq]at ht
  subst ht
  refine bp.same h (nQ hu hi hz Nt hc hf) ?_
  cases ok
  ·exact RH
  ·exact a6.bC (a6.cons RH (a6.cons (.bool _) a6.nil))
 | some i =>
  cases he:es[i]? with
  | none=>simp[he]at ht
  | some e =>
   have aE:i<aC.size:=by rw[hE.1];exact(List.getElem?_eq_some_iff.1 he).1
   have DC:aC[i]?=some aC[i]:=Array.getElem?_eq_getElem aE
   have hv:=(hE.2 i e _ he DC).2
   simp only[he,Option.map_some,Option.some.injEq]at ht
   subst ht
   have hx:((some i:Option Nat).bind fun i=>(aC.toList[i]?).map fun m=>(i,m.val))=some (i,aC[i].val):=by simp[aE]
   rw[hx]at hf
   refine bp.same h (nQ hu hi hz Nt hc hf) ?_
   cases ok
   ·exact hv
   ·exact a6.bC (a6.cons hv (a6.cons (.bool _) a6.nil))
theorem DD {vs:List T}{i:Nat}{t:T}{vx:Value}(h:SR w0 g H w)(hx:VR g w (.bC vs) vx)(he:vs[i]?=some t):bp P w0 g H w (Instr.extract vx i) t H:=by
 obtain⟨xs,rfl,CZ⟩:=hx.Dg
 obtain⟨v,h1,h2⟩:=CZ.eC i t he
 exact bp.same h (by simp at h1;simp[Instr.extract,h1]) h2
theorem Hb {rt:TypeId}{gw:Array TypeId}{k k':IntKind}{a b:Int}{vx vy:Value}(h:SR w0 g H w)(hx:VR g w (.int k a) vx)(hy:VR g w (.int k' b) vy):bp P w0 g H w (Builtin.min_ gw rt #[vx,vy]) (.int k (if b<a then b else a)) H:=by
 cases hx;cases hy
 exact bp.same h (by simp[Builtin.min_,Builtin.min2]) (.int _ _)
theorem Hc {rt:TypeId}{gw:Array TypeId}{k k':IntKind}{a b:Int}{vx vy:Value}(h:SR w0 g H w)(hx:VR g w (.int k a) vx)(hy:VR g w (.int k' b) vy):bp P w0 g H w (Builtin.max_ gw rt #[vx,vy]) (.int k (if b>a then b else a)) H:=by
 cases hx;cases hy
 exact bp.same h (by simp[Builtin.max_,Builtin.max2]) (.int _ _)
end
section
variable {P:Program} {w0 w:World} {g:Ctx} {H:ae}
def ff:Nat→Nat→Prop:=fun _ _=>False
def gz:Nat→Prop:=fun _=>False
theorem Tr.drew (w:World):Tr w w.drew ff gz:=⟨Nat.le_refl _,fun _ _ _ _=>rfl,fun _ _ _=>rfl,fun _ _ _ h=>h,fun _ _ _ _ h=>h,fun _ _ _ _=>rfl,fun _ _ h=>bL h,rfl,rfl⟩
theorem Tr.refl (w:World):Tr w w ff gz:=⟨Nat.le_refl _,fun _ _ _ _=>rfl,fun _ _ _=>rfl,fun _ _ _ h=>h,fun _ _ _ _ h=>h,fun _ _ _ _=>rfl,fun _ _ h=>bL h,rfl,rfl⟩
theorem Tr.alloc (w:World)(o:Obj)(ho:dK o=true∨∃c t,o=.cells c t):Tr w (w.alloc o) ff gz where
 size:=by simp
 cell r j hr _:=World.cell?_alloc_lt w o ⟨r,j,none⟩ hr
 m8 r j hr:=World.frozen?_alloc_old w o ⟨r,j,none⟩ (Nat.ne_of_lt hr)
 jc r j hr h:=by rw[World.cell?_alloc_lt w o ⟨r,j,none⟩ hr];exact h
 maps r x _ _ h:=by
  have hr:r<w.heap.size:=(Array.getElem?_eq_some_iff.1 h).1
  simp only[World.alloc,Array.getElem?_push];rw[if_neg (by omega)];exact h
 jb r hr _ _:=by simp only[World.alloc,Array.getElem?_push];rw[if_neg (by omega)]
 uf r j hr:=by
  by_cases e:r=w.heap.size
  ·subst e
   have e1:(w.alloc o).heap[w.heap.size]?=some o:=by show(w.heap.push o)[w.heap.size]?=some o;simp
   unfold World.frozen?
   rw[e1]
   rcases ho with ho|⟨c,t,rfl⟩
   ·cases o<;>simp[dK]at ho<;>rfl
   ·simp
  ·rw[World.frozen?_alloc_old w o ⟨r,j,none⟩ e];exact bL hr
 env:=⟨rfl,rfl⟩
theorem Tr.trans {w w' JK:World}{S:Nat→Nat→Prop}{M:Nat→Prop}(h:Tr w w' S M)(h':Tr w' JK S M):Tr w JK S M where
 size:=Nat.le_trans h.size h'.size
 cell r j hr hs:=(h'.cell r j (Nat.lt_of_lt_of_le hr h.size) hs).trans (h.cell r j hr hs)
 m8 r j hr:=(h'.m8 r j (Nat.lt_of_lt_of_le hr h.size)).trans (h.m8 r j hr)
 jc r j hr hs:=h'.jc r j (Nat.lt_of_lt_of_le hr h.size) (h.jc r j hr hs)
 maps r x hm hs h1:=h'.maps r x hm hs (h.maps r x hm hs h1)
 jb r hr hm hs:=(h'.jb r (Nat.lt_of_lt_of_le hr h.size) hm hs).trans (h.jb r hr hm hs)
 uf r j hr:=by
  by_cases hw:r<w'.heap.size
  ·rw[h'.m8 r j hw];exact h.uf r j hr
  ·exact h'.uf r j (by omega)
 env:=⟨h'.env.1.trans h.env.1,h'.env.2.trans h.env.2⟩
theorem bN (r:Nat):∀(vs:List Value) (o:Nat) (w:World) (r' j:Nat),¬(r'=r∧o≤j∧j<o+vs.length)→(w.setCells r o vs).cell? ⟨r',j,none⟩=w.cell? ⟨r',j,none⟩
 | [],_,_,_,_,_=>rfl
 | v :: vs,o,w,r',j,h=>by
  rw[World.setCells,bN r vs (o+1) _ r' j (by simp at h ⊢;omega),World.cell?_setCell_other]
  intro e
  simp at e
  exact h ⟨e.1.symm,by omega,by simp;omega⟩
theorem bQ (r:Nat):∀(vs:List Value) (o:Nat) (w:World),(∀j,o≤j→j<o+vs.length→(w.cell? ⟨r,j,none⟩).isSome=true)→∀(i:Nat) (v:Value),vs[i]?=some v→(w.setCells r o vs).cell? ⟨r,o+i,none⟩=some v
 | [],_,_,_,i,v,h=>by simp at h
 | u :: vs,o,w,hs,i,v,h=>by
  rw[World.setCells]
  cases i with
  | zero =>
   simp at h;subst h
   rw[bN r vs (o+1) _ r _ (by omega)]
   obtain⟨x,hx⟩:=Option.isSome_iff_exists.1 (hs o (Nat.le_refl _) (by simp))
   exact World.cell?_setCell_same w ⟨r,o,none⟩ u hx
  | succ i =>
   have:=bQ r vs (o+1) (w.setCell ⟨r,o,none⟩ u) (fun j h1 h2=>by
    rw[World.cell?_setCell_other _ _ _ _ (by simp;omega)]
    exact hs j (by omega) (by simp;omega)) i v (by simpa using h)
   rwa[show o+(i+1)=o+1+i by omega]
theorem cJ (r:Nat):∀(vs:List Value) (o:Nat) (w:World),(w.setCells r o vs).heap.size=w.heap.size
 | [],_,_=>rfl
 | v :: vs,o,w=>by rw[World.setCells,cJ r vs,World.size_setCell]
theorem jW (r:Nat):∀(vs:List Value) (o:Nat) (w:World) (r':Nat),r'≠r→(w.setCells r o vs).heap[r']?=w.heap[r']?
 | [],_,_,_,_=>rfl
 | v :: vs,o,w,r',h=>by
  rw[World.setCells,jW r vs _ _ r' h]
  simp only[World.setCell,Array.getElem?_modify];rw[if_neg (fun e=>h e.symm)]
theorem ll (r:Nat):∀(vs:List Value) (o:Nat) (w:World) (r':Nat) (x:Obj),dK x=true→w.heap[r']?=some x→(w.setCells r o vs).heap[r']?=some x
 | [],_,_,_,_,_,h=>h
 | v :: vs,o,w,r',x,hs,h=>by
  rw[World.setCells]
  refine ll r vs _ _ r' x hs ?_
  simp only[World.setCell,Array.getElem?_modify]
  split
  ·rename_i e;rw[h];cases x<;>simp[dK]at hs<;>rfl
  ·exact h
theorem lr (r:Nat):∀(vs:List Value) (o:Nat) (w:World),(w.setCells r o vs).os=w.os∧(w.setCells r o vs).output=w.output
 | [],_,_=>⟨rfl,rfl⟩
 | v :: vs,o,w=>by rw[World.setCells];exact lr r vs _ _
def r9 (r o n:Nat):Nat→Nat→Prop:=fun r' j=>r'=r∧o≤j∧j<o+n
theorem Tr.setCells (w:World)(r o:Nat)(vs:List Value)(hs:∀j,o≤j→j<o+vs.length→(w.cell? ⟨r,j,none⟩).isSome=true):Tr w (w.setCells r o vs) (r9 r o vs.length) gz where
 size:=by rw[cJ];exact Nat.le_refl _
 cell r' j _ h:=bN r vs o w r' j h
 m8 r' j _:=World.frozen?_setCells r vs o w _
 jc r' j _ h:=by
  by_cases e:r'=r∧o≤j∧j<o+vs.length
  ·obtain⟨rfl,e1,e2⟩:=e
   have hi:j-o<vs.length:=by omega
   have:=bQ r' vs o w hs (j-o) _ (List.getElem?_eq_getElem hi)
   rw[show o+(j-o)=j by omega]at this
   rw[this];rfl
  ·rw[bN r vs o w r' j e];exact h
 maps r' x _ hs h:=ll r vs o w r' x hs h
 jb r' _ _ h:=by
  by_cases e:r'=r
  ·cases vs with
   | nil=>rfl
   | cons v vs=>exact absurd ⟨e,Nat.le_refl _,by simp⟩ (h o)
  ·exact jW r vs o w r' e
 uf r' j hr:=by rw[World.frozen?_setCells];exact bL hr
 env:=lr r vs o w
def Ctx.row (g:Ctx)(r:Nat)(f:Nat→Ow):Ctx:={ g with κ:=fun r' j=>if r'=r then f j else g.κ r' j }
def Ctx.at (g:Ctx)(b:Nat)(x:Nat×Nat×Nat):Ctx:={ g with φ:=fun b'=>if b'=b then some x else g.φ b' }
def Ctx.tok (g:Ctx)(t e:Nat)(x:Nat×Nat×Nat):Ctx:={ g with π:=fun t' e'=>if t'=t∧e'=e then some x else g.π t' e' }
theorem Le.fJ {w':World}{g':Ctx}{S:Nat→Nat→Prop}{M:Nat→Prop}(tr:Tr w w' S M)(hφ:∀b x,g.φ b=some x→g'.φ b=some x)(hκ:∀r o,g.κ r o=.hC→g'.κ r o=.hC)(hπ:∀t e x,g.π t e=some x→g'.π t e=some x)
  (hS:∀r j,S r j→g.κ r j≠.hC) (SU:g'.ck=g.ck:=by rfl):Le g w g' w' :=
 ⟨hφ,hκ,hπ,fun r o v hk hc=>by rw[tr.cell r o (hY hc) (fun hs=>hS r o hs hk)];exact hc,SU⟩
theorem SR.hC {c:Array Value}{ty:TypeId}{w1:World}(h:SR w0 g H w)(tr:Tr w w1 ff gz)(hz:w1.heap.size=w.heap.size) :
  Le g w (g.row w.heap.size fun _=>.hC) (w1.alloc (.cells c ty))∧SR w0 (g.row w.heap.size fun _=>.hC) H (w1.alloc (.cells c ty))∧Fr g H (g.row w.heap.size fun _=>.hC) H ∧
  ∀(j:Nat) (v:Value),c[j]?=some v→ue (g.row w.heap.size fun _=>.hC) (w1.alloc (.cells c ty)) w.heap.size j v:=by
 have sd:=tr.trans (Tr.alloc w1 (.cells c ty) (.inr ⟨_,_,rfl⟩))
 have le:Le g w (g.row w.heap.size fun _=>.hC) (w1.alloc (.cells c ty)):=Le.fJ sd (fun _ _ h=>h) (fun r o hk=>by simp only[Ctx.row];split;rfl;exact hk) (fun _ _ _ h=>h) (fun _ _ hs=>hs.elim)
 refine⟨le,?_,⟨Nat.le_refl _,fun _ _ a _ b=>⟨a,b⟩⟩,fun j v hj=>⟨by simp[Ctx.row],?_⟩⟩
 ·refine h.step (fun _=>False) sd le (fun _ _ hs=>hs.elim) (fun _ hm=>hm.elim) (fun r o hr=>?_) h.nH h.ft (fun _ _ _=>rfl) (fun r j b _=>?_) (fun _ _ _ _=>rfl) (fun b x hx=>.inl ⟨fun hf=>hf,hx⟩)
  ·simp at hr
   simp only[Ctx.row];rw[if_neg (by omega)];exact h.fresh r o (by omega)
  ·have aY:∀ow,g.κ r j=ow→ow≠.free→r≠w.heap.size:=by rintro ow e hn rfl;exact hn (e▸h.fresh _ j (Nat.le_refl _))
   constructor<;>intro e<;>simp only[Ctx.row]<;>rw[if_neg (aY _ e (by simp))]<;>exact e
 ·rw[←hz,World.cell?_alloc_new];exact hj
theorem SR.mut {c:Array Value}{ty:TypeId}{w1:World}{H':ae}{b:Nat}{cs:List T}(h:SR w0 g H w)(tr:Tr w w1 ff gz)(hz:w1.heap.size=w.heap.size)
  (hb:H'[b]?=some (.cells cs)) (hn:g.φ b=none) (hH:∀b' x,b'≠b→H'[b']?=some x→H[b']?=some x∨x=.dead) (hl:H.length≤H'.length) (ay:∀b' x,H[b']?=some x→(∀e,x≠.tok e)→g.φ b'=none→b'≠b→H'[b']?=some x)
  (hc:∀(i:Nat) (t:T),cs[i]?=some t→t.one=true∧∃v,c[i]?=some v∧VR g w t v) :
  Le g w ((g.row w.heap.size fun _=>.mut b).at b (w.heap.size,0,c.size)) (w1.alloc (.cells c ty))∧SR w0 ((g.row w.heap.size fun _=>.mut b).at b (w.heap.size,0,c.size)) H' (w1.alloc (.cells c ty)) ∧
  (∀b' x,H[b']?=some x→(∀e,x≠.tok e)→g.φ b'=none→b'≠b→H'[b']?=some x∧((g.row w.heap.size fun _=>.mut b).at b (w.heap.size,0,c.size)).φ b'=none):=by
 have sd:=tr.trans (Tr.alloc w1 (.cells c ty) (.inr ⟨_,_,rfl⟩))
 have aY:∀r j ow,g.κ r j=ow→ow≠.free→r≠w.heap.size:=by rintro r j ow e hn rfl;exact hn (e▸h.fresh _ j (Nat.le_refl _))
 have le:Le g w ((g.row w.heap.size fun _=>.mut b).at b (w.heap.size,0,c.size)) (w1.alloc (.cells c ty)):=Le.fJ sd
  (fun b' x hx=>by simp only[Ctx.at,Ctx.row];split;rename_i e;subst e;rw[hn]at hx;simp at hx;exact hx)
  (fun r o hk=>by simp only[Ctx.row,Ctx.at];rw[if_neg (aY r o _ hk (by simp))];exact hk) (fun _ _ _ h=>h) (fun _ _ hs=>hs.elim)
 refine⟨le,?_,fun b' x a a' d e=>⟨ay b' x a a' d e,by simp only[Ctx.at,Ctx.row];rw[if_neg e];exact d⟩⟩
 refine h.step (fun b'=>b'=b) sd le (fun _ _ hs=>hs.elim) (fun _ hm=>hm.elim) (fun r o hr=>?_) (fun b' x hx=>?_) (fun t e x hx=>Nat.lt_of_lt_of_le (h.ft t e x hx) hl) (fun b' _ eR=>?_) (fun r j b' eR=>?_) (fun _ _ _ _=>rfl) (fun b' x hx=>?_)
 ·simp at hr
  simp only[Ctx.row,Ctx.at];rw[if_neg (by omega)];exact h.fresh r o (by omega)
 ·simp only[Ctx.at,Ctx.row]at hx
  split at hx
  ·rename_i e;subst e;exact(List.getElem?_eq_some_iff.1 hb).1
  ·exact Nat.lt_of_lt_of_le (h.nH b' x hx) hl
 ·simp only[Ctx.at,Ctx.row];rw[if_neg eR]
 ·constructor<;>intro e<;>simp only[Ctx.row,Ctx.at]<;>rw[if_neg (aY r j _ e (by simp))]<;>exact e
 ·by_cases e:b'=b
  ·subst e
   right
   rw[hb]at hx;cases hx
   intro r o q hq
   simp only[Ctx.at,if_true,Option.some.injEq,Prod.mk.injEq]at hq
   obtain⟨rfl,rfl,rfl⟩:=hq
   have r7:∀i,i<cs.length→i<c.size:=fun i hi=>by
    obtain⟨_,v,hv,_⟩:=hc i _ (List.getElem?_eq_getElem hi)
    exact(Array.getElem?_eq_some_iff.1 hv).1
   refine⟨?_,fun j _ hj=>⟨by simp[Ctx.row,Ctx.at],by rw[←hz];simp,by rw[←hz,World.cell?_alloc_new,Array.getElem?_eq_getElem hj];rfl⟩,fun i t hi=>?_⟩
   ·cases lg:cs.length with
    | zero=>omega
    | succ n=>have:=r7 n (by omega);omega
   ·obtain⟨h1,v,h2,h3⟩:=hc i t hi
    exact⟨h1,v,by rw[←hz,World.cell?_alloc_new,Nat.zero_add];exact h2,h3.mono le⟩
  ·rcases hH b' x e hx with ie|rfl
   ·exact .inl ⟨e,ie⟩
   ·right;trivial
theorem dm (H:ae)(x:B):(H++[x])[H.length]?=some x:=by simp
theorem bO {H:ae}{x y:B}{b:Nat}(hb:b≠H.length)(h:(H++[x])[b]?=some y):H[b]?=some y:=by
 rw[List.getElem?_append]at h
 split at h
 ·exact h
 ·rename_i aE
  have:b-H.length≠0:=by omega
  cases hk:b-H.length with
  | zero=>omega
  | succ n=>simp[hk]at h
theorem fu {H:ae}{x y:B}{b:Nat}(h:H[b]?=some y):(H++[x])[b]?=some y:=by
 rw[List.getElem?_append_left (List.getElem?_eq_some_iff.1 h).1];exact h
theorem SR.DE (h:SR w0 g H w){b:Nat}(hb:H.length≤b):g.φ b=none:=by
 cases e:g.φ b with
 | none=>rfl
 | some x=>have:=h.nH b x e;omega
theorem SR.Oc (h:SR w0 g H w){t e:Nat}(hb:H.length≤t):g.π t e=none:=by
 cases e':g.π t e with
 | none=>rfl
 | some x=>have:=h.ft t e x e';omega
theorem SR.fC {c:Array Value}{ty:TypeId}{w1:World}{cs:List T}(h:SR w0 g H w)(tr:Tr w w1 ff gz)(hz:w1.heap.size=w.heap.size)
  (hc:∀(i:Nat) (t:T),cs[i]?=some t→t.one=true∧∃v,c[i]?=some v∧VR g w t v) :
  ∃g',Le g w g' (w1.alloc (.cells c ty))∧SR w0 g' (H++[.cells cs]) (w1.alloc (.cells c ty))∧Fr g H g' (H++[.cells cs])∧g'.φ H.length=some (w.heap.size,0,c.size):=by
 obtain⟨le,sr,fr⟩:=h.mut (H':=H++[.cells cs]) (b:=H.length) (ty:=ty) tr hz (dm _ _) (h.DE (Nat.le_refl _)) (fun b' x e hx=>.inl (bO e hx)) (by simp) (fun b' x hx _ _ _=>fu hx) hc
 exact⟨_,le,sr,⟨by simp,fun b x a a' d=>fr b x a a' d (by have:=(List.getElem?_eq_some_iff.1 a).1;omega)⟩,by simp[Ctx.at]⟩
theorem a6.He {cs:List T}{vs:List Value}(h:a6 g w cs vs)(ho:bJ cs):∀(i:Nat) (t:T),cs[i]?=some t→t.one=true∧∃v,vs.toArray[i]?=some v∧VR g w t v :=
 fun i t hi=>⟨ho t (List.mem_of_getElem? hi),h.eC i t hi⟩
theorem xa {ty:TypeId}{i:TypeInfo}{zv:Value}{z:List T}(hi:P.info? ty=some i)(hz:i.zero=some zv)(hc:dy zv.cells.toList=some z)(h:SR w0 g H w) :
  bp P w0 g H w (Instr.alloc ty true (.tuple #[])) (.ptr H.length 0) (H++[.cells z]):=by
 obtain⟨hv,ho⟩:=cI (g:=g) (w:=w) _ _ hc
 obtain⟨g',le,sr,fr,hφ⟩:=h.fC (c:=zv.cells) (ty:=ty) (w1:=w) (Tr.refl w) rfl (by simpa using hv.He ho)
 refine⟨.pointer (some ⟨w.heap.size,0,none⟩),_,g',?_,le,sr,.ptr hφ,fr⟩
 simp[Instr.alloc,zeroValue,aS hi,hz,newVar,newRow]
theorem DF {ty:TypeId}{x:T}{cs:List T}{vx:Value}(h:SR w0 g H w)(hx:VR g w x vx)(hc:x.cells?=some cs) :
  bp P w0 g H w (Instr.box ty vx) (.ptr H.length 0) (H++[.cells cs]):=by
 obtain⟨hv,ho⟩:=gP hx hc
 obtain⟨g',le,sr,fr,hφ⟩:=h.fC (c:=vx.cells) (ty:=ty) (w1:=w) (Tr.refl w) rfl (by simpa using hv.He ho)
 refine⟨.pointer (some ⟨w.heap.size,0,none⟩),_,g',?_,le,sr,.ptr hφ,fr⟩
 simp[Instr.box,newVar,newRow]
theorem SR.yR {b:Nat}{H':ae}(h:SR w0 g H w)(hb:H'[b]?=some (.map []))(hn:g.φ b=none)(hH:∀b' x,b'≠b→H'[b']?=some x→H[b']?=some x)(hl:H.length≤H'.length) :
  Le g w ((g.row w.heap.size fun _=>.mut b).at b (w.heap.size,0,0)) (w.alloc (.map #[] 0))∧SR w0 ((g.row w.heap.size fun _=>.mut b).at b (w.heap.size,0,0)) H' (w.alloc (.map #[] 0)):=by
 have sd:=Tr.alloc w (.map #[] 0) (.inl rfl)
 have aY:∀r j ow,g.κ r j=ow→ow≠.free→r≠w.heap.size:=by rintro r j ow e hn rfl;exact hn (e▸h.fresh _ j (Nat.le_refl _))
 have le:Le g w ((g.row w.heap.size fun _=>.mut b).at b (w.heap.size,0,0)) (w.alloc (.map #[] 0)):=Le.fJ sd
  (fun b' x hx=>by simp only[Ctx.at,Ctx.row];split;rename_i e;subst e;rw[hn]at hx;simp at hx;exact hx)
  (fun r o hk=>by simp only[Ctx.row,Ctx.at];rw[if_neg (aY r o _ hk (by simp))];exact hk) (fun _ _ _ h=>h) (fun _ _ hs=>hs.elim)
 refine⟨le,?_⟩
 refine h.step (fun b'=>b'=b) sd le (fun _ _ hs=>hs.elim) (fun _ hm=>hm.elim) (fun r o hr=>?_) (fun b' x hx=>?_) (fun t e x hx=>Nat.lt_of_lt_of_le (h.ft t e x hx) hl) (fun b' _ eR=>?_) (fun r j b' eR=>?_) (fun _ _ _ _=>rfl) (fun b' x hx=>?_)
 ·simp at hr
  simp only[Ctx.row,Ctx.at];rw[if_neg (by omega)];exact h.fresh r o (by omega)
 ·simp only[Ctx.at,Ctx.row]at hx
  split at hx
  ·rename_i e;subst e;exact(List.getElem?_eq_some_iff.1 hb).1
  ·exact Nat.lt_of_lt_of_le (h.nH b' x hx) hl
 ·simp only[Ctx.at,Ctx.row];rw[if_neg eR]
 ·constructor<;>intro e<;>simp only[Ctx.row,Ctx.at]<;>rw[if_neg (aY r j _ e (by simp))]<;>exact e
 ·by_cases e:b'=b
  ·subst e
   right
   rw[hb]at hx;cases hx
   intro r o q hq
   simp only[Ctx.at,if_true,Option.some.injEq,Prod.mk.injEq]at hq
   obtain⟨rfl,rfl,rfl⟩:=hq
   exact⟨by simp[Ctx.row,Ctx.at],#[],0,by show(w.heap.push _)[w.heap.size]?=_;simp,⟨rfl,by simp⟩,by simp[dJ]⟩
  ·exact .inl ⟨e,hH b' x e hx⟩
theorem DG {ty:TypeId}(h:SR w0 g H w):bp P w0 g H w (Instr.makeMap ty none) (.map H.length) (H++[.map []]):=by
 obtain⟨le,sr⟩:=h.yR (H':=H++[.map []]) (b:=H.length) (dm _ _) (h.DE (Nat.le_refl _)) (fun b' x e hx=>bO e hx) (by simp)
 refine⟨.map (some w.heap.size),_,_,?_,le,sr,.map (r:=w.heap.size) (o:=0) (q:=0) (by simp[Ctx.at]),by simp,fun b x a _ d=>⟨fu a,?_⟩⟩
 ·simp[Instr.makeMap]
 ·have:=(List.getElem?_eq_some_iff.1 a).1
  simp only[Ctx.at,Ctx.row];rw[if_neg (by omega)];exact d
end
section
variable {P:Program} {w0 w:World} {g:Ctx} {H:ae}
theorem cB {H:ae}{b b':Nat}{x y:B}(aE:b<H.length)(h:(H.set b x)[b']?=some y):(b'=b∧y=x)∨(b'≠b∧H[b']?=some y):=by
 rw[List.getElem?_set]at h
 split at h
 ·rename_i e;subst e;simp[aE]at h;exact .inl ⟨rfl,h.symm⟩
 ·rename_i e;exact .inr ⟨fun e'=>e e'.symm,h⟩
theorem da {H:ae}{b b':Nat}{x y:B}(h:H[b']?=some y)(aY:b'≠b):(H.set b x)[b']?=some y:=by
 rw[List.getElem?_set,if_neg (fun e=>aY e.symm)];exact h
theorem SR.store {b off r o q:Nat}{cs ts:List T}{vs:List Value}(h:SR w0 g H w)(hb:H[b]?=some (.cells cs))(hφ:g.φ b=some (r,o,q))(hle:off+ts.length≤cs.length)(hv:a6 g w ts vs)(ho:bJ ts) :
  Le g w g (w.setCells r (o+off) vs)∧SR w0 g (H.set b (.cells (cs.take off++ts++cs.drop (off+ts.length)))) (w.setCells r (o+off) vs):=by
 have iW:b<H.length:=(List.getElem?_eq_some_iff.1 hb).1
 obtain⟨h1,h2,h3⟩:=h.gF b _ hb r o q hφ
 have hl:=hv.1
 have hs:∀j,o+off≤j→j<o+off+vs.length→(w.cell? ⟨r,j,none⟩).isSome=true:=fun j a c=>(h2 j (by omega) (by omega)).2.2
 have tr:=Tr.setCells w r (o+off) vs hs
 have hS:∀r' j,r9 r (o+off) vs.length r' j→g.κ r' j=.mut b:=by
  rintro r' j⟨rfl,a,c⟩;exact(h2 j (by omega) (by omega)).1
 have le:Le g w g (w.setCells r (o+off) vs):=Le.fJ tr (fun _ _ h=>h) (fun _ _ h=>h) (fun _ _ _ h=>h) (fun r' j dW e=>by rw[hS r' j dW]at e;cases e)
 refine⟨le,h.step (fun b'=>b'=b) tr le (fun r' j dW=>.inr (.inl ⟨b,hS r' j dW,rfl⟩)) (fun _ hm=>hm.elim) (fun r' j hr=>h.fresh r' j (by rwa[cJ]at hr)) (fun b' x hx=>by rw[List.length_set];exact h.nH b' x hx)
  (fun t e x hx=>by rw[List.length_set];exact h.ft t e x hx) (fun _ _ _=>rfl) (fun _ _ _ _=>⟨id,id⟩) (fun _ _ _ _=>rfl) (fun b' x hx=>?_)⟩
 rcases cB iW hx with⟨rfl,rfl⟩|⟨aY,ie⟩
 ·right
  intro r' o' q' iV
  rw[hφ]at iV;cases iV
  have hlen:(cs.take off++ts++cs.drop (off+ts.length)).length=cs.length:=by simp;omega
  refine⟨by rw[hlen];exact h1,fun j a c=>⟨(h2 j a c).1,by rw[World.frozen?_setCells];exact(h2 j a c).2.1,tr.jc r j ?_ (h2 j a c).2.2⟩,fun i t hi=>?_⟩
  ·obtain⟨x,hx⟩:=Option.isSome_iff_exists.1 (h2 j a c).2.2;exact hY hx
  ·have lY:i<cs.length:=by rw[←hlen];exact(List.getElem?_eq_some_iff.1 hi).1
   by_cases kx:off≤i∧i<off+ts.length
   ·have ht:ts[i-off]?=some t:=by
     rw[List.append_assoc,List.getElem?_append_right (by simp;omega),List.getElem?_append_left (by simp;omega)]at hi
     rw[←hi];congr 1;simp;omega
    have aE:i-off<vs.length:=by omega
    refine⟨ho t (List.mem_of_getElem? ht),vs[i-off],?_,(hv.2 _ t _ ht (List.getElem?_eq_getElem aE)).mono le⟩
    have:=bQ r vs (o+off) w hs (i-off) _ (List.getElem?_eq_getElem aE)
    rwa[show o+off+(i-off)=o+i by omega]at this
   ·have ht:cs[i]?=some t:=by
     by_cases aE:i<off
     ·rw[List.append_assoc,List.getElem?_append_left (by simp;omega),List.getElem?_take,if_pos aE]at hi;exact hi
     ·rw[List.getElem?_append_right (by simp;omega),List.getElem?_drop]at hi
      rw[←hi];congr 1;simp;omega
    obtain⟨a,v,Hf,Hg⟩:=h3 i t ht
    refine⟨a,v,?_,Hg.mono le⟩
    rw[bN r vs (o+off) w r (o+i) (by omega)];exact Hf
 ·exact .inl ⟨aY,ie⟩
theorem qD {ty:TypeId}{i:TypeInfo}{v:Value}{r o:Nat}(hi:P.info? ty=some i)(aQ:v.cells.size=i.size)(hc:∀j,j<v.cells.toList.length→(w.cell? ⟨r,o+j,none⟩).isSome=true)
  (hf:∀j,j<v.cells.toList.length→w.frozen? ⟨r,o+j,none⟩=false) (h1:∀x∈v.cells.toList,x.oneCell'=true) :
  (storeVar ty ⟨r,o,none⟩ v).run P w=.ok () (w.setCells r o v.cells.toList):=by
 have:=run_storeCells_cells (P:=P) r o v.cells.toList 0 w (by simpa using hc) (by simpa using hf) h1
 simp[storeVar,sizeOf,aS hi,aQ]
 simpa using this
theorem Hi {ty:TypeId}{i:TypeInfo}{p x:T}{vp vx:Value}{ts:List T}{H':ae}(hi:P.info? ty=some i)(h:SR w0 g H w)(hp:VR g w p vp)(hx:VR g w x vx)(hc:x.cells?=some ts)(hn:ts.length=i.size)(he:Db H ts p=some H') :
  ∃w' g',(Instr.storeAt ty vp vx).run P w=.ok () w'∧Le g w g' w'∧SR w0 g' H' w'∧Fr g H g' H':=by
 obtain⟨hv,ho⟩:=gP hx hc
 cases hp<;>simp only[Db]at he<;>(try (simp at he;done))
 rename_i b off r o q hφ
 cases hb:H[b]? with
 | none=>simp[hb]at he
 | some y =>
  cases y<;>simp only[hb]at he<;>(try (simp at he;done))
  rename_i cs
  split at he
  ·rename_i hle
   simp only[Option.some.injEq]at he;subst he
   have iW:b<H.length:=(List.getElem?_eq_some_iff.1 hb).1
   obtain⟨h1,h2,h3⟩:=h.gF b _ hb r o q hφ
   obtain⟨le,sr⟩:=h.store hb hφ hle hv ho
   have hl:=hv.1
   refine⟨_,g,?_,le,sr,by simp,fun b' y' a _ d=>⟨da a ?_,d⟩⟩
   ·have:=qD (P:=P) (w:=w) (ty:=ty) (r:=r) (o:=o+off) hi (v:=vx) (by rw[←hn,hl];simp) (fun j hj=>(h2 _ (by omega) (by omega)).2.2) (fun j hj=>(h2 _ (by omega) (by omega)).2.1) (hv.gv ho)
    simpa[Instr.storeAt,Instr.sureAddr]using this
   ·rintro rfl;rw[hφ]at d;cases d
  ·simp at he
def World.bu (w:World)(r:Nat)(o:Obj):World:={ w with heap:=w.heap.setIfInBounds r o }
theorem nR (w:World){r r':Nat}(o:Obj)(h:r'≠r):(World.bu w r o).heap[r']?=w.heap[r']?:=by
 unfold World.bu;simp only[Array.getElem?_setIfInBounds];rw[if_neg (fun e=>h e.symm)]
theorem nT (w:World){r:Nat}(o:Obj)(h:r<w.heap.size):(World.bu w r o).heap[r]?=some o:=by
 unfold World.bu;simp[h]
theorem sf (w:World){r:Nat}{x x':Obj}(hs:dK x=true)(dW:dK x'=true)(h:w.heap[r]?=some x)(a:Addr):(World.bu w r x').cell? a=w.cell? a:=by
 have aE:r<w.heap.size:=(Array.getElem?_eq_some_iff.1 h).1
 unfold World.cell?
 by_cases e:a.block=r
 ·rw[e,nT w _ aE,h]
  cases x<;>simp[dK]at hs<;>cases x'<;>simp[dK]at dW<;>rfl
 ·rw[nR w _ e]
theorem nU (w:World){r:Nat}{x x':Obj}(hs:dK x=true)(dW:dK x'=true)(h:w.heap[r]?=some x)(a:Addr):(World.bu w r x').frozen? a=w.frozen? a:=by
 have aE:r<w.heap.size:=(Array.getElem?_eq_some_iff.1 h).1
 unfold World.frozen?
 by_cases e:a.block=r
 ·rw[e,nT w _ aE,h]
  cases x<;>simp[dK]at hs<;>cases x'<;>simp[dK]at dW<;>rfl
 ·rw[nR w _ e]
theorem Tr.uj (w:World)(r:Nat){x x':Obj}(hs:dK x=true)(dW:dK x'=true)(h:w.heap[r]?=some x):Tr w (World.bu w r x') ff (fun r'=>r'=r) where
 size:=by simp[World.bu]
 cell r' j _ _:=sf w hs dW h _
 m8 r' j _:=nU w hs dW h _
 jc r' j _ hk:=by rw[sf w hs dW h];exact hk
 maps r' x hm _ hk:=by rw[nR w _ hm];exact hk
 jb r' _ hm _:=nR w _ hm
 uf r' j hr:=by rw[nU w hs dW h];exact bL hr
 env:=⟨rfl,rfl⟩
theorem SR.qE {b r o q:Nat}{es JR:List (T×T)}{aC nV:Array MapEntry}{c c':Nat}(h:SR w0 g H w)(hb:H[b]?=some (.map es))(hφ:g.φ b=some (r,o,q))(hr:w.heap[r]?=some (.map aC c))(hE:cS g w JR nV)(hB:dJ nV c') :
  Le g w g (World.bu w r (.map nV c'))∧SR w0 g (H.set b (.map JR)) (World.bu w r (.map nV c'))∧Fr g H g (H.set b (.map JR)):=by
 have iW:b<H.length:=(List.getElem?_eq_some_iff.1 hb).1
 obtain⟨h1,_⟩:=h.gF b _ hb r o q hφ
 have tr:=Tr.uj w r (x:=.map aC c) (x':=.map nV c') rfl rfl hr
 have le:Le g w g (World.bu w r (.map nV c')):=Le.fJ tr (fun _ _ h=>h) (fun _ _ h=>h) (fun _ _ _ h=>h) (fun _ _ hs=>hs.elim)
 refine⟨le,h.step (fun b'=>b'=b) tr le (fun _ _ hs=>hs.elim) (fun r' hm=>⟨b,by rw[hm];exact h1,rfl⟩) (fun r' j jE=>h.fresh r' j (by simpa[World.bu]using jE)) (fun b' x hx=>by rw[List.length_set];exact h.nH b' x hx)
  (fun t e x hx=>by rw[List.length_set];exact h.ft t e x hx) (fun _ _ _=>rfl) (fun _ _ _ _=>⟨id,id⟩) (fun _ _ _ _=>rfl) (fun b' x hx=>?_),by simp,fun b' x a _ d=>⟨da a (by rintro rfl;rw[hφ]at d;cases d),d⟩⟩
 rcases cB iW hx with⟨rfl,rfl⟩|⟨aY,ie⟩
 ·right
  intro r' o' q' iV
  rw[hφ]at iV;cases iV
  refine⟨h1,nV,c',?_,hE.mono le,hB⟩
  have aE:r<w.heap.size:=(Array.getElem?_eq_some_iff.1 hr).1
  simp[World.bu,aE]
 ·exact .inl ⟨aY,ie⟩
theorem mg {n:Nat}{a b:T}{va vb:Value}(ha:VR g w a va)(hb:VR g w b vb)(he:gM a b=some true):Instr.sameBits n va vb=true:=by
 cases ha<;>cases hb<;>simp[gM]at he
 ·obtain⟨rfl,rfl⟩:=he;cases n<;>simp[Instr.sameBits]
 ·subst he;cases n<;>simp[Instr.sameBits]
 ·rename_i s1 s2
  have e:(s1==s2)=true:=by rw[beq_toListBytes];exact he
  cases n<;>exact e
theorem lu {n:Nat}:∀(as bs:List T) (xs ys:List Value),a6 g w as xs→a6 g w bs ys→bA as bs=some true→xs.length=ys.length∧(xs.zip ys).all (fun (x,y)=>Instr.sameBits n x y)=true
 | [],[],xs,ys,hx,hy,_=>by
  have a:=hx.1;have b:=hy.1
  simp at a b
  have e1:xs=[]:=List.eq_nil_of_length_eq_zero (by omega)
  have e2:ys=[]:=List.eq_nil_of_length_eq_zero (by omega)
  subst e1;subst e2;simp
 | a :: as,b :: bs,xs,ys,hx,hy,he=>by
  cases xs with
  | nil=>have:=hx.1;simp at this
  | cons x xs =>
   cases ys with
   | nil=>have:=hy.1;simp at this
   | cons y ys =>
    simp only[bA]at he
    cases e1:gM a b with
    | none=>simp[e1]at he
    | some r1 =>
     cases e2:bA as bs with
     | none=>simp[e1,e2]at he
     | some r2 =>
      simp[e1,e2]at he
      obtain⟨rfl,rfl⟩:=he
      obtain⟨h1,h2⟩:=lu as bs xs ys hx.tail hy.tail e2
      exact⟨by simp[h1],by simp[mg hx.head hy.head e1];simpa using h2⟩
 | [],_ :: _,_,_,_,_,he=>by simp[bA]at he
 | _ :: _,[],_,_,_,_,he=>by simp[bA]at he
theorem nW {a b:T}{va vb:Value}(ha:VR g w a va)(hb:VR g w b vb)(he:gp a b=some true):Instr.sameBits 10000 va vb=true:=by
 by_cases h:∃as bs,a=.agg as∧b=.agg bs
 ·obtain⟨as,bs,rfl,rfl⟩:=h
  obtain⟨xs,rfl,hx,_⟩:=ha.ey
  obtain⟨ys,rfl,hy,_⟩:=hb.ey
  obtain⟨h1,h2⟩:=lu (n:=9999) as bs xs ys hx hy he
  show Instr.sameBits (9999+1) _ _=true
  rw[Instr.sameBits]
  simp[h1]
  simpa using h2
 ·have:gM a b=some true:=by
   cases a<;>first|exact he|(cases b<;>first|exact he|exact absurd ⟨_,_,rfl,rfl⟩ h)
  exact mg ha hb this
theorem nX:∀(k:T) (es:List (T×T)) (i:Nat),cw k es=some (some i)→∃e,es[i]?=some e∧gp k e.1=some true
 | k,[],i,h=>by simp[cw]at h
 | k,e :: es,i,h=>by
  simp only[cw]at h
  cases hk:gp k e.1 with
  | none=>simp[hk]at h
  | some b =>
   cases b with
   | true=>simp[hk]at h;subst h;exact⟨e,rfl,hk⟩
   | false =>
    simp only[hk,Option.map_eq_some_iff]at h
    obtain⟨r,h1,h2⟩:=h
    cases r with
    | none=>simp at h2
    | some j =>
     simp at h2;subst h2
     obtain⟨e',h3,h4⟩:=nX k es j h1
     exact⟨e',by simpa using h3,h4⟩
theorem cS.set {es:List (T×T)}{aC:Array MapEntry}(h:cS g w es aC){k v:T}{vk vv:Value}(hk:VR g w k vk)(hv:VR g w v vv)(i:Nat) :
  cS g w (es.set i (k,v)) (aC.modify i fun e=>{ e with key:=vk,val:=vv }):=by
 refine⟨by simp[h.1],fun j e m a b=>?_⟩
 rw[List.getElem?_set]at a
 rw[Array.getElem?_modify]at b
 split at a
 ·rename_i e'
  rw[if_pos e']at b
  subst e'
  split at a
  ·simp at a b
   obtain⟨m',_,rfl⟩:=b
   subst a
   exact⟨hk,hv⟩
  ·cases a
 ·rename_i e'
  rw[if_neg e']at b
  exact h.2 j e m a b
theorem cS.push {es:List (T×T)}{aC:Array MapEntry}(h:cS g w es aC){k v:T}{vk vv:Value}(hk:VR g w k vk)(hv:VR g w v vv)(c:Nat) :
  cS g w (es++[(k,v)]) (aC.push { key:=vk,val:=vv,born:=c }):=by
 refine⟨by simp[h.1],fun j e m a b=>?_⟩
 rw[Array.getElem?_push,h.1]at b
 rw[List.getElem?_append]at a
 split at b
 ·rename_i e'
  subst e'
  simp at a b
  subst a;subst b
  exact⟨hk,hv⟩
 ·rename_i e'
  split at a
  ·exact h.2 j e m a b
  ·have:j<aC.size:=(Array.getElem?_eq_some_iff.1 b).1
   rw[h.1]at this;omega
theorem cS.erase {es:List (T×T)}{aC:Array MapEntry}(h:cS g w es aC)(i:Nat)(hi:i<es.length):cS g w (es.eraseIdx i) (aC.eraseIdxIfInBounds i):=by
 have aQ:i<aC.size:=by rw[h.1];exact hi
 have e1:(aC.eraseIdxIfInBounds i).toList=aC.toList.eraseIdx i:=by simp[Array.eraseIdxIfInBounds,aQ]
 refine⟨by rw[←Array.length_toList,e1,List.length_eraseIdx,List.length_eraseIdx,if_pos hi,Array.length_toList,if_pos aQ,h.1],fun j e m a b=>?_⟩
 have b':(aC.toList.eraseIdx i)[j]?=some m:=by rw[←e1,Array.getElem?_toList];exact b
 rw[List.getElem?_eraseIdx]at a b'
 split at a
 ·rename_i aE;rw[if_pos aE]at b';exact h.2 j e m a (by simpa using b')
 ·rename_i aE;rw[if_neg aE]at b';exact h.2 _ e m a (by simpa using b')
theorem dJ.set {aC:Array MapEntry}{c:Nat}(h:dJ aC c)(k v:Value)(i:Nat):dJ (aC.modify i fun e=>{ e with key:=k,val:=v }) c:=by
 have e:(aC.modify i fun e=>{ e with key:=k,val:=v }).toList.map (·.born)=aC.toList.map (·.born):=by
  apply List.ext_getElem?
  intro j
  simp only[List.getElem?_map,Array.getElem?_toList,Array.getElem?_modify]
  split
  ·cases aC[j]?<;>rfl
  ·rfl
 refine⟨fun m hm=>?_,by rw[e];exact h.2⟩
 have:=List.mem_map_of_mem (f:=fun m:MapEntry=>m.born) hm
 rw[e]at this
 obtain⟨m',h1,h2⟩:=List.mem_map.1 this
 rw[←h2];exact h.1 m' h1
theorem dJ.push {aC:Array MapEntry}{c:Nat}(h:dJ aC c)(k v:Value):dJ (aC.push { key:=k,val:=v,born:=c }) (c+1):=by
 refine⟨fun m hm=>?_,?_⟩
 ·rw[Array.toList_push,List.mem_append]at hm
  rcases hm with hm|hm
  ·exact Nat.lt_succ_of_lt (h.1 m hm)
  ·simp at hm;subst hm;exact Nat.lt_succ_self _
 ·rw[Array.toList_push,List.map_append,List.nodup_append]
  refine⟨h.2,by simp,fun a ha b hb=>?_⟩
  simp at hb
  subst hb
  obtain⟨m,hm,rfl⟩:=List.mem_map.1 ha
  exact Nat.ne_of_lt (h.1 m hm)
theorem dJ.erase {aC:Array MapEntry}{c:Nat}(h:dJ aC c)(i:Nat):dJ (aC.eraseIdxIfInBounds i) c:=by
 by_cases aQ:i<aC.size
 ·have e1:(aC.eraseIdxIfInBounds i).toList=aC.toList.eraseIdx i:=by simp[Array.eraseIdxIfInBounds,aQ]
  exact⟨fun m hm=>h.1 m (by rw[e1]at hm;exact(List.eraseIdx_sublist _ _).subset hm),by rw[e1];exact h.2.sublist ((List.eraseIdx_sublist _ _).map _)⟩
 ·have e1:aC.eraseIdxIfInBounds i=aC:=by simp[Array.eraseIdxIfInBounds,aQ]
  rw[e1];exact h
theorem DH {ty key elem:TypeId}{kt:KT}{b:Nat}{k v:T}{vm vk vv:Value}{es:List (T×T)}{r:Option Nat}(hu:P.underlying ty=some (.map key elem))(ic:kv P key kt=true)
  (h:SR w0 g H w) (hm:VR g w (.map b) vm) (hk:VR g w k vk) (hv:VR g w v vv) (ui:k.gE kt=true) (hb:H[b]?=some (.map es)) (hr:cw k es=some r) :
  ∃w' g',(Instr.mapUpdate ty vm vk vv).run P w=.ok () w'∧Le g w g' w'∧SR w0 g' (H.set b (.map (match r with|some i=>es.set i (k,v)|none=>es++[(k,v)]))) w'∧Fr g H g' (H.set b (.map (match r with|some i=>es.set i (k,v)|none=>es++[(k,v)]))):=by
 cases hm with
 | @map _ rr o q hφ =>
  obtain⟨h1,aC,c,h2,hE,hB⟩:=h.gF b _ hb rr o q hφ
  have hf:=qC ic hk ui es aC.toList (by simpa using hE.1) (fun i e m a b=>hE.2 i e m a (by simpa using b)) hr
  have hc:=jd (P:=P) (w:=w) (e:=false) ic hk ui
  cases r with
  | none =>
   obtain⟨le,sr,fr⟩:=h.qE (c':=c+1) hb hφ h2 (hE.push hk hv c) (hB.push _ _)
   refine⟨_,g,?_,le,sr,fr⟩
   simp at hf
   simp[Instr.mapUpdate,run_underlying hu,getObj,setObj,Sem.run,h2,hc,hf,World.bu]
  | some i =>
   obtain⟨e,he,Jn⟩:=nX k es i hr
   have aE:i<aC.size:=by rw[hE.1];exact(List.getElem?_eq_some_iff.1 he).1
   have DC:aC[i]?=some aC[i]:=Array.getElem?_eq_getElem aE
   have bE:=(hE.2 i e _ he DC).1
   have FH:=nW hk bE Jn
   have Od:Instr.sameBits 10000 aC[i].key vk=true:=by
    have:gp e.1 k=some true∨True:=.inr trivial
    by_cases h':∃as bs,k=.agg as∧e.1=.agg bs
    ·obtain⟨as,bs,rfl,e2⟩:=h'
     have SV:∀(as bs:List T),bA as bs=some true→bA bs as=some true:=by
      intro as
      induction as with
      | nil=>intro bs rH;cases bs<;>simp[bA]at rH ⊢
      | cons a as ih =>
       intro bs rH
       cases bs with
       | nil=>simp[bA]at rH
       | cons b bs =>
        simp only[bA]at rH ⊢
        cases e1:gM a b with
        | none=>simp[e1]at rH
        | some r1 =>
         cases e2:bA as bs with
         | none=>simp[e1,e2]at rH
         | some r2 =>
          simp[e1,e2]at rH
          obtain⟨rfl,rfl⟩:=rH
          have:gM b a=some true:=by
           cases a<;>cases b<;>simp[gM,gn]at e1 ⊢
           ·exact⟨e1.1.symm,e1.2.symm⟩
           ·exact e1.symm
           ·exact e1.symm
          simp[this,ih bs e2]
     rw[e2]at bE Jn
     exact nW bE hk (SV _ _ Jn)
    ·have e1:gM k e.1=some true:=by
      generalize e.1=d at *
      cases k<;>first|exact Jn|(cases d<;>first|exact Jn|exact absurd ⟨_,_,rfl,rfl⟩ h')
     have e2:gM e.1 k=some true:=by
      generalize e.1=d at *
      cases k<;>cases d<;>simp[gM,gn]at e1 ⊢
      ·exact⟨e1.1.symm,e1.2.symm⟩
      ·exact e1.symm
      ·exact e1.symm
     exact mg bE hk e2
   obtain⟨le,sr,fr⟩:=h.qE (c':=c) hb hφ h2 (hE.set hk hv i) (hB.set _ _ i)
   refine⟨_,g,?_,le,sr,fr⟩
   have hx:((some i:Option Nat).bind fun i=>(aC.toList[i]?).map fun m=>(i,m.val))=some (i,aC[i].val):=by simp[aE]
   rw[hx]at hf
   have SW:(Instr.keyThatStays aC[i].key vk).run P w=.ok vk w:=by simp[Instr.keyThatStays,Od]
   simp[Instr.mapUpdate,run_underlying hu,getObj,setObj,Sem.run,h2,hc,hf,aE,SW,World.bu]
theorem DI {ty key elem xt rt:TypeId}{kt:KT}{b:Nat}{k:T}{vm vk:Value}{es:List (T×T)}{r:Option Nat}(hu:P.underlying ty=some (.map key elem))(ic:kv P key kt=true)
  (h:SR w0 g H w) (hm:VR g w (.map b) vm) (hk:VR g w k vk) (ui:k.gE kt=true) (hb:H[b]?=some (.map es)) (hr:cw k es=some r) :
  bp P w0 g H w (Builtin.delete_ #[ty,xt] rt #[vm,vk]) (.bC []) (match r with|some i=>H.set b (.map (es.eraseIdx i))|none=>H):=by
 cases hm with
 | @map _ rr o q hφ =>
  obtain⟨h1,aC,c,h2,hE,hB⟩:=h.gF b _ hb rr o q hφ
  have hf:=qC ic hk ui es aC.toList (by simpa using hE.1) (fun i e m a b=>hE.2 i e m a (by simpa using b)) hr
  have hc:=jd (P:=P) (w:=w) (e:=aC.isEmpty) ic hk ui
  cases r with
  | none =>
   obtain⟨le,sr,fr⟩:=h.qE (c':=c) hb hφ h2 hE hB
   have hH:H.set b (.map es)=H:=by
    apply List.ext_getElem?
    intro j
    rw[List.getElem?_set]
    split
    ·rename_i e;subst e;rw[if_pos (List.getElem?_eq_some_iff.1 hb).1,hb]
    ·rfl
   rw[hH]at sr fr
   refine⟨.tuple #[],_,g,?_,le,sr,.bC rfl (by simp),fr⟩
   simp at hf
   simp[Builtin.delete_,run_underlying hu,getObj,setObj,Sem.run,h2,hc,hf,World.bu]
  | some i =>
   obtain⟨e,he,Jn⟩:=nX k es i hr
   have RI:i<es.length:=(List.getElem?_eq_some_iff.1 he).1
   have aE:i<aC.size:=by rw[hE.1];exact RI
   obtain⟨le,sr,fr⟩:=h.qE (c':=c) hb hφ h2 (hE.erase i RI) (hB.erase i)
   refine⟨.tuple #[],_,g,?_,le,sr,.bC rfl (by simp),fr⟩
   have hx:((some i:Option Nat).bind fun i=>(aC.toList[i]?).map fun m=>(i,m.val))=some (i,aC[i].val):=by simp[aE]
   rw[hx]at hf
   simp[Builtin.delete_,run_underlying hu,getObj,setObj,Sem.run,h2,hc,hf,World.bu]
end
section
variable {P:Program} {w0 w:World} {g:Ctx} {H:ae}
theorem je {n:Nat}:∀(es:List (List T)),(∀c∈es,c.length=n)→∀(i j:Nat) (c:List T) (t:T),es[i]?=some c→c[j]?=some t→es.flatten[i*n+j]?=some t
 | [],_,i,j,c,t,h,_=>by simp at h
 | d :: es,hn,i,j,c,t,h,hj=>by
  have hd:=hn d (by simp)
  cases i with
  | zero =>
   simp at h;subst h
   have aE:j<d.length:=(List.getElem?_eq_some_iff.1 hj).1
   simp only[List.flatten_cons,Nat.zero_mul,Nat.zero_add]
   rw[List.getElem?_append_left aE];exact hj
  | succ i =>
   have ih:=je es (fun c hc=>hn c (by simp[hc])) i j c t (by simpa using h) hj
   simp only[List.flatten_cons]
   rw[List.getElem?_append_right (by rw[hd,Nat.succ_mul];omega)]
   rw[show(i+1)*n+j-d.length=i*n+j by rw[hd,Nat.succ_mul];omega];exact ih
theorem eL {n:Nat}(es:List (List T))(hn:∀c∈es,c.length=n):es.flatten.length=es.length*n:=by
 induction es with
 | nil=>simp
 | cons d es ih=>simp only[List.flatten_cons,List.length_append,List.length_cons,Nat.succ_mul,hn d (by simp),ih (fun c hc=>hn c (by simp[hc]))];omega
theorem VR.qF {k:SK}{es:List (List T)}{r o cap n:Nat}{vs:List Value}(hn:∀c∈es,c.length=n)(hv:a6 g w es.flatten vs)(ho:bJ es.flatten)(hc:es.length≤cap)(hk:pw g k r o es.length cap n)
  (hi:∀(j:Nat) (v:Value),vs[j]?=some v→ue g w r (o+j) v):VR g w (.sl k es) (.slice (some ⟨r,o,none⟩) es.length cap):=by
 have key:∀(i j:Nat) (c:List T) (t:T),es[i]?=some c→c[j]?=some t→es.flatten[i*n+j]?=some t∧vs[i*n+j]?=some (vs.getD (i*n+j) undef):=by
  intro i j c t a b
  have h1:=je es hn i j c t a b
  have aE:i*n+j<vs.length:=by rw[←hv.1];exact(List.getElem?_eq_some_iff.1 h1).1
  exact⟨h1,by rw[List.getElem?_eq_getElem aE,List.getD_eq_getElem?_getD,List.getElem?_eq_getElem aE,Option.getD_some]⟩
 refine .sl (n:=n) (fun i j=>vs.getD (i*n+j) undef) hk hc hn (fun i j c t a b=>?_) (fun i j c t a b=>?_)
 ·obtain⟨h1,h2⟩:=key i j c t a b
  exact⟨ho t (List.mem_of_getElem? h1),by rw[Nat.add_assoc];exact hi _ _ h2⟩
 ·obtain⟨h1,h2⟩:=key i j c t a b
  exact hv.2 _ t _ h1 h2
theorem lx (es:List (List T)):(es.map (·.map T.erase)).flatten=es.flatten.map T.erase:=by
 induction es with
 | nil=>rfl
 | cons c es ih=>simp only[List.map_cons,List.flatten_cons,List.map_append,ih]
theorem a6.erase {ts:List T}{vs:List Value}(h:a6 g w ts vs):a6 g w (ts.map T.erase) vs :=
 ⟨by simp[h.1],fun i t v a b=>by
  rw[List.getElem?_map]at a
  obtain⟨t',h1,rfl⟩:=Option.map_eq_some_iff.1 a
  exact(h.2 i t' v h1 b).erase⟩
theorem nY {ts:List T}(h:bJ ts):bJ (ts.map T.erase):=by
 intro t ht
 obtain⟨t',h1,rfl⟩:=List.mem_map.1 ht
 rw[wW];exact h t' h1
theorem Hj {n:Nat}{y:T}{vy:Value}{new:List (List T)}(h:SR w0 g H w)(hy:VR g w y vy)(he:bl H n y=some new) :
  ∃vs:List Value,(Builtin.lenOf vy).run P w=.ok new.length w∧(Builtin.firstCells n new.length vy).run P w=.ok vs.toArray w∧a6 g w new.flatten vs∧bJ new.flatten∧(∀c∈new,c.length=n)∧vs.length=new.length*n:=by
 by_cases hs:∃s,y=.str s
 ·obtain⟨s,rfl⟩:=hs
  cases hy
  simp only[bl]at he
  split at he
  ·rename_i hn
   subst hn
   simp at he
   have hlen:new.length=s.size:=by rw[←he,List.length_map];exact Array.length_toList
   have jQ:new.flatten=s.data.toList.map fun c=>T.int .u8 c.toNat:=by
    rw[←he]
    generalize s.data.toList=l
    induction l with
    | nil=>rfl
    | cons c l ih=>simp only[List.map_cons,List.flatten_cons,ih];rfl
   have hex:s.extract 0 s.size=s:=by simp
   refine⟨s.data.toList.map fun c=>.int .u8 c.toNat,by simp[Builtin.lenOf,hlen],?_,?_,?_,?_,?_⟩
   ·rw[hlen]
    simp only[Builtin.firstCells,hex,Sem.run_pure]
    congr 1
    apply Array.ext';simp
   ·rw[jQ]
    refine⟨by simp,fun i t v a b=>?_⟩
    rw[List.getElem?_map]at a b
    obtain⟨c,h1,rfl⟩:=Option.map_eq_some_iff.1 a
    rw[h1]at b;simp at b;subst b
    exact .int _ _
   ·rw[jQ];intro t ht
    obtain⟨c,_,rfl⟩:=List.mem_map.1 ht;rfl
   ·rw[←he];intro c hc
    obtain⟨_,_,rfl⟩:=List.mem_map.1 hc;rfl
   ·rw[hlen,List.length_map,Nat.mul_one];exact Array.length_toList
  ·simp at he
 ·obtain⟨a,cap,vs,rfl,_,h1,h2,h3,h4,h5,h6⟩:=kZ h hy he (fun s e=>hs ⟨s,e⟩)
  refine⟨vs,by simp[Builtin.lenOf],?_,h3,h5,h6,h4⟩
  cases a with
  | none =>
   have:=(h1 rfl).1
   subst this
   simp at h4
   simp[Builtin.firstCells,h4]
  | some a =>
   obtain⟨_,h7⟩:=h2 a rfl
   have:=run_loadCells_list (P:=P) w a vs h7
   rw[h4]at this
   simpa[Builtin.firstCells]using this
theorem vA (hU:Nat):∀(k c:Nat),c≤hU+(hU+768)/4→Builtin.growBy hU k c≤hU+(hU+768)/4
 | 0,c,h=>h
 | k+1,c,h=>by
  rw[Builtin.growBy]
  split
  ·exact h
  ·exact vA hU k _ (by omega)
theorem DJ {hU cap:Nat}(h:cap<hU):Builtin.nextslicecap hU cap≤hU+hU/4+512:=by
 unfold Builtin.nextslicecap
 split
 ·omega
 ·split
  ·omega
  ·have:=vA hU 4 cap (by omega)
   omega
theorem vB {hU cap bytes:Nat}(h:cap<hU)(hr:dv hU bytes=true):¬Builtin.nextslicecap hU cap*bytes>2^48:=by
 have h1:=Nat.mul_le_mul_right bytes (DJ h)
 simp only[dv,decide_eq_true_eq]at hr
 omega
structure mh (P:Program)(sT xT elem:TypeId)(ei:TypeInfo)(zv:Value)(n bytes:Nat):Prop where
 hu:P.underlying sT=some (.slice elem)
 hi:P.info? elem=some ei
 hx:∃d,P.underlying xT=some d∧∀k,d≠.int k
 hn:ei.size=n
 hz:ei.zero=some zv
 DK:zv.cells.size=n
 hb:ei.bytes=bytes
 JS:bytes≠0
theorem jX {sT xT elem rt:TypeId}{ei:TypeInfo}{zv x:Value}{n bytes r o len cap m:Nat}{vs:List Value}(E:mh P sT xT elem ei zv n bytes)(hl:(Builtin.lenOf x).run P w=.ok m w)(hf:(Builtin.firstCells n m x).run P w=.ok vs.toArray w)
  (jf:len+m≤cap) (hs:(storeCells ⟨r,o+len*n,none⟩ vs).run P w=.ok () (w.setCells r (o+len*n) vs)) :
  (Builtin.append_ #[sT,xT] rt #[.slice (some ⟨r,o,none⟩) len cap,x]).run P w=.ok (.slice (some ⟨r,o,none⟩) (len+m) cap) (w.setCells r (o+len*n) vs):=by
 obtain⟨d,h1,h2⟩:=E.hx
 have hz:(match d with | .int _=>true|_=>false)=false:=by cases d<;>first|rfl|exact absurd rfl (h2 _)
 simp[Builtin.append_,run_underlying E.hu,run_underlying h1,hz,sizeOf,aS E.hi,E.hn,hl,hf,jf,b7,hs]
theorem jg {sT xT elem rt:TypeId}{ei:TypeInfo}{zv x:Value}{n bytes:Nat}{base:Option Addr}{len cap:Nat}(E:mh P sT xT elem ei zv n bytes)(hl:(Builtin.lenOf x).run P w=.ok 0 w)(hf:(Builtin.firstCells n 0 x).run P w=.ok #[] w)(jf:len≤cap) :
  (Builtin.append_ #[sT,xT] rt #[.slice base len cap,x]).run P w=.ok (.slice base len cap) w:=by
 obtain⟨d,h1,h2⟩:=E.hx
 have hz:(match d with | .int _=>true|_=>false)=false:=by cases d<;>first|rfl|exact absurd rfl (h2 _)
 cases base<;>simp[Builtin.append_,run_underlying E.hu,run_underlying h1,hz,sizeOf,aS E.hi,E.hn,hl,hf,jf,storeCells]
theorem jh (zc:Array Value)(n:Nat):(Builtin.zeroCells zc n).size=n*zc.size:=by simp[Builtin.zeroCells]
theorem fK {sT xT elem rt:TypeId}{ei:TypeInfo}{zv x:Value}{n bytes:Nat}{base:Option Addr}{len cap m:Nat}{jb vs:List Value}(E:mh P sT xT elem ei zv n bytes)(hl:(Builtin.lenOf x).run P w=.ok m w)(hf:∀w':World,w'.heap=w.heap→(Builtin.firstCells n m x).run P w'=.ok vs.toArray w')
  (ho:∀w':World,w'.heap=w.heap→(Builtin.firstCells n len (.slice base len cap)).run P w'=.ok jb.toArray w') (uk:cap<len+m) (hr:dv (len+m) bytes=true) :
  ∃(db:Nat) (rest:List Value),len+m≤db∧rest.length=(db-(len+m))*n ∧
   (Builtin.append_ #[sT,xT] rt #[.slice base len cap,x]).run P w=.ok (.slice (some ⟨w.heap.size,0,none⟩) (len+m) db) (w.drew.alloc (.cells (jb++vs++rest).toArray elem)):=by
 obtain⟨d,h1,h2⟩:=E.hx
 have hz:(match d with | .int _=>true|_=>false)=false:=by cases d<;>first|rfl|exact absurd rfl (h2 _)
 have fL:=vB uk hr
 have jf:¬len+m≤cap:=by omega
 let db:=Question.cut (.appendCap (len+m) cap elem) (w.tape w.drawn (.appendCap (len+m) cap elem))
 have lh:len+m≤db:=by simp only[db,Question.cut];omega
 refine⟨db,(Builtin.zeroCells zv.cells (db-(len+m))).toList,lh,?_,?_⟩
 ·rw[Array.length_toList,jh,E.DK]
 ·have nk:=hf w.drew rfl
  have ky:=ho w.drew rfl
  have JS:ei.bytes≠0:=by rw[E.hb];exact E.JS
  simp only[gt_iff_lt,Nat.not_lt]at fL
  have yS:Builtin.nextslicecap (len+m) cap*ei.bytes≤2^48:=by rw[E.hb];exact fL
  simp only[Builtin.append_,List.getElem?_toArray,List.getElem?_cons_zero,List.getElem?_cons_succ,Sem.run_bind,run_underlying E.hu,run_underlying h1,Result.andThen_ok,sizeOf,aS E.hi,E.hn,hl,Sem.run_pure,jf,if_false]
  cases d<;>first
   | exact absurd rfl (h2 _)
   | (simp[hl,jf,aS E.hi,JS,yS,Nat.not_lt.2 yS,run_choose,Question.forced,ky,nk,zeroValue,E.hz,newRow,db];congr 2;apply Array.ext';simp)
theorem SR.JT {t e r p q m:Nat}{vs:List Value}(h:SR w0 g H w)(ht:H[t]?=some (.tok e))(hp:g.π t e=some (r,p,q))(hm:0<m)(jf:p+vs.length≤q) :
  let g':=((g.row r fun j=>if p≤j∧j<p+vs.length then .hC else g.κ r j).tok t (e+m) (r,p+vs.length,q))
  Le g w g' (w.setCells r p vs)∧SR w0 g' (H.set t (.tok (e+m))) (w.setCells r p vs)∧Fr g H g' (H.set t (.tok (e+m)))∧∀(i:Nat) (v:Value),vs[i]?=some v→ue g' (w.setCells r p vs) r (p+i) v:=by
 intro g'
 have JU:t<H.length:=(List.getElem?_eq_some_iff.1 ht).1
 obtain⟨r1,p1,q1,e1,h2,h3,h4⟩:=h.gF t _ ht
 rw[hp]at e1;cases e1
 have hs:∀j,p≤j→j<p+vs.length→(w.cell? ⟨r,j,none⟩).isSome=true:=fun j a c=>(h3 j a (by omega)).2.2
 have tr:=Tr.setCells w r p vs hs
 have hS:∀r' j,r9 r p vs.length r' j→g.κ r' j=.spare t:=by
  rintro r' j⟨rfl,a,c⟩;exact(h3 j a (by omega)).1
 have hκ:∀r' j,g'.κ r' j=if r'=r∧p≤j∧j<p+vs.length then .hC else g.κ r' j:=by
  intro r' j
  simp only[g',Ctx.tok,Ctx.row]
  by_cases e:r'=r
  ·subst e;simp
  ·simp[e]
 have hπ:∀t' e',g'.π t' e'=if t'=t∧e'=e+m then some (r,p+vs.length,q)else g.π t' e':=fun t' e'=>rfl
 have le:Le g w g' (w.setCells r p vs):=Le.fJ tr (fun _ _ h=>h) (fun r' o hk=>by rw[hκ];split;rfl;exact hk)
  (fun t' e' x hx=>by rw[hπ];split;rename_i c;obtain⟨rfl,rfl⟩:=c;rw[h4 _ (by omega)]at hx;cases hx;exact hx)
  (fun r' j dW e=>by rw[hS r' j dW]at e;cases e)
 have hC:∀(i:Nat) (v:Value),vs[i]?=some v→ue g' (w.setCells r p vs) r (p+i) v:=fun i v hi=>by
  have aE:i<vs.length:=(List.getElem?_eq_some_iff.1 hi).1
  exact⟨by rw[hκ];simp;omega,bQ r vs p w hs i v hi⟩
 refine⟨le,h.step (fun b'=>b'=t) tr le (fun r' j dW=>.inr (.inr ⟨t,hS r' j dW,rfl⟩)) (fun _ hm=>hm.elim) (fun r' j hr=>?_) (fun b' x hx=>by rw[List.length_set];exact h.nH b' x hx)
  (fun t' e' x hx=>?_) (fun _ _ _=>rfl) (fun r' j b' eR=>?_) (fun t' e' _ eR=>?_) (fun b' x hx=>?_),⟨by simp,fun b' x a c d=>⟨da a (by rintro rfl;rw[ht]at a;cases a;exact absurd rfl (c e)),d⟩⟩,hC⟩
 ·rw[cJ]at hr
  rw[hκ];split
  ·rename_i c;obtain⟨rfl,a,c⟩:=c
   have:=h.fresh r' j hr
   rw[(h3 j a (by omega)).1]at this;cases this
  ·exact h.fresh r' j hr
 ·rw[List.length_set]
  rw[hπ]at hx
  split at hx
  ·rename_i c;rw[c.1];exact JU
  ·exact h.ft t' e' x hx
 ·constructor<;>intro e'<;>rw[hκ]<;>split
  ·rename_i c;obtain⟨rfl,a,c⟩:=c;rw[(h3 j a (by omega)).1]at e';cases e'
  ·exact e'
  ·rename_i c;obtain⟨rfl,a,c⟩:=c;rw[(h3 j a (by omega)).1]at e';cases e';exact absurd rfl eR
  ·exact e'
 ·rw[hπ,if_neg (fun c=>eR c.1)]
 ·rcases cB JU hx with⟨rfl,rfl⟩|⟨aY,ie⟩
  ·right
   refine⟨r,p+vs.length,q,by rw[hπ];simp,jf,fun j a c=>⟨?_,?_,?_⟩,fun e' he=>by rw[hπ,if_neg (by omega)];exact h4 e' (by omega)⟩
   ·rw[hκ,if_neg (by omega)];exact(h3 j (by omega) c).1
   ·rw[World.frozen?_setCells];exact(h3 j (by omega) c).2.1
   ·rw[bN r vs p w r j (by omega)];exact(h3 j (by omega) c).2.2
  ·exact .inl ⟨aY,ie⟩
theorem SR.yT {c:Array Value}{ty:TypeId}{w1:World}{H':ae}{t e k:Nat}(h:SR w0 g H w)(tr:Tr w w1 ff gz)(hz:w1.heap.size=w.heap.size)(ht:H'[t]?=some (.tok e))(hk:k≤c.size)
  (ig:∀e',e≤e'→g.π t e'=none) (hH:∀b' x,b'≠t→H'[b']?=some x→H[b']?=some x) (hl:H.length≤H'.length) (ay:∀(b':Nat) (x:B),H[b']?=some x→(∀e:Nat,x≠.tok e)→H'[b']?=some x) :
  let g':=((g.row w.heap.size fun j=>if j<k then .hC else .spare t).tok t e (w.heap.size,k,c.size))
  Le g w g' (w1.alloc (.cells c ty))∧SR w0 g' H' (w1.alloc (.cells c ty))∧Fr g H g' H'∧(∀(j:Nat) (v:Value),j<k→c[j]?=some v→ue g' (w1.alloc (.cells c ty)) w.heap.size j v)∧g'.π t e=some (w.heap.size,k,c.size):=by
 intro g'
 have sd:=tr.trans (Tr.alloc w1 (.cells c ty) (.inr ⟨_,_,rfl⟩))
 have aY:∀r j ow,g.κ r j=ow→ow≠.free→r≠w.heap.size:=by rintro r j ow e hn rfl;exact hn (e▸h.fresh _ j (Nat.le_refl _))
 have hπ:∀t' e',g'.π t' e'=if t'=t∧e'=e then some (w.heap.size,k,c.size)else g.π t' e':=fun t' e'=>rfl
 have hκ:∀r j,g'.κ r j=if r=w.heap.size then(if j<k then .hC else .spare t)else g.κ r j:=fun r j=>rfl
 have le:Le g w g' (w1.alloc (.cells c ty)):=Le.fJ sd (fun _ _ h=>h) (fun r o hk=>by rw[hκ,if_neg (aY r o _ hk (by simp))];exact hk)
  (fun t' e' x hx=>by rw[hπ];split;rename_i c;obtain⟨rfl,rfl⟩:=c;rw[ig _ (Nat.le_refl _)]at hx;cases hx;exact hx) (fun _ _ hs=>hs.elim)
 refine⟨le,?_,⟨hl,fun b' x a c d=>⟨ay b' x a c,d⟩⟩,fun j v hj hv=>⟨by rw[hκ];simp[hj],by rw[←hz,World.cell?_alloc_new];exact hv⟩,by rw[hπ];simp⟩
 refine h.step (fun b'=>b'=t) sd le (fun _ _ hs=>hs.elim) (fun _ hm=>hm.elim) (fun r o hr=>?_) (fun b' x hx=>Nat.lt_of_lt_of_le (h.nH b' x hx) hl) (fun t' e' x hx=>?_) (fun _ _ _=>rfl) (fun r j b' eR=>?_) (fun t' e' _ eR=>?_) (fun b' x hx=>?_)
 ·simp at hr
  rw[hκ,if_neg (by omega)];exact h.fresh r o (by omega)
 ·rw[hπ]at hx
  split at hx
  ·rename_i c;rw[c.1];exact(List.getElem?_eq_some_iff.1 ht).1
  ·exact Nat.lt_of_lt_of_le (h.ft t' e' x hx) hl
 ·constructor<;>intro e'<;>rw[hκ,if_neg (aY r j _ e' (by simp))]<;>exact e'
 ·rw[hπ,if_neg (fun c=>eR c.1)]
 ·by_cases e':b'=t
  ·subst e'
   right
   rw[ht]at hx;cases hx
   refine⟨w.heap.size,k,c.size,by rw[hπ];simp,hk,fun j a b=>⟨by rw[hκ];simp;omega,by rw[←hz];simp,by rw[←hz,World.cell?_alloc_new,Array.getElem?_eq_getElem b];rfl⟩,fun DL he=>by rw[hπ,if_neg (by omega)];exact ig DL (by omega)⟩
  ·exact .inl ⟨e',hH b' x e' hx⟩
theorem nq (w:World):Tr w w.drew ff gz:=Tr.drew w
theorem mi {w w':World}(h:w'.heap=w.heap)(a:Addr):w'.cell? a=w.cell? a:=by unfold World.cell?;rw[h]
theorem vC {n:Nat}{y:T}{vy:Value}{new:List (List T)}(h:SR w0 g H w)(hy:VR g w y vy)(he:bl H n y=some new) :
  ∃vs:List Value,(Builtin.lenOf vy).run P w=.ok new.length w∧(∀w':World,w'.heap=w.heap→(Builtin.firstCells n new.length vy).run P w'=.ok vs.toArray w')∧a6 g w new.flatten vs∧bJ new.flatten∧(∀c∈new,c.length=n)∧vs.length=new.length*n:=by
 obtain⟨vs,h1,h2,h3,h4,h5,h6⟩:=Hj (P:=P) h hy he
 refine⟨vs,h1,fun w' um=>?_,h3,h4,h5,h6⟩
 by_cases hs:∃s,y=.str s
 ·obtain⟨s,rfl⟩:=hs
  cases hy
  simp only[Builtin.firstCells,Sem.run_pure,Result.ok.injEq,and_true]at h2 ⊢
  exact h2
 ·obtain⟨a,cap,Jl,rfl,_,k1,k2,k3,k4,k5,k6⟩:=kZ h hy he (fun s e=>hs ⟨s,e⟩)
  cases a with
  | none =>
   simp only[Builtin.firstCells,Sem.run_pure,Result.ok.injEq,and_true]at h2 ⊢
   exact h2
  | some a =>
   obtain⟨_,h7⟩:=k2 a rfl
   have a1:=run_loadCells_list (P:=P) w a Jl h7
   have a2:=run_loadCells_list (P:=P) w' a Jl (fun j v hj=>by rw[mi um];exact h7 j v hj)
   rw[k4]at a1 a2
   simp only[Builtin.firstCells]at h2 ⊢
   rw[a1]at h2
   rw[a2]
   simp at h2
   rw[h2]
theorem DM {sT xT elem rt:TypeId}{ei:TypeInfo}{zv:Value}{n bytes:Nat}{k:SK}{es new:List (List T)}{y t:T}{vx vy:Value}{H':ae}(E:mh P sT xT elem ei zv n bytes)
  (h:SR w0 g H w) (hx:VR g w (.sl k es) vx) (hy:VR g w y vy) (cj:es.all (·.length==n)=true) (o7:bl H n y=some new) (he:jP H bytes k es new=some (t,H')) :
  bp P w0 g H w (Builtin.append_ #[sT,xT] rt #[vx,vy]) t H':=by
 obtain⟨vs,s1,s2,s3,s4,s5,s6⟩:=vC (P:=P) h hy o7
 obtain⟨a,cap,jb,rfl,lh,x1,x2,x3,x4,x5,x6⟩:=kZ (n:=n) (es:=es) h hx (by simp only[bl,cj,if_true]) (fun s e=>by cases e)
 have lh:es.length≤cap:=lh
 cases ig:new with
 | nil =>
  subst ig
  simp only[jP,Option.some.injEq,Prod.mk.injEq]at he
  obtain⟨rfl,rfl⟩:=he
  have l3:vs=[]:=by simpa using s6
  subst l3
  exact bp.same h (jg E s1 (s2 w rfl) lh) hx
 | cons c0 Oe =>
  have hlen:0<new.length:=by rw[ig];simp
  rw[ig]at he
  simp only[jP]at he
  rw[←ig]at he
  split at he
  ·rename_i fL
   have FD:∀c∈es++new.map (·.map T.erase),c.length=n:=by
    intro c hc
    rcases List.mem_append.1 hc with hc|hc
    ·exact x6 c hc
    ·obtain⟨c',h1,rfl⟩:=List.mem_map.1 hc
     rw[List.length_map];exact s5 c' h1
   have jQ:(es++new.map (·.map T.erase)).flatten=es.flatten++new.flatten.map T.erase:=by rw[List.flatten_append,lx]
   have hJ:(es++new.map (·.map T.erase)).length=es.length+new.length:=by simp
   have ho:bJ (es++new.map (·.map T.erase)).flatten:=by
    rw[jQ];intro t ht
    rcases List.mem_append.1 ht with ht|ht
    ·exact x5 t ht
    ·exact nY s4 t ht
   have oV:(jb++vs).length=(es.length+new.length)*n:=by rw[List.length_append,x4,s6,Nat.add_mul]
   have grow:∀(t' e':Nat) (Hn:ae),cap<es.length+new.length→Hn[t']?=some (.tok e')→(∀DL,e'≤DL→g.π t' DL=none)→(∀b' x,b'≠t'→Hn[b']?=some x→H[b']?=some x)→H.length≤Hn.length →
     (∀(b':Nat) (x:B),H[b']?=some x→(∀e:Nat,x≠.tok e)→Hn[b']?=some x)→bp P w0 g H w (Builtin.append_ #[sT,xT] rt #[.slice a es.length cap,vy]) (.sl (.own t' e') (es++new.map (·.map T.erase))) Hn:=by
    intro t' e' Hn uk k1 k2 k3 k4 k5
    have CY:∀w':World,w'.heap=w.heap→(Builtin.firstCells n es.length (.slice a es.length cap)).run P w'=.ok jb.toArray w':=by
     intro w' um
     cases a with
     | none =>
      have:=(x1 rfl).1
      subst this
      have:jb=[]:=by simpa using x4
      subst this
      simp[Builtin.firstCells]
     | some a =>
      obtain⟨_,h7⟩:=x2 a rfl
      have:=run_loadCells_list (P:=P) w' a jb (fun j v hj=>by rw[mi um];exact h7 j v hj)
      rw[x4]at this
      simpa[Builtin.firstCells]using this
    obtain⟨db,rest,lz,o8,bG⟩:=fK (rt:=rt) (w:=w) E s1 s2 CY uk fL
    have aQ:(jb++vs++rest).toArray.size=db*n:=by
     simp only[List.size_toArray]
     rw[List.length_append,oV,o8,←Nat.add_mul];congr 1;omega
    obtain⟨le,sr,fr,hC,hp⟩:=h.yT (c:=(jb++vs++rest).toArray) (ty:=elem) (k:=(es.length+new.length)*n) (nq w) rfl k1 (by rw[aQ];exact Nat.mul_le_mul_right _ lz) k2 k3 k4 k5
    refine⟨_,_,_,bG,le,sr,?_,fr⟩
    have hv:a6 g w (es++new.map (·.map T.erase)).flatten (jb++vs):=by rw[jQ];exact a6.append x3 s3.erase
    have:=VR.qF (k:=.own t' e') (r:=w.heap.size) (o:=0) (cap:=db) FD (hv.mono le) ho (by rw[hJ];exact lz) ⟨by rw[hp,hJ,aQ];simp,by rw[hJ];omega⟩ (fun j v hj=>?_)
    ·rw[hJ]at this;exact this
    ·have aE:j<(jb++vs).length:=(List.getElem?_eq_some_iff.1 hj).1
     rw[Nat.zero_add]
     refine hC j v (by omega) ?_
     rw[List.getElem?_toArray,List.getElem?_append_left aE];exact hj
   cases k with
   | nil =>
    simp only[Option.some.injEq,Prod.mk.injEq]at he
    obtain⟨rfl,rfl⟩:=he
    have jC:cap<es.length+new.length:=by
     cases hx with
     | slnil=>simpa using hlen
     | sl b6 hk=>exact hk.elim
    exact grow H.length _ _ jC (dm _ _) (fun DL _=>h.Oc (Nat.le_refl _)) (fun b' x e hx=>bO e hx) (by simp) (fun b' x hx _=>fu hx)
   | full =>
    simp only[Option.some.injEq,Prod.mk.injEq]at he
    obtain⟨rfl,rfl⟩:=he
    have jC:cap<es.length+new.length:=by
     cases hx with
     | sl b6 hk=>simp only[pw]at hk;omega
    exact grow H.length _ _ jC (dm _ _) (fun DL _=>h.Oc (Nat.le_refl _)) (fun b' x e hx=>bO e hx) (by simp) (fun b' x hx _=>fu hx)
   | arg=>cases he
   | own t0 e0 =>
    cases ht:H[t0]? with
    | none=>simp[ht]at he
    | some bt =>
     cases bt with
     | tok e1 =>
      simp only[ht]at he
      split at he
      ·rename_i SX
       subst SX
       simp only[Option.some.injEq,Prod.mk.injEq]at he
       obtain⟨rfl,rfl⟩:=he
       have JU:t0<H.length:=(List.getElem?_eq_some_iff.1 ht).1
       obtain⟨r1,p1,q1,iX,Jo,vu,JV⟩:=h.gF t0 _ ht
       by_cases jf:es.length+new.length≤cap
       ·-- in place
        cases hx with
        | @sl _ _ r o _ n' b6 hk hc hn h3 h4 =>
         simp only[pw]at hk
         obtain⟨o9,Of⟩:=hk
         have Dq:n'=n:=by
          cases es with
          | nil=>simp at Of
          | cons c es=>rw[←hn c (by simp),x6 c (by simp)]
         subst Dq
         rw[iX]at o9
         simp only[Option.some.injEq,Prod.mk.injEq]at o9
         obtain⟨rfl,rfl,rfl⟩:=o9
         have Hk:o+es.length*n'+vs.length≤o+cap*n':=by
          rw[s6,Nat.add_assoc,←Nat.add_mul]
          exact Nat.add_le_add_left (Nat.mul_le_mul_right _ jf) _
         obtain⟨le,sr,fr,hC⟩:=h.JT (m:=new.length) (vs:=vs) ht iX hlen Hk
         have ji:=run_storeCells_cells (P:=P) r1 (o+es.length*n') vs 0 w (fun j hj=>by simpa using (vu (o+es.length*n'+j) (by omega) (by omega)).2.2) (fun j hj=>by simpa using (vu (o+es.length*n'+j) (by omega) (by omega)).2.1) (s3.gv s4)
         rw[Nat.add_zero]at ji
         have bG:=jX (rt:=rt) (cap:=cap) E s1 (s2 w rfl) jf ji
         refine⟨_,_,_,bG,le,sr,?_,fr⟩
         have hv:a6 g w (es++new.map (·.map T.erase)).flatten (jb++vs):=by rw[jQ];exact a6.append x3 s3.erase
         have JW:∀(j:Nat) (v:Value),jb[j]?=some v→ue g w r1 (o+j) v:=by
          intro j v hj
          have aE:j<es.length*n':=by rw[←x4];exact(List.getElem?_eq_some_iff.1 hj).1
          obtain⟨_,h7⟩:=x2 _ rfl
          have jj:=h7 j v hj
          rw[b7]at jj
          have JX:0<n':=by
           rcases Nat.eq_zero_or_pos n' with e|e
           ·subst e;simp at aE
           ·exact e
          have hi:j/n'<es.length:=Nat.div_lt_of_lt_mul (by rw[Nat.mul_comm];exact aE)
          have e1:es[j/n']?=some es[j/n']:=List.getElem?_eq_getElem hi
          have hm:j%n'<(es[j/n']).length:=by rw[x6 _ (List.getElem_mem hi)];exact Nat.mod_lt _ JX
          have:=(h3 (j/n') (j%n') _ _ e1 (List.getElem?_eq_getElem hm)).2
          have ee:o+j/n'*n'+j%n'=o+j:=by rw[Nat.add_assoc,Nat.mul_comm,Nat.div_add_mod]
          rw[ee]at this
          exact⟨this.1,jj⟩
         have:=VR.qF (k:=.own t0 (e0+new.length)) (r:=r1) (o:=o) (cap:=cap) FD (hv.mono le) ho (by rw[hJ];exact jf) ⟨by rw[hJ];simp[Ctx.tok,s6,Nat.add_mul,Nat.add_assoc],by rw[hJ];omega⟩ (fun j v hj=>?_)
         ·rw[hJ]at this;exact this
         ·rw[List.getElem?_append]at hj
          split at hj
          ·exact(JW j v hj).mono le
          ·rename_i dD
           have:=hC _ v hj
           rw[x4]at this dD
           rwa[show o+es.length*n'+(j-es.length*n')=o+j by omega]at this
       ·exact grow t0 (e0+new.length) _ (by omega) (by simp[JU]) (fun DL he=>JV DL (by omega)) (fun b' x aY hx=>by
          rcases cB JU hx with⟨e,_⟩|⟨_,ie⟩
          ·exact absurd e aY
          ·exact ie) (by simp) (fun b' x Og aY=>da Og (by rintro rfl;rw[ht]at Og;cases Og;exact absurd rfl (aY e0)))
      ·cases he
     | cells _=>simp[ht]at he
     | map _=>simp[ht]at he
     | _=>simp[ht]at he
  ·cases he
end
section
variable {P:Program} {w0 w:World} {g:Ctx} {H:ae}
theorem SR.JY {b r o q:Nat}{cs ts:List T}{vs:List Value}(h:SR w0 g H w)(hb:H[b]?=some (.cells cs))(hφ:g.φ b=some (r,o,q))(hv:a6 g w ts vs)(ho:bJ ts)(jf:o+cs.length+ts.length≤q) :
  let g':=((g.row r fun j=>if o≤j∧j<q then .mut H.length else g.κ r j).at H.length (r,o,q))
  Le g w g' (w.setCells r (o+cs.length) vs)∧SR w0 g' (H.set b .dead++[.cells (cs++ts)]) (w.setCells r (o+cs.length) vs)∧Fr g H g' (H.set b .dead++[.cells (cs++ts)]):=by
 intro g'
 have iW:b<H.length:=(List.getElem?_eq_some_iff.1 hb).1
 obtain⟨h1,h2,h3⟩:=h.gF b _ hb r o q hφ
 have hl:=hv.1
 have hs:∀j,o+cs.length≤j→j<o+cs.length+vs.length→(w.cell? ⟨r,j,none⟩).isSome=true:=fun j a c=>(h2 j (by omega) (by omega)).2.2
 have tr:=Tr.setCells w r (o+cs.length) vs hs
 have hS:∀r' j,r9 r (o+cs.length) vs.length r' j→g.κ r' j=.mut b:=by
  rintro r' j⟨rfl,a,c⟩;exact(h2 j (by omega) (by omega)).1
 have hκ:∀r' j,g'.κ r' j=if r'=r∧o≤j∧j<q then .mut H.length else g.κ r' j:=by
  intro r' j
  simp only[g',Ctx.at,Ctx.row]
  by_cases e:r'=r
  ·subst e;simp
  ·simp[e]
 have iV:∀b',g'.φ b'=if b'=H.length then some (r,o,q)else g.φ b':=fun b'=>rfl
 have le:Le g w g' (w.setCells r (o+cs.length) vs):=Le.fJ tr
  (fun b' x hx=>by rw[iV];split;rename_i e;rw[e,h.DE (Nat.le_refl _)]at hx;cases hx;exact hx)
  (fun r' j hk=>by rw[hκ];split;rename_i c;obtain⟨rfl,a,c⟩:=c;rw[(h2 j a c).1]at hk;cases hk;exact hk) (fun _ _ _ h=>h) (fun r' j dW e=>by rw[hS r' j dW]at e;cases e)
 refine⟨le,h.step (fun b'=>b'=b∨b'=H.length) tr le (fun r' j dW=>.inr (.inl ⟨b,hS r' j dW,.inl rfl⟩)) (fun _ hm=>hm.elim) (fun r' j hr=>?_) (fun b' x hx=>?_) (fun t e x hx=>?_) (fun b' eR hn=>?_) (fun r' j b' hn=>?_) (fun _ _ _ _=>rfl) (fun b' x hx=>?_),?_,fun b' x a c d=>?_⟩
 ·rw[cJ]at hr
  rw[hκ];split
  ·rename_i c;obtain⟨rfl,a,c⟩:=c
   have:=h.fresh r' j hr
   rw[(h2 j a c).1]at this;cases this
  ·exact h.fresh r' j hr
 ·rw[iV]at hx
  simp only[List.length_append,List.length_set,List.length_singleton]
  split at hx
  ·omega
  ·have:=h.nH b' x hx;omega
 ·simp only[List.length_append,List.length_set,List.length_singleton]
  have:=h.ft t e x hx;omega
 ·rw[iV,if_neg (by omega)]
 ·constructor<;>intro e<;>rw[hκ]<;>split
  ·rename_i c;obtain⟨rfl,a,c⟩:=c;rw[(h2 j a c).1]at e;cases e;exact absurd (.inl rfl) hn
  ·exact e
  ·rename_i c;obtain⟨rfl,a,c⟩:=c;rw[(h2 j a c).1]at e;cases e
  ·exact e
 ·by_cases e:b'=H.length
  ·right
   subst e
   have ie:x=.cells (cs++ts):=by
    have:(H.set b B.dead++[.cells (cs++ts)])[H.length]?=some (.cells (cs++ts)):=by
     rw[List.getElem?_append_right (by simp)];simp
    rw[this]at hx;cases hx;rfl
   subst ie
   intro r' o' q' hq
   rw[iV,if_pos rfl]at hq
   simp only[Option.some.injEq,Prod.mk.injEq]at hq
   obtain⟨rfl,rfl,rfl⟩:=hq
   refine⟨by rw[List.length_append];omega,fun j a c=>⟨by rw[hκ];simp[a,c],by rw[World.frozen?_setCells];exact(h2 j a c).2.1,tr.jc r j ?_ (h2 j a c).2.2⟩,fun i t hi=>?_⟩
   ·obtain⟨x,hx⟩:=Option.isSome_iff_exists.1 (h2 j a c).2.2;exact hY hx
   ·rw[List.getElem?_append]at hi
    split at hi
    ·rename_i aE
     obtain⟨a,v,Hf,Hg⟩:=h3 i t hi
     exact⟨a,v,by rw[bN r vs _ w r (o+i) (by omega)];exact Hf,Hg.mono le⟩
    ·rename_i dD
     have aE:i-cs.length<vs.length:=by rw[←hl];exact(List.getElem?_eq_some_iff.1 hi).1
     refine⟨ho t (List.mem_of_getElem? hi),_,?_,(hv.2 _ t _ hi (List.getElem?_eq_getElem aE)).mono le⟩
     have:=bQ r vs (o+cs.length) w hs (i-cs.length) _ (List.getElem?_eq_getElem aE)
     rwa[show o+cs.length+(i-cs.length)=o+i by omega]at this
  ·have cX:(H.set b B.dead)[b']?=some x:=bO (by simpa using e) hx
   rcases cB iW cX with⟨rfl,rfl⟩|⟨aY,ie⟩
   ·right;trivial
   ·exact .inl ⟨by rintro (h|h);exact aY h;exact e h,ie⟩
 ·simp
 ·have aE:b'<H.length:=(List.getElem?_eq_some_iff.1 a).1
  have aY:b'≠b:=by rintro rfl;rw[hφ]at d;cases d
  exact⟨fu (da a aY),by rw[iV,if_neg (by omega)];exact d⟩
theorem yU {x:T}{vx:Value}(hx:VR g w x vx)(hk:vj x=true):∃(a:Option Addr) (l c:Nat),vx=.slice a l c∧l≤c:=by
 cases hx with
 | slnil=>exact⟨_,_,_,rfl,Nat.le_refl _⟩
 | gu=>exact⟨_,_,_,rfl,Nat.le_refl _⟩
 | sl b6 r6 hc hn h1 h2=>exact⟨_,_,_,rfl,hc⟩
 | aB h hc hq=>exact⟨_,_,_,rfl,hc⟩
 | _=>simp[vj]at hk
theorem yV {sT xT elem rt:TypeId}{ei:TypeInfo}{zv:Value}{n bytes:Nat}{x y t:T}{new:List (List T)}{vx vy:Value}{H':ae}(E:mh P sT xT elem ei zv n bytes)
  (h:SR w0 g H w) (hx:VR g w x vx) (hy:VR g w y vy) (o7:bl H n y=some new) (he:ko H n bytes x new=some (t,H')) :
  bp P w0 g H w (Builtin.append_ #[sT,xT] rt #[vx,vy]) t H':=by
 obtain⟨vs,s1,s2,s3,s4,s5,s6⟩:=vC (P:=P) h hy o7
 have oV:=eL new s5
 cases ig:new with
 | nil =>
  subst ig
  simp only[ko]at he
  split at he
  case isFalse=>cases he
  rename_i hk
  simp only[Option.some.injEq,Prod.mk.injEq]at he
  obtain⟨rfl,rfl⟩:=he
  have l3:vs=[]:=by simpa using s6
  subst l3
  have:∃a l c,vx=.slice a l c∧l≤c:=yU hx hk
  obtain⟨a,l,c,rfl,FI⟩:=this
  exact bp.same h (jg E s1 (s2 w rfl) FI) hx
 | cons c0 Oe =>
  have hlen:0<new.length:=by rw[ig];simp
  rw[ig]at he
  simp only[ko]at he
  rw[←ig]at he
  have empty:∀(a:Option Addr),vx=.slice a 0 0→dv (0+new.length) bytes=true→t=.aB H.length 0 new.length n→H'=H++[.cells new.flatten]→bp P w0 g H w (Builtin.append_ #[sT,xT] rt #[vx,vy]) t H':=by
   rintro a rfl fL rfl rfl
   have JZ:∀w':World,w'.heap=w.heap→(Builtin.firstCells n 0 (.slice a 0 0)).run P w'=.ok ([]:List Value).toArray w':=by
    intro w' _
    cases a with
    | none=>simp[Builtin.firstCells]
    | some a=>simpa[Builtin.firstCells]using run_loadCells_list (P:=P) w' a [] (by simp)
   obtain⟨db,rest,lz,o8,bG⟩:=fK (rt:=rt) (w:=w) E s1 s2 JZ (by omega) fL
   have aQ:(([]:List Value)++vs++rest).toArray.size=db*n:=by
    simp only[List.size_toArray,List.nil_append]
    rw[List.length_append,s6,o8,←Nat.add_mul];congr 1;omega
   have jj:∀(i:Nat) (t:T),new.flatten[i]?=some t→t.one=true∧∃v,(([]:List Value)++vs++rest).toArray[i]?=some v∧VR g w t v:=by
    intro i t hi
    obtain⟨v,h1,h2⟩:=s3.eC i t hi
    refine⟨s4 t (List.mem_of_getElem? hi),v,?_,h2⟩
    simp only[List.nil_append,List.getElem?_toArray]at h1 ⊢
    rw[List.getElem?_append_left (List.getElem?_eq_some_iff.1 h1).1];exact h1
   obtain⟨g',le,sr,fr,hφ⟩:=h.fC (c:=([]++vs++rest).toArray) (ty:=elem) (cs:=new.flatten) (nq w) rfl jj
   refine⟨_,_,g',bG,le,sr,?_,fr⟩
   rw[Nat.zero_add]at lz ⊢
   exact .aB (r:=w.heap.size) (o:=0) (off:=0) hφ lz (by rw[aQ];simp)
  cases x with
  | sl k es =>
   cases k with
   | nil =>
    simp only at he
    split at he
    ·rename_i hc
     obtain⟨fL,rfl⟩:=hc
     simp only[Option.some.injEq,Prod.mk.injEq]at he
     cases hx with
     | slnil=>exact empty none rfl (by simpa using fL) he.1.symm he.2.symm
     | sl b6 hk=>exact hk.elim
    ·cases he
   | full =>
    simp only at he
    split at he
    ·rename_i hc
     obtain⟨fL,rfl⟩:=hc
     simp only[Option.some.injEq,Prod.mk.injEq]at he
     cases hx with
     | sl b6 hk =>
      simp only[pw,List.length_nil]at hk
      subst hk
      exact empty _ rfl (by simpa using fL) he.1.symm he.2.symm
    ·cases he
   | arg=>cases he
   | own _ _=>cases he
  | aB b off len n' =>
   simp only at he
   cases hb:H[b]? with
   | none=>simp[hb]at he
   | some z =>
    cases z with
    | cells cs =>
     simp only[hb]at he
     split at he
     ·rename_i hc
      obtain⟨rfl,rfl,r7,fL⟩:=hc
      simp only[Option.some.injEq,Prod.mk.injEq]at he
      obtain⟨rfl,rfl⟩:=he
      cases hx with
      | @aB _ _ _ _ r o q cap hφ lh hq =>
       obtain⟨h1,h2,h3⟩:=h.gF b _ hb r o q hφ
       have iW:b<H.length:=(List.getElem?_eq_some_iff.1 hb).1
       by_cases jf:len+new.length≤cap
       ·have RJ:o+cs.length+new.flatten.length≤q:=by
         rw[oV,←r7,←hq,Nat.add_assoc,←Nat.add_mul]
         have:=Nat.mul_le_mul_right n' jf
         omega
        obtain⟨le,sr,fr⟩:=h.JY hb hφ s3 s4 RJ
        have l3:vs.length=new.flatten.length:=by rw[s6,oV]
        have ji:=run_storeCells_cells (P:=P) r (o+0+len*n') vs 0 w (fun j hj=>by simpa using (h2 (o+len*n'+j) (by omega) (by omega)).2.2) (fun j hj=>by simpa using (h2 (o+len*n'+j) (by omega) (by omega)).2.1) (s3.gv s4)
        rw[Nat.add_zero]at ji
        have bG:=jX (rt:=rt) (cap:=cap) E s1 (s2 w rfl) jf ji
        rw[r7]at bG
        refine⟨_,_,_,bG,le,sr,?_,fr⟩
        exact .aB (off:=0) (r:=r) (o:=o) (q:=q) (by simp[Ctx.at]) jf (by rw[←hq])
       ·have hp:iU H (len*n') (.ptr b 0)=some cs:=by simp[iU,hb,r7]
        obtain⟨r',o',jb,e1,e2,e3,e4,e5⟩:=kr h (.ptr hφ) hp
        cases e1
        have CY:∀w':World,w'.heap=w.heap→(Builtin.firstCells n' len (.slice (some ⟨r,o+0,none⟩) len cap)).run P w'=.ok jb.toArray w':=by
         intro w' um
         have:=run_loadCells_list (P:=P) w' ⟨r,o+0,none⟩ jb (fun j v hj=>by rw[mi um,b7];exact e3 j v hj)
         rw[e2]at this
         simpa[Builtin.firstCells]using this
        obtain⟨db,rest,lz,o8,bG⟩:=fK (rt:=rt) (w:=w) E s1 s2 CY (by omega) fL
        have aQ:(jb++vs++rest).toArray.size=db*n':=by
         simp only[List.size_toArray]
         rw[List.length_append,List.length_append,e2,s6,o8,←Nat.add_mul,←Nat.add_mul];congr 1;omega
        have yW:a6 g w (cs++new.flatten) (jb++vs):=a6.append e4 s3
        obtain⟨le,sr,fr⟩:=h.mut (c:=(jb++vs++rest).toArray) (ty:=elem) (H':=H.set b .dead++[.cells (cs++new.flatten)]) (b:=H.length) (cs:=cs++new.flatten) (nq w) rfl
         (by rw[List.getElem?_append_right (by simp)];simp) (h.DE (Nat.le_refl _))
         (fun b' x aY hx=>by
          have cX:(H.set b B.dead)[b']?=some x:=bO (by simpa using aY) hx
          rcases cB iW cX with⟨_,rfl⟩|⟨_,ie⟩
          ·exact .inr rfl
          ·exact .inl ie) (by simp)
         (fun b' x a _ d _=>fu (da a (by rintro rfl;rw[hφ]at d;cases d)))
         (fun i t hi=>by
          obtain⟨v,k1,k2⟩:=yW.eC i t hi
          refine⟨?_,v,?_,k2⟩
          ·rcases List.mem_append.1 (List.mem_of_getElem? hi)with hm|hm
           ·exact e5 t hm
           ·exact s4 t hm
          ·simp only[List.getElem?_toArray]at k1 ⊢
           rw[List.getElem?_append_left (List.getElem?_eq_some_iff.1 k1).1];exact k1)
        refine⟨_,_,_,bG,le,sr,.aB (r:=w.heap.size) (o:=0) (off:=0) (q:=(jb++vs++rest).toArray.size) (by simp[Ctx.at]) lz (by rw[aQ];simp),by simp,fun b' x a c d=>fr b' x a c d (by have:=(List.getElem?_eq_some_iff.1 a).1;omega)⟩
     ·cases he
    | map _=>simp[hb]at he
    | tok _=>simp[hb]at he
    | _=>simp[hb]at he
  | _=>simp at he
theorem pG:∀(vs:List Value) (k off:Nat) (cells:Array Value),off+k+vs.length≤cells.size →
  ((vs.zipIdx k).foldl (fun (cs:Array Value) (x:Value×Nat)=>cs.setIfInBounds (off+x.2) x.1) cells).toList=cells.toList.take (off+k)++vs++cells.toList.drop (off+k+vs.length)
 | [],k,off,cells,_=>by simp
 | v :: vs,k,off,cells,h=>by
  simp only[List.length_cons]at h
  rw[List.zipIdx_cons,List.foldl_cons,pG vs (k+1) off _ (by simp;omega)]
  simp only[Array.toList_setIfInBounds,List.length_cons]
  have aE:off+k<cells.toList.length:=by simp;omega
  rw[show off+(k+1)=off+k+1 by omega,List.take_add_one]
  rw[show off+k+1+vs.length=off+k+(vs.length+1) by omega]
  rw[List.take_set_of_le (Nat.le_refl _),List.getElem?_set_self aE,List.drop_set_of_lt (by omega)]
  simp
theorem mj {off size:Nat}{v:Value}{cells:Array Value}(hs:v.cells.size=size)(hle:off+size≤cells.size) :
  (v.cells.zipIdx.foldl (fun (cs:Array Value) (x:Value×Nat)=>cs.setIfInBounds (off+x.2) x.1) cells).toList=cells.toList.take off++v.cells.toList++cells.toList.drop (off+size):=by
 have:=pG v.cells.toList 0 off cells (by simp[hs];omega)
 rw[←Array.foldl_toList,Array.toList_zipIdx]
 simpa[hs]using this
def placesOf (P:Program):List Field→List (Nat×Nat)
 | []=>[]
 | f :: fs=>(f.offset,P.cellsOf f.type) :: placesOf P fs
theorem run_places {fs:List Field}(hi:∀f∈fs,∃i,P.info? f.type=some i):(fs.mapM fun f=>do pure (f.offset,←sizeOf f.type):Sem (List (Nat×Nat))).run P w=.ok (placesOf P fs) w:=by
 induction fs with
 | nil=>simp[placesOf]
 | cons f fs ih =>
  obtain⟨i,hf⟩:=hi f (by simp)
  have ih:=ih (fun f' h'=>hi f' (by simp[h']))
  have h0:(sizeOf f.type).run P w=.ok i.size w:=by simp[sizeOf,aS hf]
  rw[List.mapM_cons]
  simp only[Sem.run_bind,h0,Result.andThen_ok,Sem.run_pure,ih]
  simp[placesOf,Program.cellsOf,hf]
inductive PV (g:Ctx)(w:World)(R:ax):List (Nat×X)→List (Nat×Value)→Prop
 | nil:PV g w R [] []
 | cons {i:Nat} {x:X} {v:Value} {ps:List (Nat×X)} {pv:List (Nat×Value)} (h:VR g w (x.ev R) v) (hs:PV g w R ps pv):PV g w R ((i,x) :: ps) ((i,v) :: pv)
theorem DN {R:ax}{place:Nat→Option (Nat×Nat)}{ps:List (Nat×X)}{pv:List (Nat×Value)}(hv:PV g w R ps pv):∀(l:List (Nat×List T)) (z cs:List T) (cells:Array Value),(∀p∈ps,(place p.1).isSome=true) →
  dI R (ps.map fun p=>(((place p.1).getD (0,0)).1,((place p.1).getD (0,0)).2,p.2))=some l→jV z l=some cs→a6 g w z cells.toList→bJ z →
  ∃b8,Instr.fill place cells pv=some b8∧a6 g w cs b8.toList∧bJ cs∧b8.size=cells.size:=by
 induction hv with
 | nil =>
  intro l z cs cells hp hl hf hz ho
  simp[dI]at hl;subst hl
  simp[jV]at hf;subst hf
  exact⟨cells,rfl,hz,ho,rfl⟩
 | @cons i x v ps pv J0 _ ih =>
  intro l z cs cells hp hl hf hz ho
  have Nu:=hp (i,x) (by simp)
  cases kz:place i with
  | none=>simp[kz]at Nu
  | some os =>
   obtain⟨off,size⟩:=os
   simp only[List.map_cons,kz,Option.getD_some]at hl
   simp only[dI]at hl
   cases hc:(x.ev R).cells? with
   | none=>simp[hc]at hl
   | some c =>
    cases hr:dI R (ps.map fun p=>(((place p.1).getD (0,0)).1,((place p.1).getD (0,0)).2,p.2))with
    | none=>simp[hc,hr]at hl
    | some l' =>
     simp only[hc,hr]at hl
     split at hl
     ·rename_i lg
      simp at hl;subst hl
      simp only[jV]at hf
      split at hf
      ·rename_i hle
       obtain⟨vD,J1⟩:=gP J0 hc
       have aQ:v.cells.size=size:=by have:=vD.1;simp at this;omega
       have sg:z.length=cells.size:=by have:=hz.1;simpa using this
       have Oh:off+size≤cells.size:=by omega
       have bz:=mj aQ Oh
       have oW:a6 g w (z.take off++c++z.drop (off+c.length)) (v.cells.zipIdx.foldl (fun (cs:Array Value) (x:Value×Nat)=>cs.setIfInBounds (off+x.2) x.1) cells).toList:=by
        rw[bz,lg]
        exact a6.append (a6.append (hz.take off) vD) (hz.drop (off+size))
       have ky:bJ (z.take off++c++z.drop (off+c.length)):=by
        intro t ht
        rcases List.mem_append.1 ht with ht|ht
        ·rcases List.mem_append.1 ht with ht|ht
         ·exact ho t (List.mem_of_mem_take ht)
         ·exact J1 t ht
        ·exact ho t (List.mem_of_mem_drop ht)
       obtain⟨b8,k1,k2,k3,k4⟩:=ih l' _ cs _ (fun x hx=>hp x (by simp[hx])) hr hf oW ky
       refine⟨b8,?_,k2,k3,?_⟩
       ·simp only[Instr.fill,kz]
        rw[if_neg]
        ·exact k1
        ·simp[aQ];omega
       ·rw[k4]
        have:=congrArg List.length bz
        simp only[Array.length_toList,List.length_append,List.length_take,List.length_drop]at this
        omega
      ·cases hf
     ·cases hl
theorem xb {ty:TypeId}{fs:Array Field}{i:TypeInfo}{zv:Value}{R:ax}{ps:List (Nat×X)}{pv:List (Nat×Value)}{z cs:List T}{l:List (Nat×List T)}(hu:P.underlying ty=some (.struct fs))(hi:P.info? ty=some i)(hz:i.zero=some zv)(yX:dy zv.cells.toList=some z)
  (rI:∀f∈fs.toList,∃i,P.info? f.type=some i) (hp:∀p∈ps,p.1<fs.size) (h:SR w0 g H w) (hv:PV g w R ps pv)
  (hl:dI R (ps.map fun p=>((((placesOf P fs.toList)[p.1]?).getD (0,0)).1,(((placesOf P fs.toList)[p.1]?).getD (0,0)).2,p.2))=some l) (hf:jV z l=some cs) :
  bp P w0 g H w (Instr.build ty pv.toArray) (.agg cs) H:=by
 obtain⟨xc,yc⟩:=cI (g:=g) (w:=w) _ _ yX
 have hlen:∀l:List Field,(placesOf P l).length=l.length:=by
  intro l;induction l with
  | nil=>rfl
  | cons f l ih=>simp[placesOf,ih]
 have SY:∀p∈ps,((placesOf P fs.toList)[p.1]?).isSome=true:=fun p SZ=>by
  have:=hp p SZ
  rw[List.getElem?_eq_getElem (by rw[hlen];simpa using this)];rfl
 obtain⟨b8,k1,k2,k3,_⟩:=DN (place:=fun (i:Nat)=>(placesOf P fs.toList)[i]?) hv l z cs zv.cells SY hl hf xc yc
 refine bp.same h (v:=.agg b8) ?_ (by have:=k2.agg k3;simpa using this)
 have kz:(fs.mapM fun f=>do pure (f.offset,←sizeOf f.type):Sem (Array (Nat×Nat))).run P w=.ok (placesOf P fs.toList).toArray w:=by
  rw[Array.mapM_eq_mapM_toList]
  simp only[Sem.run_map,run_places rI,Result.andThen_ok]
 simp only[Instr.build,zeroValue,Sem.run_bind,aS hi,hz,Result.andThen_ok,Sem.run_pure,run_underlying hu,kz]
 have e:(fun (x:Nat)=>(placesOf P fs.toList).toArray[x]?)=fun (i:Nat)=>(placesOf P fs.toList)[i]?:=by funext x;simp
 simp[e,k1]
end
section
variable {P:Program} {w0 w:World} {g:Ctx} {H:ae}
theorem jk {n:Nat}:∀(es:List (List T)) (i:Nat) (c:List T),(∀c∈es,c.length=n)→i<es.length→(es.set i c).flatten=es.flatten.take (i*n)++c++es.flatten.drop (i*n+n)
 | [],i,c,_,h=>by simp at h
 | d :: es,0,c,hn,_=>by
  have hd:=hn d (by simp)
  simp[←hd]
 | d :: es,i+1,c,hn,h=>by
  have hd:=hn d (by simp)
  have ih:=jk es i c (fun c hc=>hn c (by simp[hc])) (by simpa using h)
  simp only[List.set_cons_succ,List.flatten_cons,ih]
  have e1:(d++es.flatten).take ((i+1)*n)=d++es.flatten.take (i*n):=by
   rw[List.take_append,hd,Nat.succ_mul]
   rw[List.take_of_length_le (by omega)]
   congr 2;omega
  have e2:(d++es.flatten).drop ((i+1)*n+n)=es.flatten.drop (i*n+n):=by
   rw[List.drop_append,hd,Nat.succ_mul]
   rw[List.drop_of_length_le (by omega)]
   simp only[List.nil_append]
   congr 1;omega
  rw[e1,e2];simp
theorem yY {R:ax}{n:Nat}{ps:List (Nat×X)}{pv:List (Nat×Value)}(hv:PV g w R ps pv):∀(es fs:List (List T)) (cells:Array Value),gN n es R ps=some fs→(∀c∈es,c.length=n)→a6 g w es.flatten cells.toList→bJ es.flatten →
  ∃b8,Instr.fill (fun i=>some (i*n,n)) cells pv=some b8∧a6 g w fs.flatten b8.toList∧bJ fs.flatten∧(∀c∈fs,c.length=n)∧fs.length=es.length:=by
 induction hv with
 | nil =>
  intro es fs cells he hn hz ho
  simp[gN]at he;subst he
  exact⟨cells,rfl,hz,ho,hn,rfl⟩
 | @cons i x v ps pv J0 _ ih =>
  intro es fs cells he hn hz ho
  simp only[gN]at he
  cases hc:(x.ev R).cells? with
  | none=>simp[hc]at he
  | some c =>
   simp only[hc]at he
   split at he
   ·rename_i a9
    obtain⟨lg,hi⟩:=a9
    obtain⟨vD,J1⟩:=gP J0 hc
    have aQ:v.cells.size=n:=by have:=vD.1;simp at this;omega
    have jQ:=eL es hn
    have sg:es.flatten.length=cells.size:=by have:=hz.1;simpa using this
    have hle:i*n+n≤cells.size:=by
     rw[←sg,jQ,←Nat.succ_mul];exact Nat.mul_le_mul_right _ hi
    have bz:=mj aQ hle
    have qG:=jk es i (c.map T.erase) hn hi
    have oW:a6 g w (es.set i (c.map T.erase)).flatten (v.cells.zipIdx.foldl (fun (cs:Array Value) (x:Value×Nat)=>cs.setIfInBounds (i*n+x.2) x.1) cells).toList:=by
     rw[bz,qG]
     exact a6.append (a6.append (hz.take _) vD.erase) (hz.drop _)
    have ky:bJ (es.set i (c.map T.erase)).flatten:=by
     rw[qG]
     intro t ht
     rcases List.mem_append.1 ht with ht|ht
     ·rcases List.mem_append.1 ht with ht|ht
      ·exact ho t (List.mem_of_mem_take ht)
      ·exact nY J1 t ht
     ·exact ho t (List.mem_of_mem_drop ht)
    obtain⟨b8,k1,k2,k3,k4,k5⟩:=ih _ fs _ he (fun c' mc=>by
     rcases List.mem_or_eq_of_mem_set mc with h|h
     ·exact hn c' h
     ·rw[h,List.length_map];exact lg) oW ky
    refine⟨b8,?_,k2,k3,k4,by simpa using k5⟩
    simp only[Instr.fill]
    rw[if_neg]
    ·exact k1
    ·simp[aQ];omega
   ·cases he
theorem jl {n:Nat}{z:List T}{zc:Array Value}(hz:a6 g w z zc.toList)(hn:z.length=n)(m:Nat):a6 g w (List.replicate m z).flatten ((Array.range (m*n)).map (fun i=>zc[i%zc.size]!)).toList:=by
 have DK:zc.size=n:=by have:=hz.1;simp at this;omega
 refine⟨by simp[hn],fun i t v a b=>?_⟩
 have hi:i<m*n:=by
  have:=(List.getElem?_eq_some_iff.1 b).1
  simpa using this
 have xd:0<n:=by
  rcases Nat.eq_zero_or_pos n with e|e
  ·subst e;simp at hi
  ·exact e
 have S0:i/n<m:=Nat.div_lt_of_lt_mul (by rw[Nat.mul_comm];exact hi)
 have J2:i%n<z.length:=by rw[hn];exact Nat.mod_lt _ xd
 have e1:(List.replicate m z)[i/n]?=some z:=by simp[S0]
 have:=je (n:=n) (List.replicate m z) (fun c hc=>by rw[List.eq_of_mem_replicate hc];exact hn) (i/n) (i%n) z _ e1 (List.getElem?_eq_getElem J2)
 rw[show i/n*n+i%n=i by rw[Nat.mul_comm,Nat.div_add_mod]]at this
 rw[this]at a
 simp at a;subst a
 have aE:i%zc.size<zc.toList.length:=by rw[DK];simp[DK];exact Nat.mod_lt _ xd
 have e2:zc.toList[i%zc.size]?=some v:=by
  simp[hi]at b
  rw[←b,List.getElem?_eq_getElem aE]
  have:i%zc.size<zc.size:=by simpa using aE
  simp[this]
 rw[DK]at e2
 exact hz.2 (i%n) _ v (List.getElem?_eq_getElem J2) e2
theorem gQ {z:List T}(ho:bJ z)(m:Nat):bJ (List.replicate m z).flatten:=by
 intro t ht
 obtain⟨c,h1,h2⟩:=List.mem_flatten.1 ht
 rw[List.eq_of_mem_replicate h1]at h2
 exact ho t h2
theorem yZ (w:World):Tr w w ff gz:=Tr.refl w
theorem DP {ty elem:TypeId}{ei:TypeInfo}{zv:Value}{R:ax}{ps:List (Nat×X)}{pv:List (Nat×Value)}{z:List T}{len:Nat}{fs:List (List T)}(hu:P.underlying ty=some (.slice elem))(hi:P.info? elem=some ei)(hz:ei.zero=some zv)(yX:dy zv.cells.toList=some z)
  (uo:z.length=ei.size) (aQ:len*ei.size≤2^24) (h:SR w0 g H w) (hv:PV g w R ps pv) (he:gN z.length (List.replicate len z) R ps=some fs) :
  bp P w0 g H w (Instr.buildSlice ty len pv.toArray) (.sl .full fs) H:=by
 obtain⟨xc,yc⟩:=cI (g:=g) (w:=w) _ _ yX
 have Oi:=jl xc uo len
 have JZ:=gQ yc len
 rw[uo]at he
 obtain⟨b8,k1,k2,k3,k4,k5⟩:=yY hv _ fs ((Array.range (len*ei.size)).map (fun i=>zv.cells[i%zv.cells.size]!)) he (fun c hc=>by rw[List.eq_of_mem_replicate hc];exact uo) Oi JZ
 have hlen:fs.length=len:=by rw[k5];simp
 obtain⟨le,sr,fr,hC⟩:=h.hC (c:=b8) (ty:=elem) (yZ w) rfl
 refine⟨.slice (some ⟨w.heap.size,0,none⟩) len len,_,_,?_,le,sr,?_,fr⟩
 ·have y0:¬len*ei.size>2^24:=by omega
  by_cases h0:len*ei.size=0
  ·have e0:((Array.range (len*ei.size)).map (fun i=>zv.cells[i%zv.cells.size]!))=((Array.range (len*ei.size)).map (fun i=>(#[]:Array Value)[i%(#[]:Array Value).size]!)):=by
    rw[h0];simp
   rw[e0]at k1
   simp only[Instr.buildSlice,Sem.run_bind,run_underlying hu,Result.andThen_ok,sizeOf,aS hi,Sem.run_pure,y0,if_false,h0,if_true]
   rw[h0]at k1
   simp at k1
   simp[k1,newRow]
  ·simp only[Instr.buildSlice,Sem.run_bind,run_underlying hu,Result.andThen_ok,sizeOf,aS hi,Sem.run_pure,y0,if_false,h0,zeroValue,hz]
   simp[k1,newRow]
 ·have:=VR.qF (k:=.full) (r:=w.heap.size) (o:=0) (cap:=fs.length) k4 (k2.mono le) k3 (Nat.le_refl _) rfl (fun j v hj=>by rw[Nat.zero_add];exact hC j v (by simpa using hj))
  rw[hlen]at this;exact this
theorem wrap_i64 {n:Int}(h0:0≤n)(h1:n≤9223372036854775807):IntKind.i64.wrap n=n:=IntWalk.i64_in n (by omega)
theorem run_makeSlice {ty elem:TypeId}{ei:TypeInfo}{zv:Value}{k1 k2:IntKind}{l c:Int}(hu:P.underlying ty=some (.slice elem))(hi:P.info? elem=some ei)(hz:ei.zero=some zv)(h0:0≤l)(FI:l≤c)(hc:c*ei.bytes≤281474976710656)(mc:c≤9223372036854775807) :
  (Instr.makeSlice ty (.int k1 l) (.int k2 c)).run P w=.ok (.slice (some ⟨w.heap.size,0,none⟩) l.toNat c.toNat)
   (w.alloc (.cells ((Array.range (c.toNat*ei.size)).map (fun i=>(if c.toNat*ei.size=0 then(#[]:Array Value)else zv.cells)[i%(if c.toNat*ei.size=0 then(#[]:Array Value)else zv.cells).size]!)) elem)):=by
 have e1:=wrap_i64 h0 (by omega:l≤9223372036854775807)
 have e2:=wrap_i64 (by omega:0≤c) mc
 have t1:((decide (c<0)||decide ((ei.bytes:Int)*c>2^48))||decide (l<0)||decide (l>c))=false:=by
  have:(ei.bytes:Int)*c=c*ei.bytes:=Int.mul_comm _ _
  simp[this];omega
 simp only[Instr.makeSlice,Sem.run_bind,run_underlying hu,Result.andThen_ok,asInt,asIntOf,Sem.run_pure,aS hi,e1,e2,t1]
 by_cases hn:c.toNat*ei.size=0
 ·simp[sizeOf,aS hi,hn,newRow]
 ·simp[sizeOf,aS hi,hn,zeroValue,hz,newRow]
theorem DQ {ty elem:TypeId}{ei:TypeInfo}{zv:Value}{mu:Bool}{z:List T}{x y t:T}{l c:Nat}{vx vy:Value}{H':ae}(hu:P.underlying ty=some (.slice elem))(hi:P.info? elem=some ei)(hz:ei.zero=some zv)(yX:dy zv.cells.toList=some z)(uo:z.length=ei.size)(xd:ei.size≠0)
  (h:SR w0 g H w) (hx:VR g w x vx) (hy:VR g w y vy) (hl:bd x=some l) (hc:bd y=some c) (FI:l≤c) (hb:c*ei.bytes≤281474976710656) (VC:c≤9223372036854775807)
  (he:(if mu then(T.aB H.length 0 l z.length,H++[.cells (List.replicate l z).flatten])else if l=0 then(.sl .arg [],H)else(.sl (.own H.length l) (List.replicate l z),H++[.tok l]))=(t,H')) :
  bp P w0 g H w (Instr.makeSlice ty vx vy) t H':=by
 obtain⟨xc,yc⟩:=cI (g:=g) (w:=w) _ _ yX
 obtain⟨k1,n1,rfl,a1,b1⟩:=cU hx hl
 obtain⟨k2,n2,rfl,a2,b2⟩:=cU hy hc
 have bG:=run_makeSlice (P:=P) (w:=w) (k1:=k1) (k2:=k2) hu hi hz a1 (by omega:n1≤n2) (by
  have:(n2.toNat:Int)=n2:=Int.toNat_of_nonneg a2
  rw[←this,b2];omega) (by omega)
 rw[b1,b2]at bG
 have FJ:=jl xc uo c
 have dn:=gQ yc c
 have y6:(List.replicate c z).flatten=(List.replicate l z).flatten++(List.replicate (c-l) z).flatten:=by
  rw[←List.flatten_append,List.replicate_append_replicate];congr 2;omega
 have RK:(List.replicate l z).flatten.length=l*ei.size:=by rw[eL (n:=ei.size) _ (fun c hc=>by rw[List.eq_of_mem_replicate hc];exact uo),List.length_replicate]
 have gR:(Array.range (c*ei.size)).map (fun i=>(if c*ei.size=0 then(#[]:Array Value)else zv.cells)[i%(if c*ei.size=0 then(#[]:Array Value)else zv.cells).size]!)=(Array.range (c*ei.size)).map (fun i=>zv.cells[i%zv.cells.size]!):=by
  by_cases h0:c*ei.size=0
  ·rw[h0];simp
  ·simp only[h0,if_false]
 rw[gR]at bG
 generalize hA:(Array.range (c*ei.size)).map (fun i=>zv.cells[i%zv.cells.size]!)=A at bG FJ
 have aQ:A.size=c*ei.size:=by rw[←hA];simp
 have jj:∀(i:Nat) (t:T),(List.replicate l z).flatten[i]?=some t→t.one=true∧∃v,A[i]?=some v∧VR g w t v:=by
  intro i t lY
  have e:(List.replicate c z).flatten[i]?=some t:=by
   rw[y6,List.getElem?_append_left (List.getElem?_eq_some_iff.1 lY).1];exact lY
  obtain⟨v,h1,h2⟩:=FJ.eC i t e
  exact⟨dn t (List.mem_of_getElem? e),v,by simpa using h1,h2⟩
 cases mu with
 | true =>
  simp only[if_true,Prod.mk.injEq]at he
  obtain⟨rfl,rfl⟩:=he
  obtain⟨g',le,sr,fr,hφ⟩:=h.fC (c:=A) (ty:=elem) (yZ w) rfl jj
  exact⟨_,_,g',bG,le,sr,.aB (r:=w.heap.size) (o:=0) (off:=0) hφ FI (by rw[aQ,uo];simp),fr⟩
 | false =>
  simp only[Bool.false_eq_true,if_false]at he
  split at he
  ·rename_i vt
   subst vt
   simp only[Prod.mk.injEq]at he
   obtain⟨rfl,rfl⟩:=he
   obtain⟨le,sr,fr,hC⟩:=h.hC (c:=A) (ty:=elem) (yZ w) rfl
   exact⟨_,_,_,bG,le,sr,.sl (n:=0) (fun _ _=>.nilIface) trivial (by simp) (by simp) (by simp) (by simp),fr⟩
  ·rename_i vt
   simp only[Prod.mk.injEq]at he
   obtain⟨rfl,rfl⟩:=he
   obtain⟨le,sr,fr,hC,hp⟩:=h.yT (c:=A) (ty:=elem) (t:=H.length) (e:=l) (k:=l*ei.size) (H':=H++[.tok l]) (yZ w) rfl (dm _ _) (by rw[aQ];exact Nat.mul_le_mul_right _ FI) (fun DL _=>h.Oc (Nat.le_refl _))
    (fun b' x e hx=>bO e hx) (by simp) (fun b' x hx _=>fu hx)
   refine⟨_,_,_,bG,le,sr,?_,fr⟩
   have hv:a6 g w (List.replicate l z).flatten (A.toList.take (l*ei.size)):=by
    have:=FJ.take (l*ei.size)
    rwa[y6,List.take_append_of_le_length (by omega),List.take_of_length_le (by omega)]at this
   have:=VR.qF (k:=.own H.length l) (r:=w.heap.size) (o:=0) (cap:=c) (n:=ei.size) (es:=List.replicate l z) (fun c hc=>by rw[List.eq_of_mem_replicate hc];exact uo) (hv.mono le) (gQ yc l) (by simpa using FI)
    ⟨by rw[hp,aQ];simp,by simp;omega⟩ (fun j v hj=>by
     rw[Nat.zero_add]
     rw[List.getElem?_take]at hj
     split at hj
     ·rename_i aE;exact hC j v aE (by simpa using hj)
     ·cases hj)
   simpa using this
theorem DR {f:Nat}{ja:List T}{vs:List Value}(h:SR w0 g H w)(hv:a6 g w ja vs):bp P w0 g H w (Instr.makeFunc (.func f) #[] vs.toArray) (.fn f ja) H :=
 bp.same h rfl (.fn (by simp[hv.1]) (fun i t v a b=>hv.2 i t v a (by simpa using b)))
end
section
variable {P:Program} {w0 w:World} {g:Ctx} {H:ae}
theorem VR.FB {t:T}{v:Value}(h:VR g w t v):VR g w (FB t) v:=by
 cases h with
 | dB h hc hq=>exact .aB h hc hq
 | aB h hc hq=>exact .aB h hc hq
 | int k n=>exact .int k n
 | bool b=>exact .bool b
 | str s=>exact .str s
 | bI=>exact .bI
 | ptr h=>exact .ptr h
 | bh b6 h1 h2=>exact .bh b6 h1 h2
 | eG=>exact .eG
 | map h=>exact .map h
 | slnil=>exact .slnil
 | gu a=>exact .gu a
 | sl b6 hk hc hn h1 h2=>exact .sl b6 hk hc hn h1 h2
 | kT=>exact .kT
 | fn hl h=>exact .fn hl h
 | mQ h=>exact .mQ h
 | eV=>exact .eV
 | agg hl h1 h2=>exact .agg hl h1 h2
 | bC hl h2=>exact .bC hl h2
theorem DS {ty rt:TypeId}{e:TypeId}{b off len n c:Nat}{vx:Value}(hu:P.underlying ty=some (.slice e))(h:SR w0 g H w)(hx:VR g w (.dB b off len n c) vx) :
  bp P w0 g H w (Builtin.cap_ #[ty] rt #[vx]) (.int .i64 (c:Nat)) H:=by
 cases hx with
 | dB hφ hc hq=>exact bp.same h (v:=.int .i64 c) (by simp[Builtin.cap_,run_underlying hu,goInt]) (.int _ _)
theorem nZ (cs:List T)(off n:Nat):∀k,off+k*n≤cs.length→((List.range k).map fun i=>(cs.drop (off+i*n)).take n).flatten=(cs.drop off).take (k*n)
 | 0,_=>by simp
 | k+1,h=>by
  have h':off+k*n≤cs.length:=by rw[Nat.succ_mul]at h;omega
  rw[List.range_succ,List.map_append,List.flatten_append,nZ cs off n k h',Nat.succ_mul,List.take_add]
  simp[List.drop_drop]
theorem pH {n k:Nat}{y:T}{vy:Value}{new:List (List T)}(h:SR w0 g H w)(hy:VR g w y vy)(he:fI H n k y=some new) :
  ∃r o ly cap vs,vy=.slice (some ⟨r,o,none⟩) ly cap∧Dc y=some ly∧(∀(j:Nat) (v:Value),vs[j]?=some v→w.cell? ⟨r,o+j,none⟩=some v)∧a6 g w new.flatten vs∧vs.length=k*n∧bJ new.flatten∧new.flatten.length=k*n:=by
 have key:∀(b off:Nat) (r o q:Nat),g.φ b=some (r,o,q)→(match H[b]? with|some (.cells cs)=>if off+k*n≤cs.length then some ((List.range k).map fun i=>(cs.drop (off+i*n)).take n)else none|_=>none)=some new →
   ∃vs,(∀(j:Nat) (v:Value),vs[j]?=some v→w.cell? ⟨r,o+off+j,none⟩=some v)∧a6 g w new.flatten vs∧vs.length=k*n∧bJ new.flatten∧new.flatten.length=k*n:=by
  intro b off r o q hφ he
  cases hb:H[b]? with
  | none=>simp[hb]at he
  | some z =>
   cases z<;>simp only[hb]at he<;>(try (cases he;done))
   rename_i cs
   split at he
   ·rename_i hle
    simp only[Option.some.injEq]at he
    have jQ:=nZ cs off n k hle
    rw[he]at jQ
    have hp:iU H (k*n) (.ptr b off)=some new.flatten:=by simp[iU,hb,hle,jQ]
    obtain⟨r',o',vs,e1,e2,e3,e4,e5⟩:=kr h (.ptr hφ) hp
    cases e1
    exact⟨vs,e3,e4,e2,e5,by rw[jQ,List.length_take,List.length_drop];omega⟩
   ·cases he
 cases hy<;>simp only[fI]at he<;>(try (cases he;done))
 ·rename_i b off len n' r o q cap hφ hc hq
  obtain⟨vs,a1,a2,a3,a4,a5⟩:=key b off r o q hφ (by
   cases hb:H[b]? with
   | none=>simp[hb]at he
   | some z =>
    cases z<;>simp only[hb]at he ⊢<;>(try (cases he;done))
    split at he
    ·rename_i qH;rw[if_pos qH.2];exact he
    ·cases he)
  exact⟨r,o+off,len,cap,vs,rfl,rfl,a1,a2,a3,a4,a5⟩
 ·rename_i b off len n' r o q cap hφ hc hq
  obtain⟨vs,a1,a2,a3,a4,a5⟩:=key b off r o q hφ (by
   cases hb:H[b]? with
   | none=>simp[hb]at he
   | some z =>
    cases z<;>simp only[hb]at he ⊢<;>(try (cases he;done))
    split at he
    ·rename_i qH;rw[if_pos qH.2];exact he
    ·cases he)
  exact⟨r,o+off,len,cap,vs,rfl,rfl,a1,a2,a3,a4,a5⟩
theorem SR.Hl {b off r o q:Nat}{cs ts:List T}{vs:List Value}(h:SR w0 g H w)(hb:H[b]?=some (.cells cs))(hφ:g.φ b=some (r,o,q))(w4:off≤cs.length)(hle:o+off+ts.length≤q)(hv:a6 g w ts vs)(ho:bJ ts) :
  Le g w g (w.setCells r (o+off) vs)∧SR w0 g (H.set b (.cells (cs.take off++ts++cs.drop (off+ts.length)))) (w.setCells r (o+off) vs):=by
 have iW:b<H.length:=(List.getElem?_eq_some_iff.1 hb).1
 obtain⟨h1,h2,h3⟩:=h.gF b _ hb r o q hφ
 have hl:=hv.1
 have hs:∀j,o+off≤j→j<o+off+vs.length→(w.cell? ⟨r,j,none⟩).isSome=true:=fun j a c=>(h2 j (by omega) (by omega)).2.2
 have tr:=Tr.setCells w r (o+off) vs hs
 have hS:∀r' j,r9 r (o+off) vs.length r' j→g.κ r' j=.mut b:=by
  rintro r' j⟨rfl,a,c⟩;exact(h2 j (by omega) (by omega)).1
 have le:Le g w g (w.setCells r (o+off) vs):=Le.fJ tr (fun _ _ h=>h) (fun _ _ h=>h) (fun _ _ _ h=>h) (fun r' j dW e=>by rw[hS r' j dW]at e;cases e)
 refine⟨le,h.step (fun b'=>b'=b) tr le (fun r' j dW=>.inr (.inl ⟨b,hS r' j dW,rfl⟩)) (fun _ hm=>hm.elim) (fun r' j hr=>h.fresh r' j (by rwa[cJ]at hr)) (fun b' x hx=>by rw[List.length_set];exact h.nH b' x hx)
  (fun t e x hx=>by rw[List.length_set];exact h.ft t e x hx) (fun _ _ _=>rfl) (fun _ _ _ _=>⟨id,id⟩) (fun _ _ _ _=>rfl) (fun b' x hx=>?_)⟩
 rcases cB iW hx with⟨rfl,rfl⟩|⟨aY,ie⟩
 ·right
  intro r' o' q' iV
  rw[hφ]at iV;cases iV
  have hlen:(cs.take off++ts++cs.drop (off+ts.length)).length=max cs.length (off+ts.length):=by simp;omega
  refine⟨by rw[hlen];omega,fun j a c=>⟨(h2 j a c).1,by rw[World.frozen?_setCells];exact(h2 j a c).2.1,tr.jc r j ?_ (h2 j a c).2.2⟩,fun i t hi=>?_⟩
  ·obtain⟨x,hx⟩:=Option.isSome_iff_exists.1 (h2 j a c).2.2;exact hY hx
  ·have lY:i<max cs.length (off+ts.length):=by rw[←hlen];exact(List.getElem?_eq_some_iff.1 hi).1
   by_cases kx:off≤i∧i<off+ts.length
   ·have ht:ts[i-off]?=some t:=by
     rw[List.append_assoc,List.getElem?_append_right (by simp;omega),List.getElem?_append_left (by simp;omega)]at hi
     rw[←hi];congr 1;simp;omega
    have aE:i-off<vs.length:=by omega
    refine⟨ho t (List.mem_of_getElem? ht),vs[i-off],?_,(hv.2 _ t _ ht (List.getElem?_eq_getElem aE)).mono le⟩
    have:=bQ r vs (o+off) w hs (i-off) _ (List.getElem?_eq_getElem aE)
    rwa[show o+off+(i-off)=o+i by omega]at this
   ·have ht:cs[i]?=some t:=by
     by_cases aE:i<off
     ·rw[List.append_assoc,List.getElem?_append_left (by simp;omega),List.getElem?_take,if_pos aE]at hi;exact hi
     ·rw[List.getElem?_append_right (by simp;omega),List.getElem?_drop]at hi
      rw[←hi];congr 1;simp;omega
    obtain⟨a,v,Hf,Hg⟩:=h3 i t ht
    refine⟨a,v,?_,Hg.mono le⟩
    rw[bN r vs (o+off) w r (o+i) (by omega)];exact Hf
 ·exact .inl ⟨aY,ie⟩
theorem xe (w:World)(dT sT ty elem:TypeId){ei:TypeInfo}(b o Hm Oj:Nat)(a:Addr)(Ho Ol:Nat)(cs:List Value)
  (hu:P.underlying dT=some (.slice elem)) (hi:P.info? elem=some ei) (hn:cs.length=Nat.min Ho Hm*ei.size)
  (o7:∀(j:Nat) v,cs[j]?=some v→w.cell? (a.add j)=some v) (hc:∀j,j<cs.length→(w.cell? ⟨b,o+j,none⟩).isSome=true) (hf:∀j,j<cs.length→w.frozen? ⟨b,o+j,none⟩=false) (h1:∀v∈cs,v.oneCell'=true) :
  (Builtin.copy_ #[dT,sT] ty #[.slice (some ⟨b,o,none⟩) Hm Oj,.slice (some a) Ho Ol]).run P w=.ok (goInt (Nat.min Ho Hm:Nat)) (w.setCells b o cs):=by
 have hl:=run_loadCells_list (P:=P) w a cs o7
 have ji:=run_storeCells_cells (P:=P) b o cs 0 w (by simpa using hc) (by simpa using hf) h1
 rw[hn]at hl
 have hq:(typeInfo elem).run P w=.ok ei w:=aS hi
 simp[Builtin.copy_,run_underlying hu,Builtin.lenOf,Builtin.firstCells,sizeOf,hq,hl,ji]
theorem DT {dT sT rt elem:TypeId}{ei:TypeInfo}{x y t:T}{vx vy:Value}{H':ae}(hu:P.underlying dT=some (.slice elem))(hi:P.info? elem=some ei)
  (h:SR w0 g H w) (hx:VR g w x vx) (hy:VR g w y vy) (he:yp H ei.size x y=some (t,H')):bp P w0 g H w (Builtin.copy_ #[dT,sT] rt #[vx,vy]) t H':=by
 have key:∀b off len n' r o q cap,g.φ b=some (r,o,q)→len≤cap→o+off+cap*n'=q→vx=.slice (some ⟨r,o+off,none⟩) len cap →
   (∀ly,Dc y=some ly→∀cs new,H[b]?=some (.cells cs)→fI H ei.size (min ly len) y=some new→n'=ei.size∧ei.size≠0∧off≤cs.length →
    t=.int .i64 (min ly len:Nat)→H'=H.set b (.cells (cs.take off++new.flatten++cs.drop (off+(min ly len)*ei.size)))→bp P w0 g H w (Builtin.copy_ #[dT,sT] rt #[vx,vy]) t H'):=by
  rintro b off len n' r o q cap hφ hc hq rfl ly Hp cs new hb hK⟨rfl,xd,w4⟩ rfl rfl
  obtain⟨r2,o2,VD,qB,vs,rfl,J3,a1,a2,a3,a4,a5⟩:=pH h hy hK
  rw[Hp]at J3;cases J3
  have iW:b<H.length:=(List.getElem?_eq_some_iff.1 hb).1
  obtain⟨h1,h2,h3⟩:=h.gF b _ hb r o q hφ
  have hmul:min ly len*ei.size≤cap*ei.size:=Nat.mul_le_mul_right _ (by omega)
  have bG:=xe (P:=P) w dT sT rt elem r (o+off) len cap ⟨r2,o2,none⟩ ly qB vs hu hi (by rw[a3]) (fun j v hj=>by rw[b7];exact a1 j v hj) (fun j hj=>(h2 _ (by omega) (by omega)).2.2) (fun j hj=>(h2 _ (by omega) (by omega)).2.1) (a2.gv a4)
  obtain⟨le,sr⟩:=h.Hl hb hφ w4 (by rw[a5];omega) a2 a4
  rw[a5]at sr
  refine⟨_,_,g,bG,le,sr,by simpa[goInt]using .int _ _,by simp,fun b' y' a _ d=>⟨da a ?_,d⟩⟩
  rintro rfl;rw[hφ]at d;cases d
 unfold yp at he
 cases hx<;>simp only[]at he<;>(try (cases he;done))
 all_goals
  rename_i b off len n' r o q cap hφ hc hq
  cases Hp:Dc y with
  | none=>simp[Hp]at he
  | some ly =>
   simp only[Hp]at he
   cases hb:H[b]? with
   | none=>simp[hb]at he
   | some z =>
    cases hK:fI H ei.size (min ly len) y with
    | none=>cases z<;>simp[hb,hK]at he
    | some new =>
     cases z<;>simp only[hb,hK]at he<;>(try (cases he;done))
     split at he
     ·rename_i qH
      simp only[Option.some.injEq,Prod.mk.injEq]at he
      exact key b off len n' r o q cap hφ hc hq rfl ly Hp _ new hb hK qH he.1.symm he.2.symm
     ·cases he
theorem y7 {R:ax}{n:Nat}{ps:List (Nat×X)}{pv:List (Nat×Value)}(hv:PV g w R ps pv):∀(es fs:List (List T)) (cells:Array Value),gO n es R ps=some fs→(∀c∈es,c.length=n)→a6 g w es.flatten cells.toList→bJ es.flatten →
  ∃b8,Instr.fill (fun i=>some (i*n,n)) cells pv=some b8∧a6 g w fs.flatten b8.toList∧bJ fs.flatten∧(∀c∈fs,c.length=n)∧fs.length=es.length:=by
 induction hv with
 | nil =>
  intro es fs cells he hn hz ho
  simp[gO]at he;subst he
  exact⟨cells,rfl,hz,ho,hn,rfl⟩
 | @cons i x v ps pv J0 _ ih =>
  intro es fs cells he hn hz ho
  simp only[gO]at he
  cases hc:(x.ev R).cells? with
  | none=>simp[hc]at he
  | some c =>
   simp only[hc]at he
   split at he
   ·rename_i a9
    obtain⟨lg,hi⟩:=a9
    obtain⟨vD,J1⟩:=gP J0 hc
    have aQ:v.cells.size=n:=by have:=vD.1;simp at this;omega
    have jQ:=eL es hn
    have sg:es.flatten.length=cells.size:=by have:=hz.1;simpa using this
    have hle:i*n+n≤cells.size:=by
     rw[←sg,jQ,←Nat.succ_mul];exact Nat.mul_le_mul_right _ hi
    have bz:=mj aQ hle
    have qG:=jk es i c hn hi
    have oW:a6 g w (es.set i c).flatten (v.cells.zipIdx.foldl (fun (cs:Array Value) (x:Value×Nat)=>cs.setIfInBounds (i*n+x.2) x.1) cells).toList:=by
     rw[bz,qG]
     exact a6.append (a6.append (hz.take _) vD) (hz.drop _)
    have ky:bJ (es.set i c).flatten:=by
     rw[qG]
     intro t ht
     rcases List.mem_append.1 ht with ht|ht
     ·rcases List.mem_append.1 ht with ht|ht
      ·exact ho t (List.mem_of_mem_take ht)
      ·exact J1 t ht
     ·exact ho t (List.mem_of_mem_drop ht)
    obtain⟨b8,k1,k2,k3,k4,k5⟩:=ih _ fs _ he (fun c' mc=>by
     rcases List.mem_or_eq_of_mem_set mc with h|h
     ·exact hn c' h
     ·rw[h];exact lg) oW ky
    refine⟨b8,?_,k2,k3,k4,by simpa using k5⟩
    simp only[Instr.fill]
    rw[if_neg]
    ·exact k1
    ·simp[aQ];omega
   ·cases he
theorem DU {ty elem:TypeId}{ei:TypeInfo}{zv:Value}{R:ax}{ps:List (Nat×X)}{pv:List (Nat×Value)}{z:List T}{len:Nat}{fs:List (List T)}(hu:P.underlying ty=some (.slice elem))(hi:P.info? elem=some ei)(hz:ei.zero=some zv)(yX:dy zv.cells.toList=some z)
  (uo:z.length=ei.size) (aQ:len*ei.size≤2^24) (h:SR w0 g H w) (hv:PV g w R ps pv) (he:gO z.length (List.replicate len z) R ps=some fs) :
  bp P w0 g H w (Instr.buildSlice ty len pv.toArray) (.aB H.length 0 len z.length) (H++[.cells fs.flatten]):=by
 obtain⟨xc,yc⟩:=cI (g:=g) (w:=w) _ _ yX
 have Oi:=jl xc uo len
 have JZ:=gQ yc len
 rw[uo]at he
 obtain⟨b8,k1,k2,k3,k4,k5⟩:=y7 hv _ fs ((Array.range (len*ei.size)).map (fun i=>zv.cells[i%zv.cells.size]!)) he (fun c hc=>by rw[List.eq_of_mem_replicate hc];exact uo) Oi JZ
 have hlen:fs.length=len:=by rw[k5];simp
 have jQ:fs.flatten.length=len*ei.size:=by rw[eL fs k4,hlen]
 have r7:b8.size=len*ei.size:=by have:=k2.1;simp only[Array.length_toList]at this;omega
 obtain⟨g',le,sr,fr,hφ⟩:=h.fC (c:=b8) (ty:=elem) (cs:=fs.flatten) (yZ w) rfl (fun i t hi=>by
  obtain⟨v,a1,a2⟩:=k2.eC i t hi
  exact⟨k3 t (List.mem_of_getElem? hi),v,by simpa using a1,a2⟩)
 refine⟨.slice (some ⟨w.heap.size,0,none⟩) len len,_,g',?_,le,sr,?_,fr⟩
 ·have y0:¬len*ei.size>2^24:=by omega
  by_cases h0:len*ei.size=0
  ·have e0:((Array.range (len*ei.size)).map (fun i=>zv.cells[i%zv.cells.size]!))=((Array.range (len*ei.size)).map (fun i=>(#[]:Array Value)[i%(#[]:Array Value).size]!)):=by
    rw[h0];simp
   rw[e0]at k1
   simp only[Instr.buildSlice,Sem.run_bind,run_underlying hu,Result.andThen_ok,sizeOf,aS hi,Sem.run_pure,y0,if_false,h0,if_true]
   rw[h0]at k1
   simp at k1
   simp[k1,newRow]
  ·simp only[Instr.buildSlice,Sem.run_bind,run_underlying hu,Result.andThen_ok,sizeOf,aS hi,Sem.run_pure,y0,if_false,h0,zeroValue,hz]
   simp[k1,newRow]
 ·rw[uo]
  exact .aB (r:=w.heap.size) (o:=0) (off:=0) hφ (Nat.le_refl _) (by rw[r7];simp)
theorem DV {sT xT elem rt:TypeId}{ei:TypeInfo}{zv:Value}{z:List T}{kq kn:IntKind}{x t:T}{vx:Value}{k:Nat}{H':ae}(hu:P.underlying sT=some (.slice elem))(DW:P.underlying xT=some (.int kn))(hi:P.info? elem=some ei)(hz:ei.zero=some zv)(yX:dy zv.cells.toList=some z)
  (hb:ei.bytes≠0) (h:SR w0 g H w) (hx:VR g w x vx) (he:Dd H ei.size ei.bytes z x k=some (t,H')):bp P w0 g H w (Builtin.append_ #[sT,xT] rt #[vx,.int kq k]) t H':=by
 unfold Dd at he
 cases x<;>simp only[]at he<;>(try (cases he;done))
 rename_i b off len n' c
 cases hK:fI H ei.size len (.dB b off len n' c)with
 | none=>simp[hK]at he
 | some es =>
  simp only[hK]at he
  split at he
  ·rename_i qH
   obtain⟨rfl,xd,Jp,lg,uo,fL⟩:=qH
   simp only[Option.some.injEq,Prod.mk.injEq]at he
   obtain⟨rfl,rfl⟩:=he
   obtain⟨r,o,ly,cap,vs,rfl,Hp,a1,a2,a3,a4,a5⟩:=pH h hx hK
   cases Hp
   have lh:cap=c:=by cases hx;rfl
   subst lh
   obtain⟨xc,yc⟩:=cI (g:=g) (w:=w) _ _ yX
   have hold:(Builtin.firstCells ei.size len (.slice (some ⟨r,o,none⟩) len cap)).run P w.drew=.ok vs.toArray w.drew:=by
    have:=run_loadCells_list (P:=P) w.drew ⟨r,o,none⟩ vs (fun j v hj=>by rw[b7];exact a1 j v hj)
    rw[a3]at this
    simpa[Builtin.firstCells]using this
   have Nv:¬Builtin.nextslicecap (len+k) cap*ei.bytes>2^48:=vB lg fL
   have hr:=fL
   simp only[dv,decide_eq_true_eq]at hr
   have FK:(len+k)*ei.bytes≤281474976710656:=Nat.le_trans (Nat.mul_le_mul_right _ (by omega)) hr
   have Om:len+k≤281474976710656:=Nat.le_trans (Nat.le_mul_of_pos_right _ (by omega)) FK
   have xf:k*ei.bytes≤281474976710656:=Nat.le_trans (Nat.mul_le_mul_right _ (by omega)) FK
   have bG:=Go.Lib.run_append_grow_zeros (P:=P) w sT xT rt elem ei zv kq kn hu DW hi hz (some ⟨r,o,none⟩) len cap vs hold k Jp (by omega) lg (by omega) xf (by omega)
   have DK:zv.cells.toList.length=ei.size:=by have:=xc.1;omega
   have J4:zv.cells.size=ei.size:=by simpa using DK
   have yW:a6 g w (es.flatten++(List.replicate k z).flatten) (vs++(Builtin.zeroCells zv.cells k).toList):=by
    refine a6.append a2 ?_
    have:=jl xc uo k
    simpa[Builtin.zeroCells,J4]using this
   have dD:=grownCap_ge w (len+k) cap elem
   generalize grownCap w (len+k) cap elem=nc at bG dD
   have J5:bJ (es.flatten++(List.replicate k z).flatten):=fun t ht=>by
    rcases List.mem_append.1 ht with ht|ht
    ·exact a4 t ht
    ·exact gQ yc k t ht
   have aQ:(vs.toArray++Builtin.zeroCells zv.cells k++Builtin.zeroCells zv.cells (nc-(len+k))).size=nc*ei.size:=by
    simp only[Array.size_append,jh,List.size_toArray,a3,J4]
    rw[←Nat.add_mul,←Nat.add_mul];congr 1;omega
   obtain⟨g',le,sr,fr,hφ⟩:=h.fC (c:=vs.toArray++Builtin.zeroCells zv.cells k++Builtin.zeroCells zv.cells (nc-(len+k))) (ty:=elem) (cs:=es.flatten++(List.replicate k z).flatten) (nq w) rfl (fun i t hi=>by
    obtain⟨v,b1,b2⟩:=yW.eC i t hi
    refine⟨J5 t (List.mem_of_getElem? hi),v,?_,b2⟩
    rw[List.getElem?_toArray]at b1
    have aE:=(List.getElem?_eq_some_iff.1 b1).1
    have e:(vs.toArray++Builtin.zeroCells zv.cells k++Builtin.zeroCells zv.cells (nc-(len+k))).toList=(vs++(Builtin.zeroCells zv.cells k).toList)++(Builtin.zeroCells zv.cells (nc-(len+k))).toList:=by simp
    rw[←Array.getElem?_toList,e,List.getElem?_append_left aE];exact b1)
   refine⟨_,_,g',bG,le,sr,?_,fr⟩
   exact .aB (r:=w.heap.size) (o:=0) (off:=0) hφ dD (by rw[aQ];simp)
  ·cases he
end
section
variable {P:Program} {w0 w:World} {g:Ctx} {H:ae}
theorem pb {params results:Array TypeId}(tS e:TypeId)(hp:params[0]?=some tS)(ht:P.underlying tS=some (.slice e))(size:Nat)(hz:(Go.sizeOf e).run P w=.ok size w)
  (a b:Addr) (la ca lb cb:Nat) (aY:a.block≠b.block) (tA tB:TypeId) (kA kB:Nat)
  (Hq:w.shape? a.block=some (tA,kA)) (FH:w.shape? b.block=some (tB,kB)) (On:kB≠0)
  (FL:w.frozen? a=false) (S4:w.frozen? { block:=a.block,off:=kA }=false) :
  (Extern.SlicesOverlaps.overlaps params results #[.slice (some a) la ca,.slice (some b) lb cb]).run P w=.ok (.bool false) w:=by
 have Nv:(a.block != b.block)=true:=by simpa using aY
 have Hr:(a.block==b.block)=false:=by simpa using aY
 conv=>lhs;arg 2;whnf
 simp only[hp]
 by_cases h0:la=0∨lb=0∨size=0
 ·simp[run_underlying ht,hz,h0]
 ·cases kB with
  | zero=>exact absurd rfl On
  | succ kB =>
   simp[run_underlying ht,hz,h0,Nv,Hr,frozen,noView,viewAt,mayBeOne,stringish,shape,Sem.run,Hq,FH,FL,S4]
theorem qI {params results:Array TypeId}(tS e:TypeId)(hp:params[0]?=some tS)(ht:P.underlying tS=some (.slice e))(size:Nat)(hz:(Go.sizeOf e).run P w=.ok size w)
  (a b:Addr) (la ca lb cb:Nat) (aY:a.block=b.block) (hd:la≠0→lb≠0→size≠0→¬(a.off<b.off+lb*size∧b.off<a.off+la*size)) :
  (Extern.SlicesOverlaps.overlaps params results #[.slice (some a) la ca,.slice (some b) lb cb]).run P w=.ok (.bool false) w:=by
 have Nv:(a.block != b.block)=false:=by simpa using aY
 have Hr:(a.block==b.block)=true:=by simpa using aY
 conv=>lhs;arg 2;whnf
 simp only[hp]
 by_cases h0:la=0∨lb=0∨size=0
 ·simp[run_underlying ht,hz,h0]
 ·have h1:=hd (fun h=>h0 (.inl h)) (fun h=>h0 (.inr (.inl h))) (fun h=>h0 (.inr (.inr h)))
  simp[run_underlying ht,hz,h0,Nv,Hr]
  intro aE
  have:¬b.off<a.off+la*size:=fun h=>h1 ⟨aE,h⟩
  omega
theorem lA {params results:Array TypeId}(tS e:TypeId)(hp:params[0]?=some tS)(ht:P.underlying tS=some (.slice e))(size:Nat)(hz:(Go.sizeOf e).run P w=.ok size w)
  (a b:Addr) (la ca lb cb:Nat) (h0:la=0∨size=0) :
  (Extern.SlicesOverlaps.overlaps params results #[.slice (some a) la ca,.slice (some b) lb cb]).run P w=.ok (.bool false) w:=by
 have h0:la=0∨lb=0∨size=0:=by rcases h0 with h|h;exact .inl h;exact .inr (.inr h)
 conv=>lhs;arg 2;whnf
 simp only[hp]
 simp[run_underlying ht,hz,h0]
theorem sh {r j:Nat}(h:(w.cell? ⟨r,j,none⟩).isSome=true):∃t k,w.shape? r=some (t,k)∧k≠0:=by
 unfold World.cell? at h
 unfold World.shape?
 cases hr:w.heap[r]? with
 | none=>simp[hr]at h
 | some x =>
  cases x<;>simp[hr]at h ⊢
  rename_i c t f
  exact⟨_,_,⟨rfl,rfl⟩,by omega⟩
theorem DX {params results:Array TypeId}{tS e:TypeId}{ei:TypeInfo}{x y t:T}{vx vy:Value}{H':ae}(hp:params[0]?=some tS)(ht:P.underlying tS=some (.slice e))(hi:P.info? e=some ei)
  (h:SR w0 g H w) (hx:VR g w x vx) (hy:VR g w y vy) (he:yq H ei.size x y=some (t,H')):bp P w0 g H w (Extern.SlicesOverlaps.overlaps params results #[vx,vy]) t H':=by
 have hz:(Go.sizeOf e).run P w=.ok ei.size w:=by simp[sizeOf,aS hi]
 unfold yq at he
 cases hx<;>(try (simp only[reduceCtorEq]at he;done))<;>(try (cases he;done))
 rename_i bv DY lv n1 r' o' q' qB iV mc RJ
 cases hy<;>(try (simp only[reduceCtorEq]at he;done))<;>(try (cases he;done))
 rename_i b off len n2 r o q c hφ hc hq
 cases Nw:H[bv]? with
 | none=>simp[Nw]at he
 | some zv =>
  cases hb:H[b]? with
  | none=>cases zv<;>simp[Nw,hb]at he
  | some z =>
   cases zv<;>cases z<;>simp only[Nw,hb]at he<;>(try (cases he;done))
   rename_i VE cs
   split at he
   ·rename_i qH
    obtain⟨aY,rfl,Hs,uq⟩:=qH
    simp only[Option.some.injEq,Prod.mk.injEq]at he
    obtain⟨rfl,rfl⟩:=he
    subst Hs
    obtain⟨a1,a2,a3⟩:=h.gF _ _ Nw r' o' q' iV
    obtain⟨b1,b2,b3⟩:=h.gF _ _ hb r o q hφ
    by_cases hr:r'=r
    ·subst hr
     refine bp.same h (qI tS e hp ht _ hz _ _ _ _ _ _ rfl fun hl S5 hs hh=>?_) (.bool _)
     obtain⟨h1,h2⟩:=hh
     simp only at h1 h2
     have m1:lv*ei.size≤qB*ei.size:=Nat.mul_le_mul_right _ mc
     have m2:len*ei.size≤c*ei.size:=Nat.mul_le_mul_right _ hc
     have p1:0<lv*ei.size:=Nat.mul_pos (by omega) (by omega)
     have p2:0<len*ei.size:=Nat.mul_pos (by omega) (by omega)
     have k1:=(a2 (max (o'+DY) (o+off)) (by omega) (by omega)).1
     have k2:=(b2 (max (o'+DY) (o+off)) (by omega) (by omega)).1
     rw[k1]at k2;cases k2;exact aY rfl
    ·by_cases S6:lv=0
     ·subst S6
      refine bp.same h ?_ (.bool _)
      exact lA tS e hp ht _ hz _ _ _ _ _ _ (.inl rfl)
     ·by_cases hs:ei.size=0
      ·refine bp.same h ?_ (.bool _)
       exact lA tS e hp ht _ hz _ _ _ _ _ _ (.inr hs)
      ·have m1:lv*ei.size≤qB*ei.size:=Nat.mul_le_mul_right _ mc
       have p1:0<lv*ei.size:=Nat.mul_pos (by omega) (by omega)
       have FJ:=a2 (o'+DY) (by omega) (by omega)
       have S7:=b2 o (Nat.le_refl _) (by omega)
       have ig:w0.heap.size≤r':=by
        rcases Nat.lt_or_ge r' w0.heap.size with aE|dD
        ·have:=h.wX r' (o'+DY) aE;rw[FJ.1]at this;cases this
        ·exact dD
       obtain⟨tA,kA,Hq,_⟩:=sh FJ.2.2
       obtain⟨tB,kB,FH,On⟩:=sh S7.2.2
       exact bp.same h (pb tS e hp ht _ hz _ _ _ _ _ _ hr tA tB kA kB Hq FH On (h.m8 r' _ ig) (h.m8 r' _ ig)) (.bool _)
   ·cases he
end
end Go.Rmp
end

section
namespace Go.Rmp
open Go.ChangeMaps (setBlock)
section
variable {P:Program} {w0 w:World} {g:Ctx} {H:ae}
theorem SR.J6 {w':World}(h:SR w0 g H w)(tr:Tr w w' ff gz)(hz:w'.heap.size=w.heap.size):SR w0 g H w'∧Le g w g w':=by
 have le:Le g w g w':=Le.fJ tr (fun _ _ h=>h) (fun _ _ h=>h) (fun _ _ _ h=>h) (fun _ _ hs=>hs.elim)
 refine⟨?_,le⟩
 exact h.step (fun _=>False) tr le (fun _ _ hs=>hs.elim) (fun _ hm=>hm.elim) (fun r o hr=>h.fresh r o (by omega)) h.nH h.ft (fun _ _ _=>rfl) (fun _ _ _ _=>⟨id,id⟩) (fun _ _ _ _=>rfl) (fun b x hx=>.inl ⟨id,hx⟩)
theorem Ht {b:Nat}{vm:Value}{es:List (T×T)}(h:SR w0 g H w)(hm:VR g w (.map b) vm)(iS:eJ H (.map b)=some es) :
  ∃r o q,vm=.map (some r)∧g.φ b=some (r,o,q)∧g.κ r 0=.mut b∧b<H.length∧∃aC clock,w.heap[r]?=some (.map aC clock)∧cS g w es aC∧dJ aC clock:=by
 cases hm with
 | @map _ r o q hφ =>
  simp only[eJ]at iS
  cases hb:H[b]? with
  | none=>simp[hb]at iS
  | some y =>
   have iW:=(List.getElem?_eq_some_iff.1 hb).1
   cases y<;>simp[hb]at iS
   ·subst iS
    obtain⟨h1,aC,c,h2,h3,h4⟩:=h.gF b _ hb r o q hφ
    exact⟨r,o,q,rfl,hφ,h1,iW,aC,c,h2,h3,h4⟩
   ·subst iS
    obtain⟨r2,o',q',iV,h1,aC,c,h2,h3,h4,_⟩:=h.gF b _ hb
    rw[hφ]at iV;cases iV
    exact⟨r,o,q,rfl,hφ,h1,iW,aC,c,h2,h3,h4⟩
theorem DZ {ty key elem:TypeId}{b:Nat}{vm:Value}{es:List (T×T)}(hu:P.underlying ty=some (.map key elem))(h:SR w0 g H w)(hm:VR g w (.map b) vm)(iS:eJ H (.map b)=some es) :
  bp P w0 g H w (Instr.range ty vm) (.ptr H.length 0) (H.set b (.eH es (List.range es.length) H.length none)++[.x8 b]):=by
 obtain⟨r,o,q,rfl,hφ,hk,iW,aC,c,h2,h3,h4⟩:=Ht h hm iS
 have Oo:dK (.mapIter (some r) c #[] c)=true:=rfl
 have sd:=Tr.alloc w (.mapIter (some r) c #[] c) (.inl Oo)
 have aY:∀r j ow,g.κ r j=ow→ow≠.free→r≠w.heap.size:=by rintro r j ow e hn rfl;exact hn (e▸h.fresh _ j (Nat.le_refl _))
 have Oq:=h.DE (b:=H.length) (Nat.le_refl _)
 have Ot:=aY r 0 _ hk (by simp)
 have le:Le g w ((g.row w.heap.size fun _=>.mut b).at H.length (w.heap.size,0,0)) (w.alloc (.mapIter (some r) c #[] c)):=Le.fJ sd
  (fun b' x hx=>by simp only[Ctx.at,Ctx.row];split;rename_i e;subst e;rw[Oq]at hx;simp at hx;exact hx)
  (fun r o hk=>by simp only[Ctx.row,Ctx.at];rw[if_neg (aY r o _ hk (by simp))];exact hk) (fun _ _ _ h=>h) (fun _ _ hs=>hs.elim)
 have aE:r<w.heap.size:=(Array.getElem?_eq_some_iff.1 h2).1
 refine⟨_,_,_,by simp[Instr.range,run_underlying hu,getObj,Sem.run,h2,newObj],le,?_,.ptr (r:=w.heap.size) (o:=0) (q:=0) (by simp[Ctx.at]),by simp,fun b' x a _ d=>?_⟩
 ·refine h.step (fun b'=>b'=b∨b'=H.length) sd le (fun _ _ hs=>hs.elim) (fun _ hm=>hm.elim) (fun r o hr=>?_) (fun b' x hx=>?_) (fun t e x hx=>by have:=h.ft t e x hx;simp;omega) (fun b' _ eR=>?_) (fun r j b' eR=>?_) (fun _ _ _ _=>rfl) (fun b' x hx=>?_)
  ·simp at hr
   simp only[Ctx.row,Ctx.at];rw[if_neg (by omega)];exact h.fresh r o (by omega)
  ·simp only[Ctx.at,Ctx.row]at hx
   split at hx
   ·rename_i e;subst e;simp
   ·have:=h.nH b' x hx;simp;omega
  ·simp only[Ctx.at,Ctx.row];rw[if_neg (fun e=>eR (.inr e))]
  ·constructor<;>intro e<;>simp only[Ctx.row,Ctx.at]<;>rw[if_neg (aY r j _ e (by simp))]<;>exact e
  ·by_cases e:b'=H.length
   ·subst e
    rw[List.getElem?_append_right (by simp)]at hx
    simp at hx;subst hx
    exact .inr trivial
   ·have eR:b'<H.length:=by
     have:=(List.getElem?_eq_some_iff.1 hx).1
     simp at this;omega
    rw[List.getElem?_append_left (by simpa using eR)]at hx
    rcases cB iW hx with⟨rfl,rfl⟩|⟨hn,ie⟩
    ·refine .inr ⟨r,o,q,le.φ _ _ hφ,by simp only[Ctx.row,Ctx.at];rw[if_neg Ot];exact hk,aC,c,?_,h3.mono le,h4,w.heap.size,0,#[],by simp[Ctx.at],by simp[Ctx.row,Ctx.at],World.alloc_heap_new w _,List.nodup_range,fun i=>?_,fun c hc=>by cases hc⟩
     ·show(w.heap.push _)[r]?=_
      rw[Array.getElem?_push,if_neg (by omega)];exact h2
     ·rw[List.mem_range,←h3.1]
      exact⟨fun hi=>⟨aC[i],Array.getElem?_eq_getElem hi,by simp⟩,fun ⟨m,hm,_⟩=>(Array.getElem?_eq_some_iff.1 hm).1⟩
    ·exact .inl ⟨fun hh=>hh.elim hn e,ie⟩
 ·have hl:=(List.getElem?_eq_some_iff.1 a).1
  refine⟨?_,by simp only[Ctx.at,Ctx.row];rw[if_neg (by omega)];exact d⟩
  rw[List.getElem?_append_left (by simpa using hl)]
  exact da a (by rintro rfl;rw[hφ]at d;cases d)
theorem D0 {ty:TypeId}{b bi:Nat}{v:Value}{es:List (T×T)}{ix:List Nat}{cur:Option Nat}(h:SR w0 g H w)(hx:VR g w (.ptr bi 0) v)(hb:H[b]?=some (.eH es ix bi cur)) :
  ∃t H',kY H b bi es ix t H'∧bp P w0 g H w (Instr.next v false ty) t H':=by
 have iW:b<H.length:=(List.getElem?_eq_some_iff.1 hb).1
 obtain⟨r,o,q,hφ,h1,aC,c,h2,h3,h4,ri,q',seen,h5,h6,h7,h8,h9,aG⟩:=h.gF b _ hb
 cases hx with
 | @ptr _ _ r2 o2 q2 vE =>
  rw[h5]at vE;cases vE
  have ay:∀y,Fr g H g (H.set b y):=fun y=>⟨by simp,fun b' x a _ d=>⟨da a (by rintro rfl;rw[hφ]at d;cases d),d⟩⟩
  rcases run_next_at (P:=P) w ty ri r c c seen aC c h7 h2 h4.1 (Nat.le_refl _)with⟨hz,bG⟩|⟨e,he,w1,Nx,bG⟩
  ·have rZ:ix=[]:=by
    refine List.eq_nil_iff_forall_not_mem.2 fun i hi=>?_
    obtain⟨m,hm,hn⟩:=(h9 i).1 hi
    have:m∈leftOf aC seen:=by
     simp only[leftOf,Array.mem_filter]
     exact⟨Array.mem_of_getElem? hm,by simpa using hn⟩
    rw[Array.eq_empty_of_size_eq_zero hz]at this
    simp at this
   refine⟨_,_,.inl ⟨rZ,rfl,rfl⟩,.tuple #[.bool false],w,g,by simpa using bG,.refl _ _,?_,.bC rfl (fun i t v a b=>?_),ay _⟩
   ·refine h.step (fun b'=>b'=b) (Tr.refl w) (.refl _ _) (fun _ _ hs=>hs.elim) (fun _ hm=>hm.elim) h.fresh (fun b' x hx=>by rw[List.length_set];exact h.nH b' x hx) (fun t e x hx=>by rw[List.length_set];exact h.ft t e x hx) (fun _ _ _=>rfl) (fun _ _ _ _=>⟨id,id⟩) (fun _ _ _ _=>rfl) (fun b' x hx=>?_)
    rcases cB iW hx with⟨rfl,rfl⟩|⟨hn,ie⟩
    ·refine .inr fun r' o' q' iV=>?_
     rw[hφ]at iV;cases iV
     exact⟨h1,aC,c,h2,h3,h4⟩
    ·exact .inl ⟨hn,ie⟩
   ·cases i with
    | zero=>simp at a b;subst a;subst b;exact .bool _
    | succ i=>simp at a
  ·have Hu:e∈aC∧e.born∉seen:=by
    have:e∈leftOf aC seen:=by simpa using he
    simp only[leftOf,Array.mem_filter]at this
    exact⟨this.1,by simpa using this.2⟩
   obtain⟨i,hi,m9⟩:=Array.getElem_of_mem Hu.1
   have l4:aC[i]?=some e:=by rw[Array.getElem?_eq_getElem hi,m9]
   have lB:i<es.length:=by rw[←h3.1];exact hi
   have rZ:i∈ix:=(h9 i).2 ⟨e,l4,Hu.2⟩
   have dC:=h3.2 i es[i] e (List.getElem?_eq_getElem lB) l4
   have S8:Tr w w1 ff gz:=by rcases Nx with rfl|rfl;exact Tr.refl _;exact Tr.drew _
   obtain⟨Hv,cO⟩:=h.J6 S8 (by rcases Nx with rfl|rfl<;>rfl)
   have Ny:w1.heap[ri]?=some (.mapIter (some r) c seen c):=by rcases Nx with rfl|rfl<;>exact h7
   have RL:w1.heap[r]?=some (.map aC c):=by rcases Nx with rfl|rfl<;>exact h2
   have tr:Tr w1 (World.bu w1 ri (.mapIter (some r) c (seen.push e.born) c)) ff (fun r'=>r'=ri):=Tr.uj w1 ri rfl rfl Ny
   have le:Le g w1 g (World.bu w1 ri (.mapIter (some r) c (seen.push e.born) c)):=Le.fJ tr (fun _ _ h=>h) (fun _ _ h=>h) (fun _ _ _ h=>h) (fun _ _ hs=>hs.elim)
   have S9:r≠ri:=by rintro rfl;rw[RL]at Ny;cases Ny
   refine⟨_,_,.inr ⟨i,es[i],rZ,List.getElem?_eq_getElem lB,rfl,rfl⟩,.tuple #[.bool true,e.key,e.val],_,g,by simpa[setBlock,World.bu]using bG,cO.trans le,?_,.bC rfl (fun i t v a b=>?_),ay _⟩
   ·show SR w0 g _ (World.bu w1 ri (.mapIter (some r) c (seen.push e.born) c))
    refine Hv.step (fun b'=>b'=b) tr le (fun _ _ hs=>hs.elim) (fun r' hm=>⟨b,by rw[hm];exact h6,rfl⟩) (fun r' j jE=>Hv.fresh r' j (by simpa[World.bu]using jE)) (fun b' x hx=>by rw[List.length_set];exact h.nH b' x hx) (fun t e x hx=>by rw[List.length_set];exact h.ft t e x hx) (fun _ _ _=>rfl) (fun _ _ _ _=>⟨id,id⟩) (fun _ _ _ _=>rfl) (fun b' x hx=>?_)
    rcases cB iW hx with⟨rfl,rfl⟩|⟨hn,ie⟩
    ·refine .inr ⟨r,o,q,hφ,h1,aC,c,?_,h3.mono (cO.trans le),h4,ri,q',seen.push e.born,h5,h6,nT _ _ (Array.getElem?_eq_some_iff.1 Ny).1,h8.erase _,fun j=>?_,fun c' mc=>?_⟩
     ·rw[nR _ _ S9];exact RL
     ·rw[h8.mem_erase_iff,h9 j]
      constructor
      ·rintro⟨yd,m,hm,hn⟩
       refine⟨m,hm,fun kx=>?_⟩
       rcases Array.mem_push.1 kx with kx|kx
       ·exact hn kx
       ·apply yd
        have hj:=(Array.getElem?_eq_some_iff.1 hm).1
        have jR:=h4.2
        have e1:(aC.toList.map (·.born))[j]?=some m.born:=by simp[hm]
        have e2:(aC.toList.map (·.born))[i]?=some m.born:=by simp[l4,kx]
        have pI:j<(aC.toList.map (·.born)).length:=by simpa using hj
        exact(List.getElem?_inj pI jR).1 (e1.trans e2.symm)
      ·rintro⟨m,hm,hn⟩
       refine⟨fun yd=>?_,m,hm,fun kx=>hn (Array.mem_push.2 (.inl kx))⟩
       subst yd
       rw[l4]at hm;cases hm
       exact hn (Array.mem_push.2 (.inr rfl))
     ·cases mc
      exact⟨e,l4,by simp⟩
    ·exact .inl ⟨hn,ie⟩
   ·have Hf:=dC.1.mono (cO.trans le)
    have Hg:=dC.2.mono (cO.trans le)
    match i,a,b with
    | 0,a,b=>simp at a b;subst a;subst b;exact .bool _
    | 1,a,b=>simp at a b;subst a;subst b;exact Hf
    | 2,a,b=>simp at a b;subst a;subst b;exact Hg
    | i+3,a,b=>simp at a
theorem D1 {b bi c:Nat}{v:Value}{es:List (T×T)}{ix:List Nat}{e:T×T}(h:SR w0 g H w)(hx:VR g w (.ptr bi 0) v)(hb:H[b]?=some (.eH es ix bi (some c)))(he:es[c]?=some e) :
  bp P w0 g H w (Instr.entry v) (.bC [e.1,e.2]) H:=by
 obtain⟨r,o,q,hφ,h1,aC,cl,h2,h3,h4,ri,q',seen,h5,h6,h7,h8,h9,aG⟩:=h.gF b _ hb
 cases hx with
 | @ptr _ _ r2 o2 q2 vE =>
  rw[h5]at vE;cases vE
  obtain⟨m,hm,hs⟩:=aG c rfl
  have dC:=h3.2 c e m he hm
  have Ou:m∈aC.toList:=by have:=Array.mem_of_getElem? hm;simpa using this
  have hf:aC.find? (·.born==m.born)=some m:=by rw[←Array.find?_toList];exact find_born m aC.toList h4.2 Ou
  refine bp.same h (v:=.tuple #[m.key,m.val]) ?_ (.bC rfl fun i t v a b=>?_)
  ·simp[Instr.entry,getObj,Sem.run,h7,h2,hs,hf]
  ·match i,a,b with
   | 0,a,b=>simp at a b;subst a;subst b;exact dC.1
   | 1,a,b=>simp at a b;subst a;subst b;exact dC.2
   | i+2,a,b=>simp at a
theorem D2 {ty rt elem:TypeId}{ei:TypeInfo}{zv:Value}{z:List T}{v:Value}{b off len:Nat}{cs:List T}(hu:P.underlying ty=some (.slice elem))(hi:P.info? elem=some ei)(hz:ei.zero=some zv)(yX:dy zv.cells.toList=some z)
  (h:SR w0 g H w) (hx:VR g w (.aB b off len ei.size) v) (hb:H[b]?=some (.cells cs)) (sg:z.length=ei.size) (hle:off+len*ei.size≤cs.length) :
  bp P w0 g H w (Builtin.clear_ #[ty] rt #[v]) (.bC []) (H.set b (.cells (cs.take off++(List.replicate len z).flatten++cs.drop (off+len*ei.size)))):=by
 cases hx with
 | @aB _ _ _ _ r o q cap hφ hc hq =>
  obtain⟨h1,h2,h3⟩:=h.gF b _ hb r o q hφ
  obtain⟨xc,yc⟩:=cI (g:=g) (w:=w) _ _ yX
  have dC:=jl xc sg len
  have RM:=gQ yc len
  have hlen:(List.replicate len z).flatten.length=len*ei.size:=by simp[List.length_flatten,sg]
  have DK:zv.cells.size=ei.size:=by have:=xc.1;simp at this;omega
  have Hw:a6 g w (List.replicate len z).flatten (Builtin.zeroCells zv.cells len).toList:=by
   simpa[Builtin.zeroCells,DK]using dC
  obtain⟨le,sr⟩:=h.store hb hφ (by rw[hlen];exact hle) Hw RM
  rw[hlen]at sr
  refine⟨.tuple #[],_,g,?_,le,sr,.bC rfl (by simp),by simp,fun b' y' a _ d=>⟨da a (by rintro rfl;rw[hφ]at d;cases d),d⟩⟩
  have hl:=Hw.1
  rw[hlen]at hl
  cases len with
  | zero =>
   have e:(Builtin.zeroCells zv.cells 0).toList=[]:=List.eq_nil_of_length_eq_zero (by rw[←hl];simp)
   rw[e]
   simp[Builtin.clear_,run_underlying hu,World.setCells]
  | succ len =>
   have bG:=run_storeCells_cells (P:=P) r (o+off) (Builtin.zeroCells zv.cells (len+1)).toList 0 w (fun j hj=>(h2 _ (by omega) (by omega)).2.2) (fun j hj=>(h2 _ (by omega) (by omega)).2.1) (Hw.gv RM)
   have Ta:(zeroValue elem).run P w=.ok zv w:=by simp[zeroValue,aS hi,hz]
   simp only[Nat.add_zero]at bG
   simp[Builtin.clear_,run_underlying hu,Ta,bG]
theorem SR.shrink {b:Nat}{cs:List T}(k:Nat)(h:SR w0 g H w)(hb:H[b]?=some (.cells cs))(hφ:∃x,g.φ b=some x):SR w0 g (H.set b (.cells (cs.take k))) w∧Fr g H g (H.set b (.cells (cs.take k))):=by
 have iW:b<H.length:=(List.getElem?_eq_some_iff.1 hb).1
 obtain⟨y,hy⟩:=hφ
 refine⟨?_,by simp,fun b' x a _ d=>⟨da a (by rintro rfl;rw[hy]at d;cases d),d⟩⟩
 refine h.step (fun b'=>b'=b) (Tr.refl w) (.refl _ _) (fun _ _ hs=>hs.elim) (fun _ hm=>hm.elim) h.fresh (fun b' x hx=>by rw[List.length_set];exact h.nH b' x hx) (fun t e x hx=>by rw[List.length_set];exact h.ft t e x hx) (fun _ _ _=>rfl) (fun _ _ _ _=>⟨id,id⟩) (fun _ _ _ _=>rfl) (fun b' x hx=>?_)
 rcases cB iW hx with⟨rfl,rfl⟩|⟨hn,ie⟩
 ·refine .inr fun r o q hφ=>?_
  obtain⟨h1,h2,h3⟩:=h.gF b' _ hb r o q hφ
  refine⟨by simp;omega,h2,fun i t hi=>h3 i t ?_⟩
  rw[List.getElem?_take]at hi
  split at hi
  ·exact hi
  ·cases hi
 ·exact .inl ⟨hn,ie⟩
end
end Go.Rmp
end

section
namespace Go.Rmp
def aH:Operand→Option X
 | .tmp t=>some (.r t)
 | .const v=>(ku v).map .c
 | .func f=>some (.c (.fn f []))
 | .global _=>none
def er:List Operand→Option (List X)
 | []=>some []
 | x :: xs=>match aH x,er xs with
  | some y,some ys=>some (y :: ys)
  | _,_=>none
def ir:Option Operand→Option (Option X)
 | none=>some none
 | some x=>(aH x).map some
def kC:List (Nat×Operand)→Option (List (Nat×X))
 | []=>some []
 | (i,x) :: xs=>match aH x,kC xs with
  | some y,some ys=>some ((i,y) :: ys)
  | _,_=>none
def RN:TypeDesc→Option rG
 | .int _=>some .int
 | .string=>some .str
 | .bool=>some .bool
 | _=>none
def kinds (P:Program):List Field→Option (List rG)
 | []=>some []
 | f :: fs=>match (P.underlying f.type).bind RN,kinds P fs with
  | some k,some ks=>some (k :: ks)
  | _,_=>none
def qJ (P:Program)(ty:TypeId):Option KT :=
 match P.underlying ty with
 | some (.struct fs)=>(kinds P fs.toList).map .st
 | some d=>(RN d).map .sc
 | none=>none
def zeroOf (P:Program)(ty:TypeId):Option (List T) :=
 match P.info? ty with
 | some i=>match i.zero with
  | some zv=>dy zv.cells.toList
  | none=>none
 | none=>none
def isEq:BinOp→Option Bool
 | .eql=>some false
 | .neq=>some true
 | _=>none
def cls:TypeDesc→Option C8
 | .pointer _=>some .ptr
 | .slice _=>some .slice
 | .map _ _=>some .map
 | .func _ _ _=>some .func
 | _=>none
def y8 (P:Program)(op:BinOp)(ty:TypeId)(x y:X):Option Bo :=
 match P.underlying ty with
 | some (.int _)|some .string=>some (.bin op x y)
 | some .bool=>(isEq op).map fun n=>.beq n x y
 | some (.struct fs)=>match isEq op,kinds P fs.toList with
  | some n,some ks=>if flat P fs.toList 0 ks&&!P.stoodInHeld ty&&!P.eqGuardType P.depth ty then some (.eqs n ks x y)else none
  | _,_=>none
 | some d=>match isEq op,cls d with
  | some n,some c=>some (.l7 n c x y)
  | _,_=>none
 | none=>none
def pJ (P:Program)(ty:TypeId)(x:X):Option Bo :=
 match P.underlying ty,P.info? ty with
 | some d,some i=>some (.ld (if cT d then i.size else 1) (cT d) x)
 | _,_=>none
def kD (P:Program)(ty:TypeId)(x:X)(f:Nat)(ad:Bool):Option Bo :=
 match P.underlying ty with
 | some (.struct fs)=>match fs[f]? with
  | some f=>match P.underlying f.type,P.info? f.type with
   | some d,some i=>if ad then(if i.size=0 then none else some (.gL f.offset x))else some (.Nq f.offset i.size (cT d) x)
   | _,_=>none
  | none=>none
 | _=>none
def ur (P:Program)(ty:TypeId)(x i:X)(ad:Bool):Option Bo :=
 match P.underlying ty,ad with
 | some (.slice e),true=>(P.info? e).map fun ei=>.cK ei.size x i
 | some (.array n e),true=>(P.info? e).map fun ei=>.Nr n ei.size x i
 | some .string,false=>some (.GZ x i)
 | some (.array n e),false=>match P.info? e,P.underlying e with
  | some ei,some d=>some (.Ns n ei.size (cT d) x i)
  | _,_=>none
 | _,_=>none
def ml (P:Program)(ty:TypeId)(x:X)(lo hi mx:Option X):Option Bo :=
 match P.underlying ty with
 | some .string=>if mx.isSome then none else some (.JF x lo hi)
 | some (.slice e)=>match P.info? e with
  | some ei=>if mx.isSome&&hi.isNone then none else some (.kR ei.size x lo hi mx)
  | none=>none
 | _=>none
def xg (P:Program)(ty:TypeId)(x:X)(lo hi mx:Option X):Option Bo :=
 match P.underlying ty,lo,hi,mx with
 | some (.slice e),none,some hi,none=>(P.info? e).map fun ei=>.Da ei.size x hi
 | _,_,_,_=>none
def pK (P:Program)(src dst:TypeId)(x:X):Option Bo :=
 match P.underlying src,P.underlying dst with
 | some (.int _),some (.int k)=>some (.fB k x)
 | some .string,some .string=>none
 | some (.slice e),some .string=>match P.underlying e with
  | some (.int .u8)=>some (.yn x)
  | _=>none
 | _,_=>none
def y9:TypeDesc→Bool
 | .int _=>false
 | _=>true
def jF (P:Program)(mu:Bool)(gw:List TypeId)(as:List X):Option Bo :=
 match gw,as with
 | [sT,xT],[x,y]=>match P.underlying sT,P.underlying xT with
  | some (.slice e),some d=>match P.info? e with
   | some ei=>match ei.zero with
    | some zv=>if y9 d&&zv.cells.size==ei.size&&ei.bytes != 0 then some (.app ei.size ei.bytes mu x y)else none
    | none=>none
   | none=>none
  | _,_=>none
 | _,_=>none
def sk (P:Program)(gw:List TypeId)(as:List X):Option Bo :=
 match gw,as with
 | [sT,xT],[x,k]=>match P.underlying sT,P.underlying xT with
  | some (.slice e),some (.int _)=>match P.info? e,zeroOf P e with
   | some ei,some z=>if ei.bytes != 0 then some (.JI ei.size ei.bytes z x k)else none
   | _,_=>none
  | _,_=>none
 | _,_=>none
def gS (P:Program)(mu:Bool)(b:Builtin)(gw:List TypeId)(as:List X):Option Bo :=
 match b,gw,as with
 | .append,gw,as=>match sk P gw as with
  | some b=>some b
  | none=>jF P mu gw as
 | .cap,[t],[x]=>match P.underlying t with
  | some (.slice _)=>some (.cap x)
  | _=>none
 | .copy,[dT,_],[x,y]=>match P.underlying dT with
  | some (.slice e)=>(P.info? e).map fun ei=>.C9 ei.size x y
  | _=>none
 | .len,[t],[x]=>match P.underlying t with
  | some .string=>some (.len .str x)
  | some (.slice _)=>some (.len .sl x)
  | some (.map _ _)=>some (.len .map x)
  | _=>none
 | .clear,[t],[x]=>match P.underlying t with
  | some (.slice e)=>match P.info? e,zeroOf P e with
   | some ei,some z=>some (.Je ei.size z x)
   | _,_=>none
  | _=>none
 | .min,_,[x,y]=>some (.mn x y)
 | .max,_,[x,y]=>some (.mx x y)
 | .delete,[t,_],[m,k]=>match P.underlying t with
  | some (.map key _)=>match qJ P key with
   | some kt=>if kv P key kt then some (.del kt m k)else none
   | none=>none
  | _=>none
 | _,_,_=>none
def uu (P:Program)(ty:TypeId)(m k:X):Option (Nat×KT×T) :=
 match P.underlying ty with
 | some (.map key e)=>match qJ P key,P.info? e with
  | some kt,some ei=>match ei.zero with
   | some zv=>match ku zv with
    | some z=>if kv P key kt then some (e,kt,z)else none
    | none=>none
   | none=>none
  | _,_=>none
 | _=>none
def sm (P:Program)(fs:List Field):Bool:=fs.all fun f=>(P.info? f.type).isSome
def mm (P:Program)(ty:TypeId)(ps:List (Nat×X)):Option Bo :=
 match P.underlying ty,zeroOf P ty with
 | some (.struct fs),some z=>if sm P fs.toList&&ps.all (fun p=>p.1<fs.size)then
   some (.build z (ps.map fun p=>((((placesOf P fs.toList)[p.1]?).getD (0,0)).1,(((placesOf P fs.toList)[p.1]?).getD (0,0)).2,p.2)))else none
 | _,_=>none
def xh (P:Program)(mu:Bool)(ty:TypeId)(n:Nat)(ps:List (Nat×X)):Option Bo :=
 match P.underlying ty with
 | some (.slice e)=>match P.info? e,zeroOf P e with
  | some ei,some z=>if z.length==ei.size&&decide (n*ei.size≤16777216)then some (if mu then .Jf n z ps else .lX n z ps)else none
  | _,_=>none
 | _=>none
def xi (P:Program)(mu:Bool)(ty:TypeId)(l c:X):Option Bo :=
 match P.underlying ty with
 | some (.slice e)=>match P.info? e,zeroOf P e with
  | some ei,some z=>if z.length==ei.size&&ei.size != 0 then some (.G0 mu ei.bytes z l c)else none
  | _,_=>none
 | _=>none
def FM (n:String):Bool:=(Extern.allGenericRows.lookup n).isNone&&(Extern.allTypedRows.lookup n).isNone&&(Extern.allRows.lookup n).isNone
def vF (P:Program)(f:FuncId):Option Nat :=
 match P.funcs[f]? with
 | some fn=>match fn.params[0]? with
  | some t=>match P.underlying t with
   | some (.slice e)=>match P.info? e with
    | some ei=>if fn.name != "runtime.NumGoroutine"&&fn.body.isNone&&(Extern.findNext fn).isNone&&fn.origin=="slices.overlaps"&&FM fn.name then some ei.size else none
    | none=>none
   | _=>none
  | none=>none
 | none=>none
def a7 (P:Program)(mu:Bool):Op→Option Bo
 | .move x | .assign x=>(aH x).map .aD
 | .pick c a b=>match aH c,aH a,aH b with
  | some c,some a,some b=>some (.pick c a b)
  | _,_,_=>none
 | .binOp op ty x y _=>match aH x,aH y with
  | some x,some y=>y8 P op ty x y
  | _,_=>none
 | .unOp op _ x=>(aH x).map (.un op)
 | .convert s d x=>(aH x).bind (pK P s d)
 | .alloc ty=>(zeroOf P ty).map .alloc
 | .box _ x=>(aH x).map .box
 | .build ty ps=>(kC ps.toList).bind (mm P ty)
 | .buildSlice ty n ps=>(kC ps.toList).bind (xh P mu ty n)
 | .load ty x=>(aH x).bind (pJ P ty)
 | .store ty a v=>match P.info? ty,aH a,aH v with
  | some i,some a,some v=>some (.st i.size a v)
  | _,_,_=>none
 | .fieldAddr ty x f=>(aH x).bind fun x=>kD P ty x f true
 | .field ty x f=>(aH x).bind fun x=>kD P ty x f false
 | .indexAddr ty x i=>match aH x,aH i with
  | some x,some i=>ur P ty x i true
  | _,_=>none
 | .index ty x i=>match aH x,aH i with
  | some x,some i=>ur P ty x i false
  | _,_=>none
 | .slice ty x lo hi mx=>match aH x,ir lo,ir hi,ir mx with
  | some x,some lo,some hi,some mx=>if mu then xg P ty x lo hi mx else ml P ty x lo hi mx
  | _,_,_,_=>none
 | .makeMap _ none=>some .vg
 | .lookup ty m k ok=>match aH m,aH k with
  | some m,some k=>(uu P ty m k).map fun (_,kt,z)=>.oU kt z ok m k
  | _,_=>none
 | .mapUpdate ty m k v | .insert ty m k v=>match aH m,aH k,aH v with
  | some m,some k,some v=>(uu P ty m k).map fun (_,kt,_)=>.x7 kt m k v
  | _,_,_=>none
 | .makeSlice ty l c=>match aH l,aH c with
  | some l,some c=>xi P mu ty l c
  | _,_=>none
 | .makeFunc (.func f) first ja=>if first.size=0 then(er ja.toList).map (.G1 f)else none
 | .extract x i=>(aH x).map (.ext i)
 | .nilCheck x=>(aH x).map .wU
 | .range ty m=>match P.underlying ty with
  | some (.map _ _)=>(aH m).map .JG
  | _=>none
 | .next it false=>(aH it).map .ni
 | .entry it=>(aH it).map .JH
 | .call { callee:=.value (.func f),args,.. }=>match vF P f,er args.toList with
  | some n,some [x,y]=>some (.Jd n x y)
  | _,_=>none
 | .call { callee:=.builtin b,args,argTypes }=>(er args.toList).bind (gS P mu b argTypes.toList)
 | _=>none
def C0 (P:Program)(w0:World)(g:Ctx)(H:ae)(w:World)(s:Sem Next)(t:T)(H':ae):Prop :=
 ∃nx v w' g',s.run P w=.ok nx w'∧(nx=.value v∨(nx=.skip∧v=undef))∧Le g w g' w'∧SR w0 g' H' w'∧VR g' w' t v∧Fr g H g' H'
theorem bp.kE {P:Program}{w0 w:World}{g:Ctx}{H H':ae}{s:Sem Value}{t:T}(h:bp P w0 g H w s t H'):C0 P w0 g H w (do pure (.value (←s))) t H':=by
 obtain⟨v,w',g',h1,h2⟩:=h
 exact⟨.value v,v,w',g',by simp[h1],.inl rfl,h2⟩
theorem fM {g:Ctx}{w:World}:VR g w aW undef:=.bC rfl (by simp)
section
variable {P:Program} {w0 w:World} {g:Ctx} {H:ae} {R:ax} {ρ:Operand→Value}
def RV (g:Ctx)(w:World)(R:ax)(ρ:Operand→Value)(xs:List Operand):Prop:=∀x∈xs,∀y,aH x=some y→VR g w (y.ev R) (ρ x)
theorem et:∀(xs:List Operand) (ys:List X),er xs=some ys→RV g w R ρ xs→a6 g w (ys.map (X.ev R)) (xs.map ρ)
 | [],ys,h,_=>by simp[er]at h;subst h;exact a6.nil
 | x :: xs,ys,h,hv=>by
  simp only[er]at h
  cases h1:aH x with
  | none=>simp[h1]at h
  | some y =>
   cases h2:er xs with
   | none=>simp[h1,h2]at h
   | some Tb =>
    simp[h1,h2]at h;subst h
    exact a6.cons (hv x (by simp) y h1) (et xs Tb h2 (fun z hz=>hv z (by simp[hz])))
theorem mo:∀(ps:List (Nat×Operand)) (qs:List (Nat×X)),kC ps=some qs→RV g w R ρ (ps.map (·.2))→PV g w R qs (ps.map fun p=>(p.1,ρ p.2))
 | [],qs,h,_=>by simp[kC]at h;subst h;exact .nil
 | (i,x) :: ps,qs,h,hv=>by
  simp only[kC]at h
  cases h1:aH x with
  | none=>simp[h1]at h
  | some y =>
   cases h2:kC ps with
   | none=>simp[h1,h2]at h
   | some Tc =>
    simp[h1,h2]at h;subst h
    exact .cons (hv x (by simp) y h1) (mo ps Tc h2 (fun z hz=>hv z (by simp at hz ⊢;exact .inr hz)))
end
section
variable {P:Program} {w0 w:World} {g:Ctx} {H H':ae} {R:ax} {ρ:Operand→Value} {t:T}
theorem D3 {op:BinOp}{ty:TypeId}{ox oy:Operand}{x y:X}{b:Bo}(hc:y8 P op ty x y=some b)(h:SR w0 g H w)(hx:VR g w (x.ev R) (ρ ox))(hy:VR g w (y.ev R) (ρ oy))(he:av R H b=some (t,H')) :
  C0 P w0 g H w (do pure (Next.value (←(do eqGuard op ty ox oy (ρ ox) (ρ oy);binOp op ty (ρ ox) (ρ oy))))) t H':=by
 refine bp.kE ?_
 unfold y8 at hc
 cases hu:P.underlying ty with
 | none=>simp[hu]at hc
 | some d =>
  rw[hu]at hc
  have heq:∀n,isEq op=some n→op=if n then .neq else .eql:=by
   intro n hn;cases op<;>simp[isEq]at hn<;>subst hn<;>rfl
  have bin:b=.bin op x y→bp P w0 g H w (do eqGuard op ty ox oy (ρ ox) (ρ oy);binOp op ty (ρ ox) (ρ oy)) t H':=by
   rintro rfl
   simp only[av,Option.map_eq_some_iff,Prod.mk.injEq]at he
   obtain⟨t',h1,rfl,rfl⟩:=he
   exact Di h hx hy h1
  have ref:(∃n c,isEq op=some n∧cls d=some c∧b=.l7 n c x y)→bp P w0 g H w (do eqGuard op ty ox oy (ρ ox) (ρ oy);binOp op ty (ρ ox) (ρ oy)) t H':=by
   rintro⟨n,c,h1,h2,rfl⟩
   simp only[av,Option.map_eq_some_iff,Prod.mk.injEq]at he
   obtain⟨r,h3,rfl,rfl⟩:=he
   rw[heq n h1]
   exact Dk hu (by cases d<;>simp[cls]at h2<;>subst h2<;>rfl) h hx hy h3
  have mq:(match isEq op,cls d with|some n,some c=>some (Bo.l7 n c x y)|_,_=>none)=some b→(∃n c,isEq op=some n∧cls d=some c∧b=.l7 n c x y):=by
   intro hh
   cases h1:isEq op with
   | none=>simp[h1]at hh
   | some n =>
    cases h2:cls d with
    | none=>simp[h1,h2]at hh
    | some c=>simp[h1,h2]at hh;exact⟨n,c,rfl,rfl,hh.symm⟩
  cases d with
  | int k=>simp at hc;exact bin hc.symm
  | string=>simp at hc;exact bin hc.symm
  | bool =>
   simp only[Option.map_eq_some_iff]at hc
   obtain⟨n,h1,rfl⟩:=hc
   simp only[av]at he
   rw[heq n h1]
   generalize x.ev R=tx at hx he
   generalize y.ev R=Hz at hy he
   cases tx<;>cases Hz<;>simp at he
   obtain⟨rfl,rfl⟩:=he
   exact Dj hu h hx hy
  | struct fs =>
   cases h1:isEq op with
   | none=>simp[h1]at hc
   | some n =>
    cases h2:kinds P fs.toList with
    | none=>simp[h1,h2]at hc
    | some ks =>
     simp only[h1,h2]at hc
     split at hc
     ·rename_i a9
      simp only[Bool.and_eq_true,Bool.not_eq_true']at a9
      simp at hc;subst hc
      simp only[av]at he
      rw[heq n h1]
      generalize x.ev R=tx at hx he
      generalize y.ev R=Hz at hy he
      cases tx<;>cases Hz<;>(try simp only[reduceCtorEq]at he)
      split at he
      ·rename_i hk
       simp only[Option.map_eq_some_iff,Prod.mk.injEq]at he
       obtain⟨r,h3,rfl,rfl⟩:=he
       exact Dm hu a9.1.1 a9.1.2 a9.2 h hx hy hk h3
      ·cases he
     ·cases hc
  | pointer _=>exact ref (mq hc)
  | slice _=>exact ref (mq hc)
  | map _ _=>exact ref (mq hc)
  | func _ _ _=>exact ref (mq hc)
  | invalid=>exact ref (mq hc)
  | float _=>exact ref (mq hc)
  | complex _=>exact ref (mq hc)
  | unsafePointer=>exact ref (mq hc)
  | array _ _=>exact ref (mq hc)
  | chan _ _=>exact ref (mq hc)
  | interface _=>exact ref (mq hc)
  | tuple _=>exact ref (mq hc)
  | named _ _=>exact ref (mq hc)
theorem za {ty:TypeId}{v:Value}{x:X}{b:Bo}(hc:pJ P ty x=some b)(h:SR w0 g H w)(hx:VR g w (x.ev R) v)(he:av R H b=some (t,H')):C0 P w0 g H w (do pure (Next.value (←Instr.loadAt ty v))) t H':=by
 refine bp.kE ?_
 unfold pJ at hc
 cases hu:P.underlying ty with
 | none=>simp[hu]at hc
 | some d =>
  cases hi:P.info? ty with
  | none=>simp[hu,hi]at hc
  | some i =>
   simp only[hu,hi,Option.some.injEq]at hc
   subst hc
   simp only[av]at he
   cases hl:iU H (if cT d then i.size else 1) (x.ev R)with
   | none=>simp[hl]at he
   | some cs =>
    simp only[hl,Option.map_eq_some_iff,Prod.mk.injEq]at he
    obtain⟨t',h1,rfl,rfl⟩:=he
    exact G6 hu hi rfl (fun e=>by rw[if_pos e]) h hx hl h1
theorem pL {ty:TypeId}{v:Value}{x:X}{f:Nat}{ad:Bool}{b:Bo}(hc:kD P ty x f ad=some b)(h:SR w0 g H w)(hx:VR g w (x.ev R) v)(he:av R H b=some (t,H')) :
  bp P w0 g H w (if ad then Instr.fieldAt ty v f else Instr.field ty v f) t H':=by
 unfold kD at hc
 cases hu:P.underlying ty with
 | none=>simp[hu]at hc
 | some d =>
  cases d<;>simp only[hu]at hc<;>(try (cases hc;done))
  rename_i fs
  cases hf:fs[f]? with
  | none=>simp[hf]at hc
  | some fl =>
   simp only[hf]at hc
   cases hd:P.underlying fl.type with
   | none=>simp[hd]at hc
   | some d =>
    cases hi:P.info? fl.type with
    | none=>simp[hd,hi]at hc
    | some i =>
     simp only[hd,hi]at hc
     cases ad with
     | true =>
      simp only[if_true]at hc
      split at hc
      ·cases hc
      ·rename_i hz
       simp at hc;subst hc
       simp only[av]at he
       simp only[Option.map_eq_some_iff,Prod.mk.injEq]at he
       obtain⟨t',h1,rfl,rfl⟩:=he
       exact Dt hu hf hi hz h hx h1
     | false =>
      simp only[Bool.false_eq_true,if_false,Option.some.injEq]at hc
      subst hc
      simp only[av]at he
      generalize x.ev R=tx at hx he
      cases tx<;>(try simp only[reduceCtorEq]at he)
      rename_i cs
      split at he
      ·rename_i hle
       simp only[Option.map_eq_some_iff,Prod.mk.injEq]at he
       obtain⟨t',h1,rfl,rfl⟩:=he
       exact Du hu hf hd hi rfl h hx hle h1
      ·cases he
theorem vG {ty:TypeId}{v vi:Value}{x i:X}{ad:Bool}{b:Bo}(hc:ur P ty x i ad=some b)(h:SR w0 g H w)(hx:VR g w (x.ev R) v)(hi:VR g w (i.ev R) vi)(he:av R H b=some (t,H')) :
  bp P w0 g H w (if ad then Instr.indexAt ty v vi else Instr.index ty v vi) t H':=by
 unfold ur at hc
 cases hu:P.underlying ty with
 | none=>simp[hu]at hc
 | some d =>
  cases d<;>cases ad<;>simp only[hu]at hc<;>(try (cases hc;done))
  ·-- string
   simp at hc;subst hc
   simp only[av]at he
   generalize x.ev R=tx at hx he
   cases tx<;>(try simp only[reduceCtorEq]at he)
   cases hn:bd (i.ev R)with
   | none=>simp[hn]at he
   | some n =>
    simp only[hn,Option.map_eq_some_iff,Prod.mk.injEq]at he
    obtain⟨c,h1,rfl,rfl⟩:=he
    exact Dx hu h hx hi hn h1
  ·-- slice
   rename_i e
   cases m9:P.info? e with
   | none=>simp[m9]at hc
   | some ei =>
    simp[m9]at hc;subst hc
    simp only[av]at he
    simp only[Option.bind_eq_some_iff,Option.map_eq_some_iff,Prod.mk.injEq]at he
    obtain⟨n,h1,t',h2,rfl,rfl⟩:=he
    exact Dv hu m9 h hx hi h1 h2
  ·-- D4 value
   rename_i n e
   cases m9:P.info? e with
   | none=>simp[m9]at hc
   | some ei =>
    cases HA:P.underlying e with
    | none=>simp[m9,HA]at hc
    | some d =>
     simp[m9,HA]at hc;subst hc
     simp only[av]at he
     generalize x.ev R=tx at hx he
     cases tx<;>(try simp only[reduceCtorEq]at he)
     cases hn:bd (i.ev R)with
     | none=>simp[hn]at he
     | some m =>
      simp only[hn]at he
      split at he
      ·rename_i fv
       simp only[Option.map_eq_some_iff,Prod.mk.injEq]at he
       obtain⟨t',h1,rfl,rfl⟩:=he
       exact Dy hu HA m9 rfl h hx hi hn fv.1 fv.2 h1
      ·cases he
  ·-- D4 address
   rename_i n e
   cases m9:P.info? e with
   | none=>simp[m9]at hc
   | some ei =>
    simp[m9]at hc;subst hc
    simp only[av]at he
    generalize x.ev R=tx at hx he
    cases tx<;>(try simp only[reduceCtorEq]at he)
    cases hn:bd (i.ev R)with
    | none=>simp[hn]at he
    | some m =>
     simp only[hn]at he
     split at he
     ·rename_i aE
      simp at he
      obtain⟨rfl,rfl⟩:=he
      exact Dw hu m9 h hx hi hn aE
     ·cases he
theorem fD {x:Option Operand}{y:Option X}(h:ir x=some y)(hv:RV g w R ρ x.toList):OV g w R y (x.map ρ):=by
 cases x with
 | none=>simp[ir]at h;subst h;trivial
 | some x =>
  simp only[ir,Option.map_eq_some_iff]at h
  obtain⟨y',h1,rfl⟩:=h
  exact hv x (by simp) y' h1
theorem D5 {ty:TypeId}{v:Value}{x:X}{lo hi mx:Option X}{hG iL zb:Option Value}{b:Bo}(hc:xg P ty x lo hi mx=some b)(h:SR w0 g H w)(hx:VR g w (x.ev R) v)(pF:OV g w R lo hG)(zd:OV g w R hi iL)(FN:OV g w R mx zb)
  (he:av R H b=some (t,H')):C0 P w0 g H w (do pure (Next.value (←Instr.sliceAt ty v hG iL zb))) t H':=by
 refine bp.kE ?_
 unfold xg at hc
 split at hc
 ·rename_i e VF hu
  cases m9:P.info? e with
  | none=>simp[m9]at hc
  | some ei =>
   simp only[m9,Option.map_some,Option.some.injEq]at hc
   subst hc
   cases hG with
   | some _=>exact pF.elim
   | none=>cases zb with
    | some _=>exact FN.elim
    | none=>cases iL with
     | none=>exact zd.elim
     | some vh =>
      simp only[av]at he
      generalize x.ev R=tx at hx he
      split at he
      ·rename_i bb off len n' hh Ov
       split at he
       ·rename_i fv
        obtain⟨rfl,h1,h2,h3⟩:=fv
        simp only[Option.some.injEq,Prod.mk.injEq]at he
        obtain⟨rfl,rfl⟩:=he
        exact DB hu m9 h hx zd Ov h1 h2 h3
       ·cases he
      ·cases he
 ·cases hc
theorem xj {ty:TypeId}{v:Value}{x:X}{lo hi mx:Option X}{hG iL zb:Option Value}{b:Bo}(hc:ml P ty x lo hi mx=some b)(h:SR w0 g H w)(hx:VR g w (x.ev R) v)(pF:OV g w R lo hG)(zd:OV g w R hi iL)(FN:OV g w R mx zb)
  (he:av R H b=some (t,H')):C0 P w0 g H w (do pure (Next.value (←Instr.sliceAt ty v hG iL zb))) t H':=by
 refine bp.kE ?_
 unfold ml at hc
 cases hu:P.underlying ty with
 | none=>simp[hu]at hc
 | some d =>
  cases d<;>simp only[hu]at hc<;>(try (cases hc;done))
  ·-- string
   cases mx with
   | some _=>simp at hc
   | none =>
    cases zb with
    | some _=>exact FN.elim
    | none =>
     simp at hc;subst hc
     simp only[av]at he
     generalize x.ev R=tx at hx he
     cases tx<;>(try simp only[reduceCtorEq]at he)
     rename_i s
     cases hl:fe R 0 lo with
     | none=>simp[hl]at he
     | some l =>
      cases hh:fe R s.size hi with
      | none=>simp[hl,hh]at he
      | some r =>
       simp only[hl,hh]at he
       split at he
       ·rename_i fv
        simp at he
        obtain⟨rfl,rfl⟩:=he
        exact Dz hu h hx pF zd hl hh fv.1 fv.2
       ·cases he
  ·-- slice
   rename_i e
   cases m9:P.info? e with
   | none=>simp[m9]at hc
   | some ei =>
    simp only[m9]at hc
    split at hc
    ·cases hc
    ·rename_i Td
     simp at hc;subst hc
     simp only[av]at he
     generalize x.ev R=tx at hx he
     cases tx<;>(try simp only[reduceCtorEq]at he)
     ·rename_i k es
      cases hl:fe R 0 lo with
      | none=>simp[hl]at he
      | some l =>
       cases hh:fe R es.length hi with
       | none=>simp[hl,hh]at he
       | some r =>
        simp only[hl,hh]at he
        cases mx with
        | none =>
         cases zb with
         | some _=>exact FN.elim
         | none =>
          simp only at he
          split at he
          ·rename_i fv
           simp at he
           obtain⟨rfl,rfl⟩:=he
           exact DA hu m9 h hx pF zd hl hh fv.1 fv.2.1 fv.2.2
          ·cases he
        | some m =>
         cases zb with
         | none=>exact FN.elim
         | some vm =>
          cases hi with
          | none=>simp at Td
          | some hi =>
           cases iL with
           | none=>exact zd.elim
           | some vh =>
            simp only at he
            cases hm:bd (m.ev R)with
            | none=>simp[hm]at he
            | some m' =>
             simp only[hm]at he
             split at he
             ·rename_i fv
              simp only[Option.some.injEq,Prod.mk.injEq]at he
              obtain⟨rfl,rfl⟩:=he
              exact yL hu m9 h hx pF zd FN hl hh hm fv.1 fv.2.1 fv.2.2.1 fv.2.2.2
             ·cases he
     ·rename_i bb off len n'
      cases hl:fe R 0 lo with
      | none=>simp[hl]at he
      | some l =>
       cases hh:fe R len hi with
       | none=>simp[hl,hh]at he
       | some r =>
        simp only[hl,hh]at he
        cases mx with
        | some _=>simp at he
        | none =>
         cases zb with
         | some _=>exact FN.elim
         | none =>
          simp only at he
          split at he
          ·rename_i fv
           obtain⟨rfl,h1,h2⟩:=fv
           simp only[Option.some.injEq,Prod.mk.injEq]at he
           obtain⟨rfl,rfl⟩:=he
           exact yM hu m9 h hx pF zd hl hh h1 h2
          ·cases he
     ·rename_i bb off len n' cc
      cases hl:fe R 0 lo with
      | none=>simp[hl]at he
      | some l =>
       cases hh:fe R len hi with
       | none=>simp[hl,hh]at he
       | some r =>
        simp only[hl,hh]at he
        cases mx with
        | some _=>simp at he
        | none =>
         cases zb with
         | some _=>exact FN.elim
         | none =>
          simp only at he
          split at he
          ·rename_i fv
           obtain⟨rfl,h1,h2⟩:=fv
           simp only[Option.some.injEq,Prod.mk.injEq]at he
           obtain⟨rfl,rfl⟩:=he
           exact yN hu m9 h hx pF zd hl hh h1 h2
          ·cases he
theorem ze {src dst:TypeId}{v:Value}{x:X}{b:Bo}(hc:pK P src dst x=some b)(h:SR w0 g H w)(hx:VR g w (x.ev R) v)(he:av R H b=some (t,H')):C0 P w0 g H w (do pure (Next.value (←convert src dst v))) t H':=by
 refine bp.kE ?_
 unfold pK at hc
 cases hs:P.underlying src with
 | none=>simp[hs]at hc
 | some ds =>
  cases hd:P.underlying dst with
  | none=>simp[hs,hd]at hc
  | some dd =>
   rw[hs,hd]at hc
   cases ds<;>cases dd<;>simp only[reduceCtorEq]at hc
   ·rename_i k0 k
    simp at hc;subst hc
    simp only[av]at he
    generalize x.ev R=tx at hx he
    cases tx<;>simp at he
    obtain⟨rfl,rfl⟩:=he
    exact Dn hs hd h hx
   ·rename_i e
    cases hu:P.underlying e with
    | none=>simp[hu]at hc
    | some d =>
     have J7:d=.int .u8∧b=.yn x:=by
      rw[hu]at hc
      cases d with
      | int k=>cases k<;>simp at hc;exact⟨rfl,hc.symm⟩
      | _=>simp at hc
     obtain⟨rfl,rfl⟩:=J7
     simp only[av]at he
     cases iS:bl H 1 (x.ev R)with
     | none=>simp[iS]at he
     | some es =>
      have FD:∀s,x.ev R≠.str s:=by
       intro s e;simp only[e]at he;split at he<;>cases he
      have FG:(bytesOf es).map (fun l=>(T.str ⟨l.toArray⟩,H))=some (t,H'):=by
       simp only[iS]at he
       generalize x.ev R=tx at he FD
       cases tx<;>first|exact he|exact absurd rfl (FD _)
      simp only[Option.map_eq_some_iff,Prod.mk.injEq]at FG
      obtain⟨l,h1,rfl,rfl⟩:=FG
      exact Ds hs hu hd h hx iS FD h1
end
end Go.Rmp
end
