/- Part of a proof of a law of this seat: the machine of plain values, its simulation, and the contracts of the functions that the law reaches. Conditions: none beyond the given row. -/
import Derived.OrdersIn
import Derived.RangeFuncIn
import Derived.Laws.Sem
import Derived.Laws.World
import Derived.Laws.IdiomCopy
import Derived.ChangeKeysEq
import Derived.Laws.StructEq
import Derived.Laws.BytesString
import Derived.IntWalk
import Derived.Lib.AppendZerosOnto
import Derived.Lib.Overlaps
import Derived.Maps.RangeRun
import Derived.RangeFuncRecord
open Int renaming reduceLT → q3, reduceLE → q4, reduceBEq → q5, reduceBNe → q6, reduceEq → q7
open Nat renaming reduceAdd → q8, reduceLeDiff → q9, reduceLT → j1, reduceEqDiff → j2
set_option linter.unusedSimpArgs false
set_option linter.unusedVariables false
set_option linter.unnecessarySimpa false
set_option maxHeartbeats 4000000
section
namespace Go.Rmp
inductive SK where
 | nil|arg|full|own (t e:Nat)
 deriving DecidableEq
inductive T where
 | int (k:IntKind) (n:Int)
 | bool (b:Bool)
 | str (s:ByteArray)
 | bZ
 | ptr (b off:Nat)
 | cX (cs:List T)
 | gX
 | map (b:Nat)
 | sl (k:SK) (es:List (List T))
 | aA (b off len n:Nat)
 | eH (b off len n c:Nat)
 | nD
 | fn (f:Nat) (lP:List T)
 | od (b:Nat)
 | gY
 | agg (cs:List T)
 | bJ (vs:List T)
abbrev aw:=Nat→T
def b7:T:=.bJ []
def T.one:T→Bool
 | .agg _ | .bJ _=>false
 | _=>true
def T.cells?:T→Option (List T)
 | .agg cs=>some cs
 | .bJ _=>none
 | v=>some [v]
def T.erase:T→T
 | .sl _ es=>.sl .arg es
 | v=>v
inductive X where
 | r (t:Nat)
 | c (v:T)
def X.ev (R:aw):X→T
 | .r t=>R t
 | .c v=>v
def pn (R:aw)(d:Nat)(v:T):aw:=fun t=>if t=d then v else R t
def bE (R:aw)(d:Option Nat)(v:T):aw:=match d with|some d=>pn R d v|none=>R
inductive JA where|ptr|slice|map|func
 deriving DecidableEq
inductive Lc where|str|sl|map
inductive xc where|int|str|bool
 deriving DecidableEq
inductive KT where
 | sc (t:xc)
 | st (l:List xc)
def T.zf:xc→T→Bool
 | .int,.int _ _ | .str,.str _ | .bool,.bool _=>true
 | _,_=>false
def gk:List xc→List T→Bool
 | [],[]=>true
 | t :: ts,v :: vs=>v.zf t&&gk ts vs
 | _,_=>false
def T.jC:KT→T→Bool
 | .sc t,v=>v.zf t
 | .st l,.agg cs=>gk l cs
 | _,_=>false
inductive Bo where
 | au (x:X)
 | pick (c a b:X)
 | bin (op:BinOp) (x y:X)
 | om (neg:Bool) (c:JA) (x y:X)
 | beq (neg:Bool) (x y:X)
 | eqs (neg:Bool) (ks:List xc) (x y:X)
 | un (op:UnOp) (x:X)
 | hJ (k:IntKind) (x:X)
 | B5 (x:X)
 | cvb (x:X)
 | len (k:Lc) (x:X)
 | alloc (z:List T)
 | box (x:X)
 | build (z:List T) (ps:List (Nat×Nat×X))
 | nE (n:Nat) (z:List T) (ps:List (Nat×X))
 | ld (n:Nat) (ag:Bool) (x:X)
 | st (n:Nat) (a v:X)
 | gW (off:Nat) (x:X)
 | SP (off n:Nat) (ag:Bool) (x:X)
 | ff (st:Nat) (x i:X)
 | N6 (n st:Nat) (x i:X)
 | SQ (x i:X)
 | XG (n st:Nat) (ag:Bool) (x i:X)
 | SS (x:X) (lo hi:Option X)
 | fH (st:Nat) (x:X) (lo hi mx:Option X)
 | Az
 | oq (kt:KT) (z:T) (ok:Bool) (m k:X)
 | AA (kt:KT) (m k v:X)
 | del (kt:KT) (m k:X)
 | app (st bytes:Nat) (mu:Bool) (x y:X)
 | YE (mu:Bool) (bytes:Nat) (z:List T) (l c:X)
 | JB (f:Nat) (lP:List X)
 | ext (i:Nat) (x:X)
 | mn (x y:X)
 | mx (x y:X)
 | m9 (x:X)
 | cap (x:X)
 | B6 (n:Nat) (x y:X)
 | RW (n:Nat) (x y:X)
 | N7 (x:X)
 | qU (x:X)
 | N8 (x:X)
 | RX (n:Nat) (z:List T) (x:X)
 | SU (n bytes:Nat) (z:List T) (x k:X)
 | RY (n:Nat) (z:List T) (ps:List (Nat×X))
abbrev Gd:=Option (Nat×Bool)
structure Rd where
 d:Nat
 op:Bo
 g:Gd
inductive MH where
 | b (op:Bo)
 | call (f:Nat) (as:List X)
 | bF (f:X) (as:List X)
structure O where
 d:Option Nat
 op:MH
 g:Gd
 B7:List Rd
inductive C where
 | skip
 | ops (l:List O)
 | seq (a b:C)
 | cond (x:X) (a b:C)
 | block (id:Nat) (a:C)
 | loop (a:C)
 | exit (id:Nat)
 | ret
 | cP (n:Nat) (x:X) (ps:List Nat) (b9 body:C)
inductive Ex where
 | normal|exit (id:Nat)|ret
inductive N9 where
 | ready|busy|done
 deriving DecidableEq
inductive B where
 | cells (cs:List T)
 | map (es:List (T×T))
 | tok (e:Nat)
 | loop (st:N9) (fV:Option Ex) (n:Nat) (R:Nat→T) (ps:List Nat) (b9 body:C)
 | AB
 | dead
 /-- a map that is ranged over: the places still to come;the range's block;the place last told -/
 | cY (es:List (T×T)) (ix:List Nat) (bi:Nat) (cur:Option Nat)
 | vD (b:Nat)
abbrev af:=List B
def jQ (a b:ByteArray):Bool:=a.toList==b.toList
def strLt (a b:ByteArray):Bool:=Op.bytesLess a.toList b.toList
def cL (op:BinOp):T→T→Option T
 | .int k a,.int k' b =>
  match op with
  | .shl=>if b<0 then none else some (.int k (k.wrap (a*2^(min b.toNat k.bits))))
  | .shr=>if b<0 then none else some (.int k (a.fdiv (2^(min b.toNat k.bits))))
  | op =>
   if k=k' then
    match op with
    | .add=>some (.int k (k.wrap (a+b)))
    | .sub=>some (.int k (k.wrap (a-b)))
    | .mul=>some (.int k (k.wrap (a*b)))
    | .quo=>if b=0 then none else some (.int k (k.wrap (a.tdiv b)))
    | .rem=>if b=0 then none else some (.int k (a.tmod b))
    | .and=>some (.int k (k.wrap (BitVec.ofInt k.bits a &&& BitVec.ofInt k.bits b).toNat))
    | .or=>some (.int k (k.wrap (BitVec.ofInt k.bits a ||| BitVec.ofInt k.bits b).toNat))
    | .xor=>some (.int k (k.wrap (BitVec.ofInt k.bits a ^^^ BitVec.ofInt k.bits b).toNat))
    | .andNot=>some (.int k (k.wrap (BitVec.ofInt k.bits a &&& ~~~ BitVec.ofInt k.bits b).toNat))
    | .eql=>some (.bool (a==b))
    | .neq=>some (.bool (a != b))
    | .lss=>some (.bool (a<b))
    | .leq=>some (.bool (a≤b))
    | .gtr=>some (.bool (a>b))
    | .geq=>some (.bool (a≥b))
    | _=>none
   else none
 | .str a,.str b =>
  match op with
  | .add=>if a.size+b.size≤9223372036854775807 then some (.str (a++b))else none
  | .eql=>some (.bool (jQ a b))
  | .neq=>some (.bool (!jQ a b))
  | .lss=>some (.bool (strLt a b))
  | .leq=>some (.bool (strLt a b||jQ a b))
  | .gtr=>some (.bool (!(strLt a b||jQ a b)))
  | .geq=>some (.bool (!strLt a b))
  | _=>none
 | _,_=>none
def D0 (op:UnOp):T→Option T
 | .int k n =>
  match op with
  | .neg=>some (.int k (k.wrap (0-n)))
  | .xor=>some (.int k (k.wrap (BitVec.ofInt k.bits (if k.signed then -1 else k.max) ^^^ BitVec.ofInt k.bits n).toNat))
  | _=>none
 | .bool b=>match op with | .not=>some (.bool !b)|_=>none
 | _=>none
def lq:JA→T→Option Bool
 | .ptr,.bZ=>some true
 | .ptr,.ptr _ _ | .ptr,.cX _=>some false
 | .slice,.sl .nil []=>some true
 | .slice,.sl .full _ | .slice,.sl (.own _ _) _ | .slice,.sl .arg (_ :: _) | .slice,.aA _ _ _ _=>some false
 | .map,.gX=>some true
 | .map,.map _=>some false
 | .func,.nD=>some true
 | .func,.fn _ _=>some false
 | _,_=>none
def dK (c:JA)(x y:T):Option Bool :=
 match lq c x,lq c y with
 | some true,some b=>some b
 | some b,some true=>some b
 | _,_=>none
def jD:T→T→Option Bool
 | .int k a,.int k' b=>if k=k' then some (a==b)else none
 | .str a,.str b=>some (jQ a b)
 | .bool a,.bool b=>some (a==b)
 | _,_=>none
def cj:List T→List T→Option Bool
 | [],[]=>some true
 | a :: as,b :: bs=>match jD a b,cj as bs with
  | some x,some y=>some (x&&y)
  | _,_=>none
 | _,_=>none
def iK:T→T→Option Bool
 | .agg as,.agg bs=>cj as bs
 | a,b=>jD a b
def dt (k:T):List (T×T)→Option (Option Nat)
 | []=>some none
 | e :: es=>match iK k e.1 with
  | some true=>some (some 0)
  | some false=>(dt k es).map (Option.map (·+1))
  | none=>none
def hO (H:af):T→Option (List (T×T))
 | .gX=>some []
 | .map b=>match H[b]? with|some (.map es)=>some es|some (.cY es _ _ _)=>some es|_=>none
 | _=>none
def nn (cells:List T):List (Nat×List T)→Option (List T)
 | []=>some cells
 | (off,vs) :: rest=>if off+vs.length≤cells.length then nn (cells.take off++vs++cells.drop (off+vs.length)) rest else none
def fJ (R:aw):List (Nat×Nat×X)→Option (List (Nat×List T))
 | []=>some []
 | (off,n,x) :: rest=>match (x.ev R).cells?,fJ R rest with
  | some cs,some l=>if cs.length=n then some ((off,cs) :: l)else none
  | _,_=>none
def jR (n:Nat)(es:List (List T))(R:aw):List (Nat×X)→Option (List (List T))
 | []=>some es
 | (i,x) :: rest=>match (x.ev R).cells? with
  | some cs=>if cs.length=n∧i<es.length then jR n (es.set i (cs.map T.erase)) R rest else none
  | none=>none
def jS (n:Nat)(es:List (List T))(R:aw):List (Nat×X)→Option (List (List T))
 | []=>some es
 | (i,x) :: rest=>match (x.ev R).cells? with
  | some cs=>if cs.length=n∧i<es.length then jS n (es.set i cs) R rest else none
  | none=>none
def po (H:af)(n:Nat):T→Option (List T)
 | .ptr b off=>match H[b]? with
  | some (.cells cs)=>if off+n≤cs.length then some ((cs.drop off).take n)else none
  | _=>none
 | .cX cs=>if n≤cs.length then some (cs.take n)else none
 | _=>none
def valOf (ag:Bool)(cs:List T):Option T :=
 if ag then some (.agg cs)else match cs with | [v]=>some v|_=>none
def SV (H:af)(vs:List T):T→Option af
 | .ptr b off=>match H[b]? with
  | some (.cells cs)=>if off+vs.length≤cs.length then some (H.set b (.cells (cs.take off++vs++cs.drop (off+vs.length))))else none
  | _=>none
 | _=>none
def rC (off:Nat):T→Option T
 | .ptr b o=>some (.ptr b (o+off))
 | .cX cs=>if off<cs.length then some (.cX (cs.drop off))else none
 | _=>none
def fw (n i:Nat):T→Option T
 | .sl _ es=>match es[i]? with
  | some c=>if c.length=n∧n≠0 then some (.cX c)else none
  | none=>none
 | .aA b off len n'=>if n'=n∧i<len∧n≠0 then some (.ptr b (off+i*n))else none
 | _=>none
def bq (H:af)(n:Nat):T→Option (List (List T))
 | .sl _ es=>if es.all (·.length==n)then some es else none
 | .aA b off len n'=>match H[b]? with
  | some (.cells cs)=>if n'=n∧off+len*n≤cs.length then some ((List.range len).map fun i=>(cs.drop (off+i*n)).take n)else none
  | _=>none
 | .str s=>if n=1 then some (s.data.toList.map fun c=>[.int .u8 c.toNat])else none
 | _=>none
def bytesOf:List (List T)→Option (List UInt8)
 | []=>some []
 | [.int .u8 n] :: es=>(bytesOf es).map (UInt8.ofNat n.toNat :: ·)
 | _=>none
def jE (H:af):Lc→T→Option Nat
 | .str,.str s=>some s.size
 | .sl,.sl _ es=>some es.length
 | .sl,.aA _ _ len _=>some len
 | .sl,.eH _ _ len _ _=>some len
 | .map,.gX=>some 0
 | .map,.map b=>match H[b]? with
  | some (.map es)=>some es.length
  | some (.cY es _ _ _)=>some es.length
  | _=>none
 | _,_=>none
def cw:T→Option Nat
 | .int _ n=>if 0≤n then some n.toNat else none
 | _=>none
def fX (R:aw)(d:Nat):Option X→Option Nat
 | none=>some d
 | some x=>cw (x.ev R)
def SK.cut (k:SK)(len lo hi:Nat):SK :=
 match k with
 | .nil=>.nil
 | .arg=>.arg
 | .full=>if hi=len then .full else .arg
 | .own t e=>if hi=len∧lo<len then .own t e else .arg
def cC (kx bytes:Nat):Bool:=(kx+kx/4+512)*bytes≤281474976710656
def gZ (H:af)(bytes:Nat)(k:SK)(es new:List (List T)):Option (T×af) :=
 match new with
 | []=>some (.sl k es,H)
 | _ =>
  if cC (es.length+new.length) bytes then
   match k with
   | .nil | .full=>some (.sl (.own H.length (es.length+new.length)) (es++new.map (·.map T.erase)),H++[.tok (es.length+new.length)])
   | .own t e=>match H[t]? with
    | some (.tok e')=>if e=e' then some (.sl (.own t (e+new.length)) (es++new.map (·.map T.erase)),H.set t (.tok (e+new.length)))else none
    | _=>none
   | .arg=>none
  else none
def AD:T→Bool
 | .sl _ _ | .aA _ _ _ _=>true
 | _=>false
def lC (H:af)(n bytes:Nat)(x:T)(new:List (List T)):Option (T×af) :=
 match new with
 | []=>if AD x then some (x,H)else none
 | _ =>
  match x with
  | .sl .nil es | .sl .full es =>
   if cC (es.length+new.length) bytes∧es=[]then some (.aA H.length 0 new.length n,H++[.cells new.flatten])else none
  | .aA b off len n'=>match H[b]? with
   | some (.cells cs) =>
    if n'=n∧off=0∧len*n=cs.length∧cC (len+new.length) bytes then
     some (.aA H.length 0 (len+new.length) n,H.set b .dead++[.cells (cs++new.flatten)])else none
   | _=>none
  | _=>none
def xd:T→T
 | .eH b off len n _=>.aA b off len n
 | t=>t
def iL (H:af)(n k:Nat):T→Option (List (List T))
 | .aA b off _ n' | .eH b off _ n' _=>match H[b]? with
  | some (.cells cs)=>if n'=n∧off+k*n≤cs.length then some ((List.range k).map fun i=>(cs.drop (off+i*n)).take n)else none
  | _=>none
 | _=>none
def D1:T→Option Nat
 | .aA _ _ len _ | .eH _ _ len _ _=>some len
 | _=>none
def B8 (H:af)(n:Nat)(x y:T):Option (T×af) :=
 match x,D1 y with
 | .aA b off len n',some ly | .eH b off len n' _,some ly =>
  match H[b]?,iL H n (min ly len) y with
  | some (.cells cs),some new =>
   if n'=n∧n≠0∧off≤cs.length then some (.int .i64 (min ly len:Nat),H.set b (.cells (cs.take off++new.flatten++cs.drop (off+(min ly len)*n))))else none
  | _,_=>none
 | _,_=>none
def D2 (H:af)(n bytes:Nat)(z:List T)(x:T)(k:Nat):Option (T×af) :=
 match x with
 | .eH b off len n' c=>match iL H n len x with
  | some es=>if n'=n∧n≠0∧0<k∧c<len+k∧z.length=n∧cC (len+k) bytes then some (.aA H.length 0 (len+k) n,H++[.cells (es.flatten++(List.replicate k z).flatten)])else none
  | none=>none
 | _=>none
def B9 (H:af)(n:Nat)(x y:T):Option (T×af) :=
 match x,y with
 | .aA bv _ _ n1,.eH b _ len n2 _ =>
  match H[bv]?,H[b]? with
  | some (.cells _),some (.cells cs)=>if bv≠b∧n1=n∧n2=n∧0<cs.length then some (.bool false,H)else none
  | _,_=>none
 | _,_=>none
def MI (R:aw)(l:List X):List T:=l.map (X.ev R)
def aq (R:aw)(H:af):Bo→Option (T×af)
 | .au x=>some (x.ev R,H)
 | .pick c a b=>match c.ev R with
  | .bool t=>some (if t then a.ev R else b.ev R,H)
  | _=>none
 | .bin op x y=>(cL op (x.ev R) (y.ev R)).map (·,H)
 | .om neg c x y=>(dK c (x.ev R) (y.ev R)).map fun b=>(.bool (if neg then !b else b),H)
 | .beq neg x y=>match x.ev R,y.ev R with
  | .bool a,.bool b=>some (.bool (if neg then !(a==b)else a==b),H)
  | _,_=>none
 | .eqs neg ks x y=>match x.ev R,y.ev R with
  | .agg as,.agg bs=>if gk ks as then(cj as bs).map fun b=>(.bool (if neg then !b else b),H)else none
  | _,_=>none
 | .un op x=>(D0 op (x.ev R)).map (·,H)
 | .hJ k x=>match x.ev R with
  | .int _ n=>some (.int k (k.wrap n),H)
  | _=>none
 | .B5 x=>match bq H 1 (x.ev R)with
  | some es=>match x.ev R with
   | .str _=>none
   | _=>(bytesOf es).map fun l=>(.str ⟨l.toArray⟩,H)
  | none=>none
 | .cvb x=>match x.ev R with
  | .str s=>if s.size=0 then some (.sl .arg [],H)else if s.size≤281474976710656 then some (.sl (.own H.length s.size) (s.data.toList.map fun c=>[.int .u8 c.toNat]),H++[.tok s.size])else none
  | _=>none
 | .len k x=>(jE H k (x.ev R)).map fun (n:Nat)=>(T.int .i64 (n:Int),H)
 | .alloc z=>some (.ptr H.length 0,H++[.cells z])
 | .box x=>(x.ev R).cells?.map fun cs=>(.ptr H.length 0,H++[.cells cs])
 | .build z ps=>match fJ R ps with
  | some l=>(nn z l).map fun cs=>(.agg cs,H)
  | none=>none
 | .nE n z ps=>(jR z.length (List.replicate n z) R ps).map fun es=>(.sl .full es,H)
 | .ld n ag x=>match po H n (x.ev R)with
  | some cs=>(valOf ag cs).map (·,H)
  | none=>none
 | .st n a v=>match (v.ev R).cells? with
  | some vs=>if vs.length=n then(SV H vs (a.ev R)).map (b7,·)else none
  | none=>none
 | .gW off x=>(rC off (x.ev R)).map (·,H)
 | .SP off n ag x=>match x.ev R with
  | .agg cs=>if off+n≤cs.length then(valOf ag ((cs.drop off).take n)).map (·,H)else none
  | _=>none
 | .ff n x i=>(cw (i.ev R)).bind fun i=>(fw n i (x.ev R)).map (·,H)
 | .N6 len n x i=>match x.ev R,cw (i.ev R)with
  | .ptr b off,some i=>if i<len then some (.ptr b (off+i*n),H)else none
  | _,_=>none
 | .SQ x i=>match x.ev R,cw (i.ev R)with
  | .str s,some i=>(s.data[i]?).map fun c=>(.int .u8 c.toNat,H)
  | _,_=>none
 | .XG len n ag x i=>match x.ev R,cw (i.ev R)with
  | .agg cs,some i=>if i<len∧i*n+n≤cs.length then(valOf ag ((cs.drop (i*n)).take n)).map (·,H)else none
  | _,_=>none
 | .SS x lo hi=>match x.ev R with
  | .str s=>match fX R 0 lo,fX R s.size hi with
   | some l,some h=>if l≤h∧h≤s.size then some (.str (s.extract l h),H)else none
   | _,_=>none
  | _=>none
 | .fH n x lo hi mx=>match x.ev R with
  | .sl k es=>match fX R 0 lo,fX R es.length hi,mx with
   | some l,some h,none=>if l≤h∧h≤es.length∧es.all (·.length==n)then some (.sl (k.cut es.length l h) ((es.take h).drop l),H)else none
   | some l,some h,some m=>match cw (m.ev R)with
    | some m =>
     if l≤h∧h≤m∧m≤es.length∧es.all (·.length==n)then
      some (.sl (if k=.nil then .nil else if es=[]∧k=.arg then .arg else if h=m then .full else .arg) ((es.take h).drop l),H)else none
    | none=>none
   | _,_,_=>none
  | .aA b off len n'=>match fX R 0 lo,fX R len hi,mx with
   | some l,some h,none =>
    if n'=n∧l≤h∧h≤len then some (if l=h then(if l=0 then .aA b off 0 n else .sl .arg [])else .aA b (off+l*n) (h-l) n,H)else none
   | _,_,_=>none
  | .eH b off len n' c=>match fX R 0 lo,fX R len hi,mx with
   | some l,some h,none =>
    if n'=n∧l≤h∧h≤c then some (if l<c∨l=0 then .eH b (off+l*n) (h-l) n (c-l)else .sl .arg [],H)else none
   | _,_,_=>none
  | _=>none
 | .Az=>some (.map H.length,H++[.map []])
 | .oq kt z ok m k =>
  if (k.ev R).jC kt then
   match hO H (m.ev R)with
   | some es=>match dt (k.ev R) es with
    | some (some i)=>match es[i]? with
     | some e=>some (if ok then .bJ [e.2,.bool true]else e.2,H)
     | none=>none
    | some none=>some (if ok then .bJ [z,.bool false]else z,H)
    | none=>none
   | none=>none
  else none
 | .AA kt m k v=>match m.ev R with
  | .map b=>if (k.ev R).jC kt then match H[b]? with
   | some (.map es)=>match dt (k.ev R) es with
    | some (some i)=>some (b7,H.set b (.map (es.set i (k.ev R,v.ev R))))
    | some none=>some (b7,H.set b (.map (es++[(k.ev R,v.ev R)])))
    | none=>none
   | _=>none else none
  | _=>none
 | .del kt m k=>match m.ev R with
  | .map b=>if (k.ev R).jC kt then match H[b]? with
   | some (.map es)=>match dt (k.ev R) es with
    | some (some i)=>some (.bJ [],H.set b (.map (es.eraseIdx i)))
    | some none=>some (.bJ [],H)
    | none=>none
   | _=>none else none
  | _=>none
 | .app n bytes mu x y=>match bq H n (y.ev R)with
  | some new=>if mu then lC H n bytes (xd (x.ev R)) new else match x.ev R with
   | .sl k es=>if es.all (·.length==n)then gZ H bytes k es new else none
   | _=>none
  | none=>none
 | .YE mu bytes z l c=>match cw (l.ev R),cw (c.ev R)with
  | some l,some c =>
   if l≤c∧c*bytes≤281474976710656∧c≤9223372036854775807 then
    if mu then some (.aA H.length 0 l z.length,H++[.cells (List.replicate l z).flatten])
    else if l=0 then some (.sl .arg [],H)else some (.sl (.own H.length l) (List.replicate l z),H++[.tok l])
   else none
  | _,_=>none
 | .JB f lP=>some (.fn f (MI R lP),H)
 | .ext i x=>match x.ev R with
  | .bJ vs=>(vs[i]?).map (·,H)
  | _=>none
 | .mn x y=>match x.ev R,y.ev R with
  | .int k a,.int _ b=>some (.int k (if b<a then b else a),H)
  | _,_=>none
 | .mx x y=>match x.ev R,y.ev R with
  | .int k a,.int _ b=>some (.int k (if b>a then b else a),H)
  | _,_=>none
 | .m9 x=>match x.ev R with
  | .bZ | .gY | .nD=>none
  | v=>some (v,H)
 | .cap x=>match x.ev R with
  | .eH _ _ _ _ c=>some (.int .i64 (c:Nat),H)
  | _=>none
 | .B6 n x y=>B8 H n (x.ev R) (y.ev R)
 | .N7 x=>match x.ev R with
  | .map b=>(hO H (.map b)).map fun es=>(.ptr H.length 0,H.set b (.cY es (List.range es.length) H.length none)++[.vD b])
  | _=>none
 | .qU _=>none
 | .N8 x=>match x.ev R with
  | .ptr bi 0=>match H[bi]? with
   | some (.vD b)=>match H[b]? with
    | some (.cY es _ SW (some c))=>if SW=bi then(es[c]?).map fun e=>(.bJ [e.1,e.2],H)else none
    | _=>none
   | _=>none
  | _=>none
 | .RX n z x=>match x.ev R with
  | .aA b off len n'=>match H[b]? with
   | some (.cells cs)=>if n'=n∧z.length=n∧off+len*n≤cs.length then some (b7,H.set b (.cells (cs.take off++(List.replicate len z).flatten++cs.drop (off+len*n))))else none
   | _=>none
  | _=>none
 | .RW n x y=>B9 H n (x.ev R) (y.ev R)
 | .SU n bytes z x k=>(cw (k.ev R)).bind fun k=>D2 H n bytes z (x.ev R) k
 | .RY n z ps=>(jS z.length (List.replicate n z) R ps).bind fun es=>if z.length≠0 then some (.aA H.length 0 n z.length,H++[.cells es.flatten])else none
def bU (R:aw):Gd→Bool
 | none=>true
 | some (t,b)=>match R t with
  | .bool c=>c==b
  | _=>false
inductive Rs where
 | t (r:Nat)
 | cl (r n:Nat) (ag:Bool)
structure Fn where
 n:Nat
 np:Nat
 res:List Rs
 body:C
structure Env where
 fn:Nat→Option Fn
 px:Nat→List T→af→(T→af→Prop)→Prop
 mono:∀f az H (Q Q':T→af→Prop),px f az H Q→(∀t H',Q t H'→Q' t H')→px f az H Q'
inductive J where
 | code (c:C) (R:aw)
 | ops (l:List O) (R:aw)
 | call (f:Nat) (as:List T)
inductive Out where
 | ex (e:Ex) (R:aw)
 | val (v:T)
def C.na:C→Bool
 | .seq a b | .cond _ a b=>a.na||b.na
 | .block _ a | .loop a=>a.na
 | .cP _ _ _ _ _=>true
 | _=>false
def jq (R:aw):List Nat→List T→aw
 | p :: ps,v :: vs=>jq (pn R p v) ps vs
 | _,_=>R
def D3:T→Option Nat
 | .ptr b 0=>some b
 | _=>none
def rD:List T→Option (List Nat)
 | []=>some []
 | t :: ts=>match D3 t,rD ts with
  | some b,some bs=>some (b :: bs)
  | _,_=>none
def marks:T→Option (List Nat)
 | .bJ ts=>rD ts
 | _=>none
def ou (t:T)(b:Nat):T:=match t with
 | .bJ ts=>.bJ (.ptr b 0 :: ts)
 | t=>t
def kill (H:af):List Nat→af
 | []=>H
 | b :: bs=>kill (H.set b .dead) bs
def D4:Option Ex→Ex
 | none=>.normal
 | some e=>e
def hU (as:List T):aw:=fun t=>as.getD t b7
def zg (R:aw)(H:af):Rs→Option T
 | .t r=>some (R r)
 | .cl r n ag=>match po H n (R r)with
  | some cs=>valOf ag cs
  | none=>none
def tC (R:aw)(H:af):List Rs→Option (List T)
 | []=>some []
 | x :: xs=>match zg R H x,tC R H xs with
  | some v,some vs=>some (v :: vs)
  | _,_=>none
def Ca:List T→T
 | [v]=>v
 | l=>.bJ l
def qG (R:aw)(H:af)(l:List Rs):Option T:=(tC R H l).map Ca
def ky (R:aw)(H:af)(l:List Rd):Prop:=∀r∈l,bU R r.g=true→aq R H r.op=some (R r.d,H)
def tD (cs:List T)(off len n:Nat):List (List T):=(List.range len).map fun i=>(cs.drop (off+i*n)).take n
def zh (b:Nat)(cs:List T):T→T
 | .aA b' off len n=>if b'=b∧off+len*n≤cs.length then .sl .arg (tD cs off len n)else .aA b' off len n
 | t=>t
def D5 (b:Nat)(cs:List T):T→T
 | .bJ vs=>.bJ (vs.map (zh b cs))
 | t=>zh b cs t
def AE (b:Nat):T→Prop
 | .bJ vs=>∃off len n,T.aA b off len n∈vs
 | .aA b' _ _ _=>b'=b
 | _=>False
def ov (H:af)(b bi:Nat)(es:List (T×T))(ix:List Nat)(t:T)(H':af):Prop :=
 (ix=[]∧t=.bJ [.bool false]∧H'=H.set b (.map es))∨∃i e,i∈ix∧es[i]?=some e∧t=.bJ [.bool true,e.1,e.2]∧H'=H.set b (.cY es (ix.erase i) bi (some i))
inductive W (E:Env):J→af→(Out→af→Prop)→Prop
 | skip {R H Q} (h:Q (.ex .normal R) H):W E (.code .skip R) H Q
 | exit {id R H Q} (h:Q (.ex (.exit id) R) H):W E (.code (.exit id) R) H Q
 | ret {R H Q} (h:Q (.ex .ret R) H):W E (.code .ret R) H Q
 | RZ {l R H Q} (h:W E (.ops l R) H Q):W E (.code (.ops l) R) H Q
 | seq {a b R H Q} (M:Out→af→Prop) (h1:W E (.code a R) H M) (h2:∀R' H',M (.ex .normal R') H'→W E (.code b R') H' Q)
   (h3:∀o H',M o H'→(∀R',o≠.ex .normal R')→Q o H'):W E (.code (.seq a b) R) H Q
 | cond {x a b R H Q} (t:Bool) (hx:x.ev R=.bool t) (h:W E (.code (if t then a else b) R) H Q):W E (.code (.cond x a b) R) H Q
 | block {id a R H Q} (M:Out→af→Prop) (h1:W E (.code a R) H M) (h2:∀R' H',M (.ex (.exit id) R') H'→Q (.ex .normal R') H')
   (h3:∀o H',M o H'→(∀R',o≠.ex (.exit id) R')→Q o H'):W E (.code (.block id a) R) H Q
 | loop {a R H Q} (M:Out→af→Prop) (h1:W E (.code a R) H M) (h2:∀R' H',M (.ex .normal R') H'→W E (.code (.loop a) R') H' Q)
   (h3:∀o H',M o H'→(∀R',o≠.ex .normal R')→Q o H'):W E (.code (.loop a) R) H Q
 | nil {R H Q} (h:Q (.ex .normal R) H):W E (.ops [] R) H Q
 | no {o l R H Q} (hg:bU R o.g=false) (h:W E (.ops l (bE R o.d b7)) H Q):W E (.ops (o :: l) R) H Q
 | op {d b g s l R H Q v H'} (hg:bU R g=true) (he:aq R H b=some (v,H')) (hs:ky R H' s) (h:W E (.ops l (bE R d v)) H' Q):W E (.ops (⟨d,.b b,g,s⟩ :: l) R) H Q
 | call {d f as g s l R H Q} (M:Out→af→Prop) (hg:bU R g=true) (h1:W E (.call f (as.map (X.ev R))) H M)
   (hs:∀v H',M (.val v) H'→ky R H' s) (h2:∀v H',M (.val v) H'→W E (.ops l (bE R d v)) H' Q):W E (.ops (⟨d,.call f as,g,s⟩ :: l) R) H Q
 | bF {d x f cs as g s l R H Q} (M:Out→af→Prop) (hg:bU R g=true) (hf:x.ev R=.fn f cs) (h1:W E (.call f (as.map (X.ev R)++cs)) H M)
   (hs:∀v H',M (.val v) H'→ky R H' s) (h2:∀v H',M (.val v) H'→W E (.ops l (bE R d v)) H' Q):W E (.ops (⟨d,.bF x as,g,s⟩ :: l) R) H Q
 | Cb {d neg c x y s l R H Q} (hs:s=[]) (h:∀b:Bool,W E (.ops l (bE R d (.bool b))) H Q) (hx:x.ev R=.sl .arg []) (hy:y.ev R=.sl .nil []) (hc:c=.slice) :
   W E (.ops (⟨d,.b (.om neg c x y),none,s⟩ :: l) R) H Q
 | od {d x b as g s l R H Q n R0 ps b9 body} (M1 M:Out→af→Prop) (hg:bU R g=true) (hf:x.ev R=.od b) (hb:H[b]?=some (.loop .ready none n R0 ps b9 body)) (hn:as.length=ps.length)
   (h1:W E (.code b9 (jq R0 ps (as.map (X.ev R)))) H M1) (Cc:∀o H',M1 o H'→(∃R1,o=.ex .normal R1)∧H'[b]?=some (.loop .ready none n R0 ps b9 body))
   (h2:∀R1 H1,M1 (.ex .normal R1) H1→W E (.code body R1) (H1.set b (.loop .busy none n R0 ps b9 body)) M) (Cd:∀o H',M o H'→H'[b]?=some (.loop .busy none n R0 ps b9 body))
   (AF:∀R' H',M (.ex .normal R') H'→ky R (H'.set b (.loop .ready none n R0 ps b9 body)) s)
   (h3:∀R' H',M (.ex .normal R') H'→W E (.ops l (bE R d (.bool true))) (H'.set b (.loop .ready none n R0 ps b9 body)) Q)
   (DC:∀e R' H',M (.ex e R') H'→e≠.normal→ky R (H'.set b (.loop .done (some e) n R0 ps b9 body)) s)
   (h4:∀e R' H',M (.ex e R') H'→e≠.normal→W E (.ops l (bE R d (.bool false))) (H'.set b (.loop .done (some e) n R0 ps b9 body)) Q):W E (.ops (⟨d,.bF x as,g,s⟩ :: l) R) H Q
 | cP {n x ps b9 body R H Q f cs} (M:Out→af→Prop) (hx:x.ev R=.fn f cs) (h1:W E (.call f (.od (H.length+1) :: cs)) (H++[.AB,.loop .ready none n R ps b9 body]) M)
   (h2:∀v H',M (.val v) H'→∃st fV,st≠.busy∧fV≠some .normal∧H'[H.length+1]?=some (.loop st fV n R ps b9 body)∧Q (.ex (D4 fV) (pn R n (ou (R n) H.length))) (H'.set (H.length+1) .dead)) :
   W E (.code (.cP n x ps b9 body) R) H Q
 | R9 {f as H Q fn} (M:Out→af→Prop) (hf:E.fn f=some fn) (hn:as.length=fn.np) (h1:W E (.code fn.body (hU as)) H M)
   (h2:∀o H',M o H'→∃R' bs,(o=.ex .normal R'∨o=.ex .ret R')∧marks (R' fn.n)=some bs∧bs.Nodup∧(∀b∈bs,H'[b]?=some .AB)∧∃v,qG R' (kill H' bs) fn.res=some v∧Q (.val v) (kill H' bs)):W E (.call f as) H Q
 | fn {f as H Q fn} (M:Out→af→Prop) (hf:E.fn f=some fn) (hr:fn.body.na=false) (hn:as.length=fn.np) (h1:W E (.code fn.body (hU as)) H M)
   (h2:∀o H',M o H'→∃R',(o=.ex .normal R'∨o=.ex .ret R')∧∃v,qG R' H' fn.res=some v∧Q (.val v) H'):W E (.call f as) H Q
 | Ce {f as H Q b off len n} (i:Nat) (M:Out→af→Prop) (hi:as[i]?=some (.aA b off len n)) (h1:∀c,len≤c→W E (.call f (as.set i (.eH b off len n c))) H M) (h2:∀v H',M (.val v) H'→Q (.val (xd v)) H'):W E (.call f as) H Q
 | qV {f as H Q} (M:Out→af→Prop) (h1:W E (.call f as) H M) (h2:∀o H',M o H'→∃v b cs,o=.val v∧AE b v∧H'[b]?=some (.cells cs)∧Q (.val (D5 b cs v)) (H'.set b .dead)):W E (.call f as) H Q
 | qU {d x g s l R H Q b bi es ix cur} (hg:bU R g=true) (hx:x.ev R=.ptr bi 0) (hb:H[b]?=some (.cY es ix bi cur))
   (hs:∀t H',ov H b bi es ix t H'→ky R H' s) (h:∀t H',ov H b bi es ix t H'→W E (.ops l (bE R d t)) H' Q):W E (.ops (⟨d,.b (.qU x),g,s⟩ :: l) R) H Q
 | shr {f as H Q} (M:Out→af→Prop) (h1:W E (.call f as) H M) (h2:∀o H',M o H'→∃v b cs k,o=.val v∧AE b v∧H'[b]?=some (.cells cs)∧Q (.val v) (H'.set b (.cells (cs.take k)))):W E (.call f as) H Q
 | D6 {f as H Q b off len n cs} (i:Nat) (hi:as[i]?=some (.aA b off len n)) (hb:H[b]?=some (.cells cs)) (h:W E (.call f (as.map (D5 b cs))) (H.set b .dead) Q):W E (.call f as) H Q
 | px {f as H Q} (h:E.px f as H fun v H'=>Q (.val v) H'):W E (.call f as) H Q
inductive Ow where
 | free|nf|mut (b:Nat)|spare (t:Nat)
 deriving DecidableEq
structure Ctx where
 φ:Nat→Option (Nat×Nat×Nat)
 κ:Nat→Nat→Ow
 π:Nat→Nat→Option (Nat×Nat×Nat)
 ck:Nat→C→Code→Prop
def Cf (g:Ctx)(w:World)(r o:Nat)(v:Value):Prop:=g.κ r o=.nf∧w.cell? ⟨r,o,none⟩=some v
def gy (g:Ctx)(k:SK)(r o len cap n:Nat):Prop :=
 match k with
 | .nil=>False
 | .arg=>True
 | .full=>cap=len
 | .own t e=>g.π t e=some (r,o+len*n,o+cap*n)∧0<len
inductive VR (g:Ctx)(w:World):T→Value→Prop
 | int (k n):VR g w (.int k n) (.int k n)
 | bool (b):VR g w (.bool b) (.bool b)
 | str (s):VR g w (.str s) (.string s)
 | bZ:VR g w .bZ (.pointer none)
 | ptr {b off r o q} (h:g.φ b=some (r,o,q)):VR g w (.ptr b off) (.pointer (some ⟨r,o+off,none⟩))
 | cX {cs r o} (cZ:Nat→Value) (h1:∀(j:Nat) (t:T),cs[j]?=some t→t.one=true∧Cf g w r (o+j) (cZ j)) (h2:∀(j:Nat) (t:T),cs[j]?=some t→VR g w t (cZ j)) :
   VR g w (.cX cs) (.pointer (some ⟨r,o,none⟩))
 | gX:VR g w .gX (.map none)
 | map {b r o q} (h:g.φ b=some (r,o,q)):VR g w (.map b) (.map (some r))
 | slnil:VR g w (.sl .nil []) (.slice none 0 0)
 | jr (a:Option Addr):VR g w (.sl .arg []) (.slice a 0 0)
 | sl {k es r o cap n} (cZ:Nat→Nat→Value) (hk:gy g k r o es.length cap n) (hc:es.length≤cap) (hn:∀c∈es,c.length=n)
   (h1:∀(i j:Nat) (c:List T) (t:T),es[i]?=some c→c[j]?=some t→t.one=true∧Cf g w r (o+i*n+j) (cZ i j))
   (h2:∀(i j:Nat) (c:List T) (t:T),es[i]?=some c→c[j]?=some t→VR g w t (cZ i j)) :
   VR g w (.sl k es) (.slice (some ⟨r,o,none⟩) es.length cap)
 | aA {b off len n r o q cap} (h:g.φ b=some (r,o,q)) (hc:len≤cap) (hq:o+off+cap*n=q):VR g w (.aA b off len n) (.slice (some ⟨r,o+off,none⟩) len cap)
 | eH {b off len n r o q c} (h:g.φ b=some (r,o,q)) (hc:len≤c) (hq:o+off+c*n=q):VR g w (.eH b off len n c) (.slice (some ⟨r,o+off,none⟩) len c)
 | nD:VR g w .nD .nilFunc
 | fn {f lP vs} (hl:vs.size=lP.length) (h:∀(i:Nat) (t:T) (v:Value),lP[i]?=some t→vs[i]?=some v→VR g w t v):VR g w (.fn f lP) (.func (.func f) #[] vs)
 | od {b r o q} (h:g.φ b=some (r,o,q)):VR g w (.od b) (.func (.yield r) #[] #[])
 | gY:VR g w .gY .nilIface
 | agg {cs vs} (hl:vs.size=cs.length) (h1:∀t∈cs,t.one=true) (h2:∀(i:Nat) (t:T) (v:Value),cs[i]?=some t→vs[i]?=some v→VR g w t v):VR g w (.agg cs) (.agg vs)
 | bJ {cs vs} (hl:vs.size=cs.length) (h2:∀(i:Nat) (t:T) (v:Value),cs[i]?=some t→vs[i]?=some v→VR g w t v):VR g w (.bJ cs) (.tuple vs)
structure Le (g:Ctx)(w:World)(g':Ctx)(w':World):Prop where
 φ:∀b x,g.φ b=some x→g'.φ b=some x
 κ:∀r o,g.κ r o=.nf→g'.κ r o=.nf
 π:∀t e x,g.π t e=some x→g'.π t e=some x
 cell:∀r o v,g.κ r o=.nf→w.cell? ⟨r,o,none⟩=some v→w'.cell? ⟨r,o,none⟩=some v
 ck:g'.ck=g.ck
theorem Le.refl (g:Ctx)(w:World):Le g w g w:=⟨fun _ _ h=>h,fun _ _ h=>h,fun _ _ _ h=>h,fun _ _ _ _ h=>h,rfl⟩
theorem Le.trans {g g' SX:Ctx}{w w' SY:World}(h:Le g w g' w')(h':Le g' w' SX SY):Le g w SX SY :=
 ⟨fun b x e=>h'.φ b x (h.φ b x e),fun r o e=>h'.κ r o (h.κ r o e),fun t e x k=>h'.π t e x (h.π t e x k),fun r o v k e=>h'.cell r o v (h.κ r o k) (h.cell r o v k e),h'.ck.trans h.ck⟩
theorem Cf.mono {g g':Ctx}{w w':World}(le:Le g w g' w'){r o:Nat}{v:Value}(h:Cf g w r o v):Cf g' w' r o v:=⟨le.κ _ _ h.1,le.cell _ _ _ h.1 h.2⟩
theorem gy.mono {g g':Ctx}{w w':World}(le:Le g w g' w'){k:SK}{r o len cap n:Nat}(h:gy g k r o len cap n):gy g' k r o len cap n:=by
 cases k with
 | nil=>exact h
 | arg=>exact h
 | full=>exact h
 | own t e=>exact⟨le.π _ _ _ h.1,h.2⟩
theorem VR.mono {g g':Ctx}{w w':World}(le:Le g w g' w'){t:T}{v:Value}(h:VR g w t v):VR g' w' t v:=by
 induction h with
 | int k n=>exact .int k n
 | bool b=>exact .bool b
 | str s=>exact .str s
 | bZ=>exact .bZ
 | ptr h=>exact .ptr (le.φ _ _ h)
 | cX cZ h1 _ ih=>exact .cX cZ (fun j t e=>⟨(h1 j t e).1,(h1 j t e).2.mono le⟩) ih
 | gX=>exact .gX
 | map h=>exact .map (le.φ _ _ h)
 | slnil=>exact .slnil
 | jr a=>exact .jr a
 | sl cZ hk hc hn h1 _ ih=>exact .sl cZ (hk.mono le) hc hn (fun i j c t a b=>⟨(h1 i j c t a b).1,(h1 i j c t a b).2.mono le⟩) ih
 | aA h hc hq=>exact .aA (le.φ _ _ h) hc hq
 | eH h hc hq=>exact .eH (le.φ _ _ h) hc hq
 | nD=>exact .nD
 | fn hl _ ih=>exact .fn hl ih
 | od h=>exact .od (le.φ _ _ h)
 | gY=>exact .gY
 | agg hl h1 _ ih=>exact .agg hl h1 ih
 | bJ hl _ ih=>exact .bJ hl ih
theorem VR.erase {g:Ctx}{w:World}{t:T}{v:Value}(h:VR g w t v):VR g w t.erase v:=by
 cases h with
 | sl cZ hk hc hn h1 h2=>exact .sl cZ trivial hc hn h1 h2
 | slnil=>exact .jr none
 | jr a=>exact .jr a
 | int k n=>exact .int k n
 | bool b=>exact .bool b
 | str s=>exact .str s
 | bZ=>exact .bZ
 | ptr h=>exact .ptr h
 | cX cZ h1 h2=>exact .cX cZ h1 h2
 | gX=>exact .gX
 | map h=>exact .map h
 | aA h hc hq=>exact .aA h hc hq
 | eH h hc hq=>exact .eH h hc hq
 | nD=>exact .nD
 | fn hl h=>exact .fn hl h
 | od h=>exact .od h
 | gY=>exact .gY
 | agg hl h1 h2=>exact .agg hl h1 h2
 | bJ hl h2=>exact .bJ hl h2
theorem Cg (t:T):t.erase.one=t.one:=by cases t<;>rfl
theorem VR.js {g:Ctx}{w:World}{t:T}{v:Value}(h:VR g w t v)(ho:t.one=true):v.oneCell'=true:=by
 cases h<;>simp_all [T.one,Value.oneCell']
def qW (g:Ctx)(w:World)(b:Nat)(cs:List T)(r o q:Nat):Prop :=
 o+cs.length≤q∧(∀j,o≤j→j<q→g.κ r j=.mut b∧w.frozen? ⟨r,j,none⟩=false∧(w.cell? ⟨r,j,none⟩).isSome=true) ∧
 ∀(i:Nat) (t:T),cs[i]?=some t→t.one=true∧∃v,w.cell? ⟨r,o+i,none⟩=some v∧VR g w t v
def eI (g:Ctx)(w:World)(es:List (T×T))(ay:Array MapEntry):Prop :=
 ay.size=es.length∧∀(i:Nat) (e:T×T) (m:MapEntry),es[i]?=some e→ay[i]?=some m→VR g w e.1 m.key∧VR g w e.2 m.val
def fK (ay:Array MapEntry)(clock:Nat):Prop:=(∀m∈ay.toList,m.born<clock)∧(ay.toList.map (·.born)).Nodup
def JC (ay:Array MapEntry)(seen:Array Nat)(ix:List Nat)(cur:Option Nat):Prop :=
 ix.Nodup∧(∀i,i∈ix↔∃m,ay[i]?=some m∧m.born∉seen)∧∀c,cur=some c→∃m,ay[c]?=some m∧seen.back?=some m.born
def SZ (g:Ctx)(w:World)(t e:Nat):Prop :=
 ∃r p q,g.π t e=some (r,p,q)∧p≤q∧(∀j,p≤j→j<q→g.κ r j=.spare t∧w.frozen? ⟨r,j,none⟩=false∧(w.cell? ⟨r,j,none⟩).isSome=true)∧∀e',e<e'→g.π t e'=none
def N9.real:N9→LoopState
 | .ready=>.ready
 | .busy=>.busy
 | .done=>.done
def xn:Option Ex→Option Code
 | some .ret=>some .ret
 | some (.exit id)=>some (.exit id)
 | _=>none
def vE (g:Ctx)(w:World)(st:N9)(fV:Option Ex)(n:Nat)(R:Nat→T)(ps:List Nat)(b9 body:C)(rec:Loop):Prop :=
 rec.state=st.real∧rec.pending=xn fV∧rec.params.toList=ps∧rec.tmps.size=n∧(∀t,t<n→VR g w (R t) (rec.tmps.getD t undef))∧(∀p∈ps,p<n)∧g.ck n b9 rec.assign∧g.ck n body rec.body
def AG (g:Ctx)(w:World)(b:Nat):B→Prop
 | .cells cs=>∀r o q,g.φ b=some (r,o,q)→qW g w b cs r o q
 | .map es=>∀r o q,g.φ b=some (r,o,q)→g.κ r 0=.mut b∧∃ay clock,w.heap[r]?=some (.map ay clock)∧eI g w es ay∧fK ay clock
 | .tok e=>SZ g w b e
 | .loop st fV n R ps b9 body=>∀r o q,g.φ b=some (r,o,q)→g.κ r 0=.mut b∧∃rec,w.heap[r]?=some (.loop rec)∧vE g w st fV n R ps b9 body rec
 | .AB=>∀r o q,g.φ b=some (r,o,q)→g.κ r 0=.mut b∧w.heap[r]?=some (.deferred (some []))
 | .dead=>True
 | .cY es ix bi cur=>∃r o q,g.φ b=some (r,o,q)∧g.κ r 0=.mut b∧∃ay clock,w.heap[r]?=some (.map ay clock)∧eI g w es ay∧fK ay clock ∧
   ∃ri q' seen,g.φ bi=some (ri,0,q')∧g.κ ri 0=.mut b∧w.heap[ri]?=some (.mapIter (some r) clock seen clock)∧JC ay seen ix cur
 | .vD _=>True
structure SR (w0:World)(g:Ctx)(H:af)(w:World):Prop where
 size:w0.heap.size≤w.heap.size
 kz:∀r,r<w0.heap.size→w.heap[r]?=w0.heap[r]?
 Ch:∀r o,r<w0.heap.size→g.κ r o=.nf
 fresh:∀r o,w.heap.size≤r→g.κ r o=.free
 tE:∀b x,g.φ b=some x→b<H.length
 jF:∀t e x,g.π t e=some x→t<H.length
 eG:∀b x,H[b]?=some x→AG g w b x
 qV:∀r j,w0.heap.size≤r→w.frozen? ⟨r,j,none⟩=false
 env:w.os=w0.os∧w.output=w0.output
def fL:Obj→Bool
 | .map _ _ | .loop _ | .deferred _ | .mapIter _ _ _ _=>true
 | _=>false
structure Tr (w w':World)(S:Nat→Nat→Prop)(M:Nat→Prop):Prop where
 size:w.heap.size≤w'.heap.size
 cell:∀r j,r<w.heap.size→¬S r j→w'.cell? ⟨r,j,none⟩=w.cell? ⟨r,j,none⟩
 qV:∀r j,r<w.heap.size→w'.frozen? ⟨r,j,none⟩=w.frozen? ⟨r,j,none⟩
 dV:∀r j,r<w.heap.size→(w.cell? ⟨r,j,none⟩).isSome=true→(w'.cell? ⟨r,j,none⟩).isSome=true
 maps:∀r x,¬M r→fL x=true→w.heap[r]?=some x→w'.heap[r]?=some x
 kz:∀r,r<w.heap.size→¬M r→(∀j,¬S r j)→w'.heap[r]?=w.heap[r]?
 zi:∀r j,w.heap.size≤r→w'.frozen? ⟨r,j,none⟩=false
 env:w'.os=w.os∧w'.output=w.output
theorem dC {w:World}{r j:Nat}(h:w.heap.size≤r):w.frozen? ⟨r,j,none⟩=false:=by
 unfold World.frozen?
 rw[Array.getElem?_eq_none h]
theorem kC {w:World}{r j:Nat}{v:Value}(h:w.cell? ⟨r,j,none⟩=some v):r<w.heap.size:=by
 unfold World.cell? at h
 cases hr:w.heap[r]? with
 | none=>simp[hr]at h
 | some x=>exact(Array.getElem?_eq_some_iff.1 hr).1
theorem qW.mono {g g':Ctx}{w w':World}{b:Nat}{cs:List T}{r o q:Nat}(h:qW g w b cs r o q)(le:Le g w g' w')
  (hκ:∀j,o≤j→j<q→g'.κ r j=.mut b) (hf:∀j,o≤j→j<q→w'.frozen? ⟨r,j,none⟩=w.frozen? ⟨r,j,none⟩∧w'.cell? ⟨r,j,none⟩=w.cell? ⟨r,j,none⟩):qW g' w' b cs r o q:=by
 obtain⟨h1,h2,h3⟩:=h
 refine⟨h1,fun j hj hq=>⟨hκ j hj hq,by rw[(hf j hj hq).1];exact(h2 j hj hq).2.1,by rw[(hf j hj hq).2];exact(h2 j hj hq).2.2⟩,fun i t hi=>?_⟩
 have al:i<cs.length:=(List.getElem?_eq_some_iff.1 hi).1
 obtain⟨h4,v,h5,h6⟩:=h3 i t hi
 exact⟨h4,v,by rw[(hf (o+i) (by omega) (by omega)).2];exact h5,h6.mono le⟩
theorem eI.mono {g g':Ctx}{w w':World}{es:List (T×T)}{ay:Array MapEntry}(h:eI g w es ay)(le:Le g w g' w'):eI g' w' es ay :=
 ⟨h.1,fun i e m a b=>⟨(h.2 i e m a b).1.mono le,(h.2 i e m a b).2.mono le⟩⟩
theorem vE.mono {g g':Ctx}{w w':World}{st:N9}{fV:Option Ex}{n:Nat}{R:Nat→T}{ps:List Nat}{b9 body:C}{rec:Loop}(h:vE g w st fV n R ps b9 body rec)(le:Le g w g' w'):vE g' w' st fV n R ps b9 body rec:=by
 obtain⟨h1,h2,h3,h4,h5,h6,h7,h8⟩:=h
 exact⟨h1,h2,h3,h4,fun t ht=>(h5 t ht).mono le,h6,by rw[le.ck];exact h7,by rw[le.ck];exact h8⟩
theorem SR.step {w0 w w':World}{g g':Ctx}{H H':af}(h:SR w0 g H w)(Oa:Nat→Prop){S:Nat→Nat→Prop}{M:Nat→Prop}(tr:Tr w w' S M)(le:Le g w g' w')
  (hS:∀r j,S r j→g.κ r j=.free∨(∃b,g.κ r j=.mut b∧Oa b)∨∃b,g.κ r j=.spare b∧Oa b) (hM:∀r,M r→∃b,g.κ r 0=.mut b∧Oa b)
  (Ob:∀r o,w'.heap.size≤r→g'.κ r o=.free) (YF:∀b x,g'.φ b=some x→b<H'.length) (S0:∀t e x,g'.π t e=some x→t<H'.length)
  (kφ:∀b,b<H.length→¬Oa b→g'.φ b=g.φ b) (kκ:∀r j b,¬Oa b→(g.κ r j=.mut b→g'.κ r j=.mut b)∧(g.κ r j=.spare b→g'.κ r j=.spare b))
  (kπ:∀t e,t<H.length→¬Oa t→g'.π t e=g.π t e)
  (hb:∀b x,H'[b]?=some x→(¬Oa b∧H[b]?=some x)∨AG g' w' b x):SR w0 g' H' w':=by
 have nS:∀r j,r<w0.heap.size→¬S r j:=by
  intro r j hr hs
  have:=h.Ch r j hr
  rcases hS r j hs with e|⟨b,e,_⟩|⟨b,e,_⟩<;>simp[this]at e
 have nM:∀r,r<w0.heap.size→¬M r:=by
  intro r hr hm
  have:=h.Ch r 0 hr
  obtain⟨b,e,_⟩:=hM r hm
  simp[this]at e
 refine⟨Nat.le_trans h.size tr.size,fun r hr=>?_,fun r o hr=>le.κ _ _ (h.Ch r o hr),Ob,YF,S0,fun b x hx=>?_,fun r j hr=>(by
  by_cases hw:r<w.heap.size
  ·rw[tr.qV r j hw];exact h.qV r j hr
  ·exact tr.zi r j (by omega)),tr.env.1.trans h.env.1,tr.env.2.trans h.env.2⟩
 ·rw[tr.kz r (Nat.lt_of_lt_of_le hr h.size) (nM r hr) (fun j=>nS r j hr)]
  exact h.kz r hr
 ·rcases hb b x hx with⟨nt,kr⟩|py
  ·have al:b<H.length:=(List.getElem?_eq_some_iff.1 kr).1
   have hk:=h.eG b x kr
   have nSm:∀r j,g.κ r j=.mut b∨g.κ r j=.spare b→¬S r j:=by
    intro r j hm hs
    rcases hS r j hs with e|⟨b',e,ht⟩|⟨b',e,ht⟩<;>rcases hm with hm|hm<;>simp[hm]at e
    ·exact nt (e▸ht)
    ·exact nt (e▸ht)
   cases x with
   | cells cs =>
    intro r o q hφ
    have lK:g.φ b=some (r,o,q):=by rw[←kφ b al nt];exact hφ
    have hc:=hk r o q lK
    refine hc.mono le (fun j a c=>(kκ r j b nt).1 (hc.2.1 j a c).1) fun j a c=>?_
    have hh:=hc.2.1 j a c
    have hr:r<w.heap.size:=by
     cases hv:w.cell? ⟨r,j,none⟩with
     | none=>simp[hv]at hh
     | some v=>exact kC hv
    exact⟨tr.qV r j hr,tr.cell r j hr (nSm r j (.inl hh.1))⟩
   | map es =>
    intro r o q hφ
    have lK:g.φ b=some (r,o,q):=by rw[←kφ b al nt];exact hφ
    obtain⟨h1,ay,c,h2,h3⟩:=hk r o q lK
    refine⟨(kκ r 0 b nt).1 h1,ay,c,tr.maps r _ (fun hm=>?_) rfl h2,h3.1.mono le,h3.2⟩
    obtain⟨b',e,ht⟩:=hM r hm
    rw[h1]at e;cases e;exact nt ht
   | cY es ix bi cur =>
    obtain⟨r,o,q,hφ,h1,ay,c,h2,h3,h4,ri,q',seen,h5,h6,h7,h8⟩:=hk
    refine⟨r,o,q,le.φ _ _ hφ,(kκ r 0 b nt).1 h1,ay,c,tr.maps r _ (fun hm=>?_) rfl h2,h3.mono le,h4,ri,q',seen,le.φ _ _ h5,(kκ ri 0 b nt).1 h6,tr.maps ri _ (fun hm=>?_) rfl h7,h8⟩
    ·obtain⟨b',e,ht⟩:=hM r hm
     rw[h1]at e;cases e;exact nt ht
    ·obtain⟨b',e,ht⟩:=hM ri hm
     rw[h6]at e;cases e;exact nt ht
   | vD _=>trivial
   | tok e =>
    obtain⟨r,p,q,h1,h2,h3,h4⟩:=hk
    refine⟨r,p,q,le.π _ _ _ h1,h2,fun j a c=>?_,fun e' he=>by rw[kπ b e' al nt];exact h4 e' he⟩
    have hh:=h3 j a c
    have hr:r<w.heap.size:=by
     cases hv:w.cell? ⟨r,j,none⟩with
     | none=>simp[hv]at hh
     | some v=>exact kC hv
    exact⟨(kκ r j b nt).2 hh.1,by rw[tr.qV r j hr];exact hh.2.1,by rw[tr.cell r j hr (nSm r j (.inr hh.1))];exact hh.2.2⟩
   | loop st fV n R ps b9 body =>
    intro r o q hφ
    have lK:g.φ b=some (r,o,q):=by rw[←kφ b al nt];exact hφ
    obtain⟨h1,rec,h2,h3⟩:=hk r o q lK
    refine⟨(kκ r 0 b nt).1 h1,rec,tr.maps r _ (fun hm=>?_) rfl h2,h3.mono le⟩
    obtain⟨b',e,ht⟩:=hM r hm
    rw[h1]at e;cases e;exact nt ht
   | AB =>
    intro r o q hφ
    have lK:g.φ b=some (r,o,q):=by rw[←kφ b al nt];exact hφ
    obtain⟨h1,h2⟩:=hk r o q lK
    refine⟨(kκ r 0 b nt).1 h1,tr.maps r _ (fun hm=>?_) rfl h2⟩
    obtain⟨b',e,ht⟩:=hM r hm
    rw[h1]at e;cases e;exact nt ht
   | dead=>trivial
  ·exact py
def Fr (g:Ctx)(H:af)(g':Ctx)(H':af):Prop :=
 H.length≤H'.length∧∀b x,H[b]?=some x→(∀e,x≠.tok e)→g.φ b=none→H'[b]?=some x∧g'.φ b=none
theorem Fr.refl (g:Ctx)(H:af):Fr g H g H:=⟨Nat.le_refl _,fun _ _ h _ k=>⟨h,k⟩⟩
theorem Fr.trans {g g' SX:Ctx}{H H' xo:af}(h:Fr g H g' H')(h':Fr g' H' SX xo):Fr g H SX xo :=
 ⟨Nat.le_trans h.1 h'.1,fun b x a c d=>let ⟨e,f⟩:=h.2 b x a c d;h'.2 b x e c f⟩
def cf (P:Program)(w0:World)(g:Ctx)(H:af)(w:World)(s:Sem Value)(t:T)(H':af):Prop :=
 ∃v w' g',s.run P w=.ok v w'∧Le g w g' w'∧SR w0 g' H' w'∧VR g' w' t v∧Fr g H g' H'
theorem cf.same {P:Program}{w0:World}{g:Ctx}{H:af}{w:World}{s:Sem Value}{t:T}{v:Value}(h:SR w0 g H w)(hr:s.run P w=.ok v w)(hv:VR g w t v):cf P w0 g H w s t H :=
 ⟨v,w,g,hr,.refl _ _,h,hv,.refl _ _⟩
def bL (g:Ctx)(w:World)(ts:List T)(vs:List Value):Prop:=ts.length=vs.length∧∀(i:Nat) (t:T) (v:Value),ts[i]?=some t→vs[i]?=some v→VR g w t v
theorem bL.mono {g g':Ctx}{w w':World}(le:Le g w g' w'){ts:List T}{vs:List Value}(h:bL g w ts vs):bL g' w' ts vs:=⟨h.1,fun i t v a b=>(h.2 i t v a b).mono le⟩
theorem bL.nil {g:Ctx}{w:World}:bL g w [] []:=⟨rfl,fun i t v h=>by simp at h⟩
theorem bL.cons {g:Ctx}{w:World}{t:T}{v:Value}{ts:List T}{vs:List Value}(h:VR g w t v)(hs:bL g w ts vs):bL g w (t :: ts) (v :: vs) :=
 ⟨by simp[hs.1],fun i a b ha hb=>by
  cases i with
  | zero=>simp at ha hb;subst ha;subst hb;exact h
  | succ i=>exact hs.2 i a b (by simpa using ha) (by simpa using hb)⟩
theorem bL.head {g:Ctx}{w:World}{t:T}{v:Value}{ts:List T}{vs:List Value}(h:bL g w (t :: ts) (v :: vs)):VR g w t v:=h.2 0 t v rfl rfl
theorem bL.tail {g:Ctx}{w:World}{t:T}{v:Value}{ts:List T}{vs:List Value}(h:bL g w (t :: ts) (v :: vs)):bL g w ts vs :=
 ⟨by have:=h.1;simpa using this,fun i a b ha hb=>h.2 (i+1) a b (by simpa using ha) (by simpa using hb)⟩
theorem bL.append {g:Ctx}{w:World}{ts Oc:List T}{vs Sa:List Value}(h:bL g w ts vs)(h':bL g w Oc Sa):bL g w (ts++Oc) (vs++Sa):=by
 refine⟨by simp[h.1,h'.1],fun i t v ha hb=>?_⟩
 rw[List.getElem?_append]at ha hb
 rw[←h.1]at hb
 split at ha
 ·rename_i hi;rw[if_pos hi]at hb;exact h.2 i t v ha hb
 ·rename_i hi;rw[if_neg hi]at hb;exact h'.2 _ t v ha hb
theorem bL.take {g:Ctx}{w:World}{ts:List T}{vs:List Value}(n:Nat)(h:bL g w ts vs):bL g w (ts.take n) (vs.take n) :=
 ⟨by simp[h.1],fun i t v ha hb=>by
  rw[List.getElem?_take]at ha hb
  split at ha
  ·rename_i hi;rw[if_pos hi]at hb;exact h.2 i t v ha hb
  ·simp at ha⟩
theorem bL.drop {g:Ctx}{w:World}{ts:List T}{vs:List Value}(n:Nat)(h:bL g w ts vs):bL g w (ts.drop n) (vs.drop n) :=
 ⟨by simp[h.1],fun i t v ha hb=>by
  rw[List.getElem?_drop]at ha hb
  exact h.2 _ t v ha hb⟩
def cD (cs:List T):Prop:=∀t∈cs,t.one=true
theorem bL.js {g:Ctx}{w:World}{ts:List T}{vs:List Value}(h:bL g w ts vs)(ho:cD ts):∀v∈vs,v.oneCell'=true:=by
 intro v hv
 obtain⟨i,hi,rfl⟩:=List.getElem_of_mem hv
 have kD:i<ts.length:=by rw[h.1];exact hi
 exact(h.2 i ts[i] vs[i] (List.getElem?_eq_getElem kD) (List.getElem?_eq_getElem hi)).js (ho _ (List.getElem_mem kD))
theorem du (r o j:Nat):(⟨r,o,none⟩:Addr).add j=⟨r,o+j,none⟩:=by
 unfold Addr.add;split<;>simp_all
theorem rE {w:World}{r o:Nat}:∀(n:Nat) (f:Nat→Value),(∀j,j<n→w.cell? ⟨r,o+j,none⟩=some (f j))→∀(j:Nat) (v:Value),((List.range n).map f)[j]?=some v→w.cell? ⟨r,o+j,none⟩=some v:=by
 intro n f h j v hv
 have hj:j<n:=by
  have:=(List.getElem?_eq_some_iff.1 hv).1
  simpa using this
 rw[h j hj]
 simp[hj]at hv
 rw[hv]
theorem pz {w0 w:World}{g:Ctx}{H:af}{n:Nat}{p:T}{vp:Value}{cs:List T}(h:SR w0 g H w)(hv:VR g w p vp)(he:po H n p=some cs) :
  ∃r o vs,vp=.pointer (some ⟨r,o,none⟩)∧vs.length=n∧(∀(j:Nat) (v:Value),vs[j]?=some v→w.cell? ⟨r,o+j,none⟩=some v)∧bL g w cs vs∧cD cs:=by
 cases hv with
 | @ptr b off r o q hφ =>
  simp only[po]at he
  cases hb:H[b]? with
  | none=>simp[hb]at he
  | some x =>
   cases x with
   | cells MJ =>
    simp only[hb]at he
    split at he
    ·rename_i hle
     simp at he
     subst he
     obtain⟨h1,h2,h3⟩:=h.eG b _ hb r o q hφ
     have key:∀j,j<n→∃t v,MJ[off+j]?=some t∧t.one=true∧w.cell? ⟨r,o+off+j,none⟩=some v∧VR g w t v:=by
      intro j hj
      have al:off+j<MJ.length:=by omega
      obtain⟨a,v,b',c⟩:=h3 (off+j) MJ[off+j] (List.getElem?_eq_getElem al)
      exact⟨_,v,List.getElem?_eq_getElem al,a,by rw[Nat.add_assoc];exact b',c⟩
     refine⟨r,o+off,(List.range n).map (fun j=>(w.cell? ⟨r,o+off+j,none⟩).getD undef),rfl,by simp,rE n _ (fun j hj=>?_),⟨by simp;omega,fun i t v ha iB=>?_⟩,fun t ht=>?_⟩
     ·obtain⟨t,v,_,_,e,_⟩:=key j hj
      simp[e]
     ·have hi:i<n:=by
       have:=(List.getElem?_eq_some_iff.1 iB).1
       simpa using this
      obtain⟨t',v',e1,e2,e3,e4⟩:=key i hi
      simp[hi]at iB
      rw[e3]at iB;simp at iB
      rw[List.getElem?_take,if_pos hi,List.getElem?_drop,e1]at ha
      simp at ha
      subst ha;subst iB;exact e4
     ·obtain⟨i,hi,rfl⟩:=List.getElem_of_mem ht
      simp at hi
      obtain⟨t',v',e1,e2,_,_⟩:=key i (by omega)
      have Od:=(List.getElem?_eq_some_iff.1 e1).2
      simp[Od,e2]
    ·simp at he
   | map _=>simp[hb]at he
   | tok _=>simp[hb]at he
   | _=>simp[hb]at he
 | @cX MJ r o cZ h1 h2 =>
  simp only[po]at he
  split at he
  ·rename_i hle
   simp at he
   subst he
   have get:∀i,i<n→∃t,MJ[i]?=some t:=fun i hi=>⟨MJ[i]'(by omega),List.getElem?_eq_getElem _⟩
   refine⟨r,o,(List.range n).map cZ,rfl,by simp,rE n _ (fun j hj=>?_),⟨by simp;omega,fun i t v ha hb=>?_⟩,fun t ht=>?_⟩
   ·obtain⟨t,e⟩:=get j hj
    exact(h1 j t e).2.2
   ·have hi:i<n:=by
     have:=(List.getElem?_eq_some_iff.1 hb).1
     simpa using this
    simp[hi]at hb
    rw[List.getElem?_take,if_pos hi]at ha
    rw[←hb];exact h2 i t ha
   ·obtain⟨i,hi,rfl⟩:=List.getElem_of_mem ht
    simp at hi
    have:MJ[i]?=some MJ[i]:=List.getElem?_eq_getElem _
    simp
    exact(h1 i _ this).1
  ·simp at he
 | _=>simp[po]at he
theorem bL.agg {g:Ctx}{w:World}{cs:List T}{vs:List Value}(h:bL g w cs vs)(ho:cD cs):VR g w (.agg cs) (.agg vs.toArray) :=
 .agg (by simp[h.1]) ho (fun i t v ha hb=>h.2 i t v ha (by simpa using hb))
theorem bL.bJ {g:Ctx}{w:World}{cs:List T}{vs:List Value}(h:bL g w cs vs):VR g w (.bJ cs) (.tuple vs.toArray) :=
 .bJ (by simp[h.1]) (fun i t v ha hb=>h.2 i t v ha (by simpa using hb))
theorem VR.gz {g:Ctx}{w:World}{cs:List T}{v:Value}(h:VR g w (.agg cs) v):∃vs:List Value,v=.agg vs.toArray∧bL g w cs vs∧cD cs:=by
 cases h with
 | @agg _ vs hl h1 h2=>exact⟨vs.toList,by simp,⟨by simp[hl],fun i t v ha hb=>h2 i t v ha (by simpa using hb)⟩,h1⟩
theorem VR.JD {g:Ctx}{w:World}{cs:List T}{v:Value}(h:VR g w (.bJ cs) v):∃vs:List Value,v=.tuple vs.toArray∧bL g w cs vs:=by
 cases h with
 | @bJ _ vs hl h2=>exact⟨vs.toList,by simp,⟨by simp[hl],fun i t v ha hb=>h2 i t v ha (by simpa using hb)⟩⟩
theorem jT {g:Ctx}{w:World}{t:T}{v:Value}{cs:List T}(h:VR g w t v)(hc:t.cells?=some cs):bL g w cs v.cells.toList∧cD cs:=by
 by_cases ha:∃c,t=.agg c
 ·obtain⟨c,rfl⟩:=ha
  simp[T.cells?]at hc;subst hc
  obtain⟨vs,rfl,h1,h2⟩:=h.gz
  exact⟨by simpa[Value.cells]using h1,h2⟩
 ·by_cases ht:∃c,t=.bJ c
  ·obtain⟨c,rfl⟩:=ht;simp[T.cells?]at hc
  ·have e:cs=[t]:=by cases t<;>simp_all [T.cells?]
   have o:t.one=true:=by cases t<;>simp_all [T.one]
   have ev:v.cells=#[v]:=by
    have:=h.js o
    cases v<;>simp_all [Value.cells,Value.oneCell']
   subst e
   rw[ev]
   exact⟨bL.cons h bL.nil,by simpa[cD]using o⟩
theorem rF {g:Ctx}{w:World}{cs:List T}{vs:List Value}{ag:Bool}{t:T}(h:bL g w cs vs)(ho:cD cs)(hv:valOf ag cs=some t) :
  (ag=true→VR g w t (.agg vs.toArray))∧(ag=false→∃v,vs=[v]∧VR g w t v):=by
 cases ag with
 | true=>simp[valOf]at hv;subst hv;exact⟨fun _=>h.agg ho,by simp⟩
 | false =>
  refine⟨by simp,fun _=>?_⟩
  cases cs with
  | nil=>simp[valOf]at hv
  | cons c cs =>
   cases cs with
   | nil =>
    simp[valOf]at hv;subst hv
    cases vs with
    | nil=>have:=h.1;simp at this
    | cons v vs =>
     cases vs with
     | nil=>exact⟨v,rfl,h.head⟩
     | cons _ _=>have:=h.1;simp at this
   | cons _ _=>simp[valOf]at hv
theorem bA {P:Program}{w:World}{t:TypeId}{i:TypeInfo}(h:P.info? t=some i):(typeInfo t).run P w=.ok i w:=by
 simp[typeInfo,h]
def eJ:TypeDesc→Bool
 | .struct _ | .array _ _=>true
 | _=>false
theorem fx {P:Program}{t:TypeId}{d:TypeDesc}(h:P.underlying t=some d)(w:World):(isAgg t).run P w=.ok (eJ d) w:=by
 simp only[isAgg,Sem.run_bind,run_underlying h,Result.andThen_ok]
 cases d<;>rfl
theorem Oe {P:Program}{w0 w:World}{g:Ctx}{H:af}{n:Nat}{ag:Bool}{p t:T}{vp:Value}{cs:List T}{ty:TypeId}{d:TypeDesc}{i:TypeInfo}
  (hd:P.underlying ty=some d) (hi:P.info? ty=some i) (vF:eJ d=ag) (hn:ag=true→i.size=n)
  (h:SR w0 g H w) (hv:VR g w p vp) (he:po H n p=some cs) (ht:valOf ag cs=some t):cf P w0 g H w (Instr.loadAt ty vp) t H:=by
 obtain⟨r,o,vs,rfl,h1,h2,h3,h4⟩:=pz h hv he
 obtain⟨ha,hb⟩:=rF h3 h4 ht
 cases ag with
 | true =>
  refine cf.same h (v:=.agg vs.toArray) ?_ (ha rfl)
  have:=run_loadCells_list (P:=P) w ⟨r,o,none⟩ vs (fun j v hj=>by rw[du];exact h2 j v hj)
  simp[Instr.loadAt,Instr.sureAddr,loadVar,fx hd,vF,sizeOf,bA hi,hn rfl,←h1,this]
 | false =>
  obtain⟨v,rfl,gl⟩:=hb rfl
  refine cf.same h (v:=v) ?_ gl
  have:=h2 0 v rfl
  simp at this
  simp[Instr.loadAt,Instr.sureAddr,loadVar,fx hd,vF,run_load,this]
theorem JE {P:Program}{w0 w:World}{g:Ctx}{H:af}{n:Nat}{ag:Bool}{p t:T}{vp:Value}{cs:List T}{ty:TypeId}{d:TypeDesc}{i:TypeInfo}
  (hd:P.underlying ty=some d) (hi:P.info? ty=some i) (vF:eJ d=ag) (hn:ag=true→i.size=n)
  (h:SR w0 g H w) (hv:VR g w p vp) (he:po H n p=some cs) (ht:valOf ag cs=some t):∃v w' g',(Instr.loadAt ty vp).run P w=.ok v w'∧w'=w∧VR g' w t v∧g'=g:=by
 obtain⟨r,o,vs,rfl,h1,h2,h3,h4⟩:=pz h hv he
 obtain⟨ha,hb⟩:=rF h3 h4 ht
 cases ag with
 | true =>
  refine⟨.agg vs.toArray,w,g,?_,rfl,ha rfl,rfl⟩
  have:=run_loadCells_list (P:=P) w ⟨r,o,none⟩ vs (fun j v hj=>by rw[du];exact h2 j v hj)
  simp[Instr.loadAt,Instr.sureAddr,loadVar,fx hd,vF,sizeOf,bA hi,hn rfl,←h1,this]
 | false =>
  obtain⟨v,rfl,gl⟩:=hb rfl
  refine⟨v,w,g,?_,rfl,gl,rfl⟩
  have:=h2 0 v rfl
  simp at this
  simp[Instr.loadAt,Instr.sureAddr,loadVar,fx hd,vF,run_load,this]
section
variable {P:Program} {w:World} {op:BinOp} {ty:TypeId} {x y:Operand}
theorem uf {k k':IntKind}{a b:Int}:(eqGuard op ty x y (.int k a) (.int k' b)).run P w=.ok () w:=by cases op<;>rfl
theorem ug {a b:ByteArray}:(eqGuard op ty x y (.string a) (.string b)).run P w=.ok () w:=by cases op<;>rfl
theorem kE {a b:Bool}:(eqGuard op ty x y (.bool a) (.bool b)).run P w=.ok () w:=by cases op<;>rfl
theorem Ci {a b:Option Addr}:(eqGuard op ty x y (.pointer a) (.pointer b)).run P w=.ok () w:=by cases op<;>rfl
theorem xp {a b:Option Addr}{c d e f:Nat}:(eqGuard op ty x y (.slice a c d) (.slice b e f)).run P w=.ok () w:=by cases op<;>rfl
theorem Cj {a b:Option Nat}:(eqGuard op ty x y (.map a) (.map b)).run P w=.ok () w:=by cases op<;>rfl
theorem D7 {f:Go.Fn}{a b:Array Value}:(eqGuard op ty x y (.func f a b) .nilFunc).run P w=.ok () w:=by cases op<;>rfl
theorem D8 {f:Go.Fn}{a b:Array Value}:(eqGuard op ty x y .nilFunc (.func f a b)).run P w=.ok () w:=by cases op<;>rfl
theorem D9:(eqGuard op ty x y .nilFunc .nilFunc).run P w=.ok () w:=by cases op<;>rfl
end
section
variable {P:Program} {w:World} {ty:TypeId}
theorem uh (n:Nat)(h:P.underlying ty=some .bool)(a b:Bool):(Op.equalIn (n+1) ty (.bool a) (.bool b)).run P w=.ok (a==b) w:=by
 rw[Op.equalIn];simp only[Sem.run_bind,run_underlying h,Result.andThen_ok];rfl
theorem Ea (n:Nat){k:IntKind}(h:P.underlying ty=some (.int k))(a b:Int)(k':IntKind):(Op.equalIn (n+1) ty (.int k' a) (.int k' b)).run P w=.ok (a==b) w:=by
 rw[Op.equalIn];simp only[Sem.run_bind,run_underlying h,Result.andThen_ok];simp
theorem Eb (n:Nat)(h:P.underlying ty=some .string)(a b:ByteArray):(Op.equalIn (n+1) ty (.string a) (.string b)).run P w=.ok (a==b) w:=by
 rw[Op.equalIn];simp only[Sem.run_bind,run_underlying h,Result.andThen_ok];rfl
theorem gH {x y:Value}{b:Bool}(h:∀n,(Op.equalIn (n+1) ty x y).run P w=.ok b w):(Op.equal ty x y).run P w=.ok b w:=h 9999
theorem rG (h:P.underlying ty=some .bool)(a b:Bool):(Op.equal ty (.bool a) (.bool b)).run P w=.ok (a==b) w:=gH fun n=>uh n h a b
end
theorem JF {P:Program}{w0 w:World}{g:Ctx}{H:af}{op:BinOp}{x y t:T}{vx vy:Value}{ty:TypeId}{ox oy:Operand}
  (h:SR w0 g H w) (hx:VR g w x vx) (hy:VR g w y vy) (he:cL op x y=some t):cf P w0 g H w (do eqGuard op ty ox oy vx vy;binOp op ty vx vy) t H:=by
 cases hx<;>cases hy<;>(try (simp[cL]at he;done))
 case int.int k a k' b =>
  have key:∃v,(binOp op ty (.int k a) (.int k' b)).run P w=.ok v w∧VR g w t v:=by
   cases op<;>simp only[cL]at he<;>(repeat' (split at he))<;>(try (simp at he;done)) <;>
    (simp at he;subst he;first
     | (refine⟨_,?_,.int _ _⟩;simp_all [binOp,Op.shift,Op.intArith,Op.intDiv,Op.intBits,Op.intCmp];done)
     | (refine⟨_,?_,.int _ _⟩;rename_i hs;simp only[binOp,Op.shift,if_neg hs,Sem.run_pure];done)
     | (refine⟨_,?_,.bool _⟩;simp_all [binOp,Op.shift,Op.intArith,Op.intDiv,Op.intBits,Op.intCmp];done))
  obtain⟨v,hr,hv⟩:=key
  refine cf.same h (v:=v) ?_ hv
  simp[uf,ug,kE,hr]
 case str.str a b =>
  have key:∃v,(binOp op ty (.string a) (.string b)).run P w=.ok v w∧VR g w t v:=by
   cases op<;>simp only[cL]at he<;>(repeat' (split at he))<;>(try (simp at he;done)) <;>
    (simp at he;subst he;first
     | (refine⟨_,?_,.str _⟩;rename_i hs;simp[binOp,Op.stringOp,IntKind.max,IntKind.signed,IntKind.bits];omega)
     | (refine⟨_,?_,.bool _⟩;simp[binOp,Op.stringOp,jQ,strLt];done))
  obtain⟨v,hr,hv⟩:=key
  refine cf.same h (v:=v) ?_ hv
  simp[uf,ug,kE,hr]
theorem JG {P:Program}{w0 w:World}{g:Ctx}{H:af}{neg:Bool}{a b:Bool}{vx vy:Value}{ty:TypeId}{ox oy:Operand}(hu:P.underlying ty=some .bool)
  (h:SR w0 g H w) (hx:VR g w (.bool a) vx) (hy:VR g w (.bool b) vy) :
  cf P w0 g H w (do eqGuard (if neg then .neq else .eql) ty ox oy vx vy;binOp (if neg then .neq else .eql) ty vx vy) (.bool (if neg then !(a==b)else a==b)) H:=by
 cases hx;cases hy
 cases neg
 ·refine cf.same h (v:=.bool (a==b)) ?_ (.bool _)
  simp only[Bool.false_eq_true,if_false,Sem.run_bind,kE,Result.andThen_ok,binOp,rG hu,Sem.run_pure]
 ·refine cf.same h (v:=.bool (!(a==b))) ?_ (.bool _)
  simp only[if_true,Sem.run_bind,kE,Result.andThen_ok,binOp,rG hu,Sem.run_pure]
def Ec:JA→TypeDesc→Bool
 | .ptr,.pointer _ | .slice,.slice _ | .map,.map _ _ | .func,.func _ _ _=>true
 | _,_=>false
theorem xq {g:Ctx}{w:World}{c:JA}{x:T}{vx:Value}{b:Bool}(hx:VR g w x vx)(h:lq c x=some b) :
  match c with
  | .ptr=>∃a:Option Addr,vx=.pointer a∧a.isNone=b
  | .slice=>∃(a:Option Addr) (l p:Nat),vx=.slice a l p∧a.isNone=b
  | .map=>∃r:Option Nat,vx=.map r∧r.isNone=b
  | .func=>(b=true∧vx=.nilFunc)∨(b=false∧∃f vs,vx=.func f #[] vs):=by
 cases c<;>cases hx<;>first
  | (change (none:Option Bool)=some b at h;simp at h;done)
  | (change some true=some b at h;simp at h;subst h;simp;done)
  | (change some false=some b at h;simp at h;subst h;simp;done)
  | skip
 case slice.sl k es r o cap n cZ hk hc hn h1 h2 =>
  have hb:b=false:=by
   cases k
   ·exact hk.elim
   ·cases es with
    | nil=>change (none:Option Bool)=some b at h;simp at h
    | cons _ _=>change some false=some b at h;simpa using h.symm
   ·change some false=some b at h;simpa using h.symm
   ·change some false=some b at h;simpa using h.symm
  subst hb
  exact⟨_,_,_,rfl,rfl⟩
theorem JH {P:Program}{w0 w:World}{g:Ctx}{H:af}{neg:Bool}{c:JA}{x y:T}{b:Bool}{vx vy:Value}{ty:TypeId}{ox oy:Operand}{d:TypeDesc}
  (hu:P.underlying ty=some d) (hc:Ec c d=true)
  (h:SR w0 g H w) (hx:VR g w x vx) (hy:VR g w y vy) (he:dK c x y=some b) :
  cf P w0 g H w (do eqGuard (if neg then .neq else .eql) ty ox oy vx vy;binOp (if neg then .neq else .eql) ty vx vy) (.bool (if neg then !b else b)) H:=by
 have key:(∀op,(eqGuard op ty ox oy vx vy).run P w=.ok () w)∧(Op.equal ty vx vy).run P w=.ok b w∧∀neg:Bool,(binOp (if neg then .neq else .eql) ty vx vy).run P w=((Op.equal ty vx vy).run P w).andThen fun b w'=>.ok (.bool (if neg then !b else b)) w':=by
  unfold dK at he
  cases Ed:lq c x with
  | none=>simp[Ed]at he
  | some bx =>
   cases hny:lq c y with
   | none=>cases bx<;>simp[Ed,hny]at he
   | some bY =>
    have e:b=(bx&&bY)∧(bx=true∨bY=true):=by
     cases bx<;>cases bY<;>simp_all
    obtain⟨rfl,hor⟩:=e
    have h1:=xq hx Ed
    have h2:=xq hy hny
    cases c with
    | ptr =>
     obtain⟨a,rfl,rfl⟩:=h1
     obtain⟨a',rfl,rfl⟩:=h2
     cases d<;>simp[Ec]at hc
     refine⟨fun op=>Ci,gH fun n=>?_,fun neg=>by cases neg<;>simp[binOp]⟩
     rw[Op.equalIn];simp only[Sem.run_bind,run_underlying hu,Result.andThen_ok]
     cases a<;>cases a'<;>simp_all
    | slice =>
     obtain⟨a,l,p,rfl,rfl⟩:=h1
     obtain⟨a',l',p',rfl,rfl⟩:=h2
     cases d<;>simp[Ec]at hc
     refine⟨fun op=>xp,gH fun n=>?_,fun neg=>by cases neg<;>simp[binOp]⟩
     rw[Op.equalIn];simp only[Sem.run_bind,run_underlying hu,Result.andThen_ok]
     cases a<;>cases a'<;>simp_all
    | map =>
     obtain⟨a,rfl,rfl⟩:=h1
     obtain⟨a',rfl,rfl⟩:=h2
     cases d<;>simp[Ec]at hc
     refine⟨fun op=>Cj,gH fun n=>?_,fun neg=>by cases neg<;>simp[binOp]⟩
     rw[Op.equalIn];simp only[Sem.run_bind,run_underlying hu,Result.andThen_ok]
     cases a<;>cases a'<;>simp_all
    | func =>
     cases d<;>simp[Ec]at hc
     rcases h1 with⟨rfl,rfl⟩|⟨rfl,f,vs,rfl⟩<;>rcases h2 with⟨rfl,rfl⟩|⟨rfl,f',Sa,rfl⟩
     ·refine⟨fun op=>D9,gH fun n=>?_,fun neg=>by cases neg<;>simp[binOp]⟩
      rw[Op.equalIn];simp[run_underlying hu]
     ·refine⟨fun op=>D8,gH fun n=>?_,fun neg=>by cases neg<;>simp[binOp]⟩
      rw[Op.equalIn];simp[run_underlying hu]
     ·refine⟨fun op=>D7,gH fun n=>?_,fun neg=>by cases neg<;>simp[binOp]⟩
      rw[Op.equalIn];simp[run_underlying hu]
     ·simp at hor
 obtain⟨k1,k2,k3⟩:=key
 refine cf.same h (v:=.bool (if neg then !b else b)) ?_ (.bool _)
 simp only[Sem.run_bind,k1,Result.andThen_ok,k3,k2]
section
variable {P:Program} {w0 w:World} {g:Ctx} {H:af}
def Je:xc→TypeDesc→Bool
 | .int,.int _ | .str,.string | .bool,.bool=>true
 | _,_=>false
def flat (P:Program):List Field→Nat→List xc→Bool
 | [],_,[]=>true
 | f :: fs,off,k :: ks=>f.offset==off&&f.name != "_"&&(match P.underlying f.type with | some d=>Je k d | none=>false)&&flat P fs (off+1) ks
 | _,_,_=>false
theorem AH {n:Nat}{ty:TypeId}{d:TypeDesc}{k:xc}(hu:P.underlying ty=some d)(hk:Je k d=true){a b:T}{va vb:Value}{r:Bool}(ha:VR g w a va)(hb:VR g w b vb)(h1:a.zf k=true)(he:jD a b=some r) :
  (Op.equalIn (n+1) ty va vb).run P w=.ok r w:=by
 cases k<;>cases d<;>simp[Je]at hk<;>cases ha<;>simp[T.zf]at h1<;>cases hb<;>simp[jD]at he
 ·obtain⟨rfl,rfl⟩:=he
  rw[Ea n hu]
 ·subst he
  rw[Eb n hu,beq_toListBytes];rfl
 ·subst he
  rw[uh n hu]
theorem pA {ty:TypeId}{d:TypeDesc}{k:xc}(hu:P.underlying ty=some d)(hk:Je k d=true){xs:Array Value}{off:Nat}{v:Value}(h:xs[off]?=some v):(part ty xs off).run P w=.ok v w:=by
 have:eJ d=false:=by cases k<;>cases d<;>simp_all [Je,eJ]
 simp[part,fx hu,this,h]
theorem qu {n:Nat}:∀(fs:List Field) (off:Nat) (ks:List xc) (cs ds:List T) (xs ys:Array Value) (r:Bool),flat P fs off ks=true→gk ks cs=true →
  (∀(i:Nat) (t:T),cs[i]?=some t→∃v,xs[off+i]?=some v∧VR g w t v)→(∀(i:Nat) (t:T),ds[i]?=some t→∃v,ys[off+i]?=some v∧VR g w t v)→cj cs ds=some r →
  (Op.eqFields (n+1) xs ys fs).run P w=.ok r w
 | [],off,ks,cs,ds,xs,ys,r,hf,hk,hc,hd,he=>by
  cases ks with
  | nil =>
   cases cs with
   | nil=>cases ds<;>simp[cj]at he;subst he;rfl
   | cons _ _=>simp[gk]at hk
  | cons _ _=>simp[flat]at hf
 | f :: fs,off,ks,cs,ds,xs,ys,r,hf,hk,hc,hd,he=>by
  cases ks with
  | nil=>simp[flat]at hf
  | cons k ks =>
   cases cs with
   | nil=>simp[gk]at hk
   | cons c cs =>
    cases ds with
    | nil=>simp[cj]at he
    | cons d ds =>
     simp only[flat,Bool.and_eq_true,beq_iff_eq,bne_iff_ne]at hf
     obtain⟨⟨⟨Ck,Ee⟩,Jf⟩,fY⟩:=hf
     simp only[gk,Bool.and_eq_true]at hk
     cases hu:P.underlying f.type with
     | none=>simp[hu]at Jf
     | some de =>
      simp[hu]at Jf
      obtain⟨va,DD,zj⟩:=hc 0 c rfl
      obtain⟨vb,lL,lM⟩:=hd 0 d rfl
      simp only[Nat.add_zero]at DD lL
      simp only[cj]at he
      cases e1:jD c d with
      | none=>simp[e1]at he
      | some r1 =>
       cases e2:cj cs ds with
       | none=>simp[e1,e2]at he
       | some r2 =>
        simp[e1,e2]at he;subst he
        have ih:=qu (n:=n) fs (off+1) ks cs ds xs ys r2 fY hk.2 (fun i t hi=>by have:=hc (i+1) t (by simpa using hi);rwa[show off+1+i=off+(i+1) by omega])
         (fun i t hi=>by have:=hd (i+1) t (by simpa using hi);rwa[show off+1+i=off+(i+1) by omega]) e2
        simp only[Op.eqFields,Ee,ne_eq,not_false_eq_true,if_true,Sem.run_bind,Ck,pA hu Jf DD,pA hu Jf lL,Result.andThen_ok,AH hu Jf zj lM hk.1 e1]
        cases r1
        ·simp
        ·simp[ih]
theorem bL.gA {ts:List T}{vs:List Value}(h:bL g w ts vs)(i:Nat)(t:T)(hi:ts[i]?=some t):∃v,vs.toArray[i]?=some v∧VR g w t v:=by
 have al:i<vs.length:=by rw[←h.1];exact(List.getElem?_eq_some_iff.1 hi).1
 exact⟨vs[i],by simp[al],h.2 i t _ hi (List.getElem?_eq_getElem al)⟩
theorem ui {ty:TypeId}{fs:Array Field}{ks:List xc}(hu:P.underlying ty=some (.struct fs))(hf:flat P fs.toList 0 ks=true)(hp:P.stoodInHeld ty=false){cs ds:List T}{xs ys:List Value}{r:Bool}
  (hk:gk ks cs=true) (hx:bL g w cs xs) (hy:bL g w ds ys) (he:cj cs ds=some r) (n:Nat):(Op.equalIn (n+1+1) ty (.agg xs.toArray) (.agg ys.toArray)).run P w=.ok r w:=by
 have Sb:P.fieldsOf ty=fs:=by simp[Program.fieldsOf,hu]
 rw[run_equalIn_struct w (n+1) ty _ _ (by rw[Sb];exact hu) hp,Sb]
 exact qu _ 0 ks cs ds _ _ r hf hk (fun i t hi=>by simpa using hx.gA i t hi) (fun i t hi=>by simpa using hy.gA i t hi) he
theorem JI {neg:Bool}{ks:List xc}{cs ds:List T}{r:Bool}{vx vy:Value}{ty:TypeId}{ox oy:Operand}{fs:Array Field}
  (hu:P.underlying ty=some (.struct fs)) (hf:flat P fs.toList 0 ks=true) (hp:P.stoodInHeld ty=false) (hg:P.eqGuardType P.depth ty=false)
  (h:SR w0 g H w) (hx:VR g w (.agg cs) vx) (hy:VR g w (.agg ds) vy) (hk:gk ks cs=true) (he:cj cs ds=some r) :
  cf P w0 g H w (do eqGuard (if neg then .neq else .eql) ty ox oy vx vy;binOp (if neg then .neq else .eql) ty vx vy) (.bool (if neg then !r else r)) H:=by
 obtain⟨xs,rfl,Jg,_⟩:=hx.gz
 obtain⟨ys,rfl,Sc,_⟩:=hy.gz
 have e:(Op.equalIn 10000 ty (.agg xs.toArray) (.agg ys.toArray)).run P w=.ok r w:=ui hu hf hp hk Jg Sc he 9998
 refine cf.same h (v:=.bool (if neg then !r else r)) ?_ (.bool _)
 cases neg
 ·simp only[Bool.false_eq_true,if_false,Sem.run_bind,run_eqGuard_agg w _ _ _ _ _ _ hg,Result.andThen_ok,run_eql_struct,e]
 ·simp only[if_true,Sem.run_bind,run_eqGuard_agg w _ _ _ _ _ _ hg,Result.andThen_ok,run_neq_struct,e]
theorem Of {op:UnOp}{x t:T}{vx:Value}(h:SR w0 g H w)(hx:VR g w x vx)(he:D0 op x=some t):cf P w0 g H w (Op.unary op vx) t H:=by
 cases hx<;>(try (simp[D0]at he;done))<;>cases op<;>simp[D0]at he<;>subst he
 ·exact cf.same h (by simp[Op.unary,Op.intArith]) (.int _ _)
 ·exact cf.same h (by simp[Op.unary,Op.intBits]) (.int _ _)
 ·exact cf.same h (by simp[Op.unary]) (.bool _)
theorem JJ {src dst:TypeId}{ds:TypeDesc}{k k0:IntKind}{n:Int}{vx:Value}(hs:P.underlying src=some ds)(hd:P.underlying dst=some (.int k))(h:SR w0 g H w)(hx:VR g w (.int k0 n) vx) :
  cf P w0 g H w (convert src dst vx) (.int k (k.wrap n)) H:=by
 cases hx
 exact cf.same h (by simp[convert,run_underlying hs,run_underlying hd,Conv.intToInt]) (.int _ _)
theorem Ef {c:Bool}{x y:T}{vc vx vy:Value}(h:SR w0 g H w)(hc:VR g w (.bool c) vc)(hx:VR g w x vx)(hy:VR g w y vy) :
  cf P w0 g H w (do pure (if ←asBool vc then vx else vy)) (if c then x else y) H:=by
 cases hc
 refine cf.same h (v:=if c then vx else vy) (by simp[asBool]) ?_
 cases c<;>simpa
def YG:Lc→TypeDesc→Bool
 | .str,.string | .sl,.slice _ | .map,.map _ _=>true
 | _,_=>false
theorem JK {ty rt:TypeId}{d:TypeDesc}{k:Lc}{x:T}{vx:Value}{n:Nat}(hu:P.underlying ty=some d)(hd:YG k d=true)
  (h:SR w0 g H w) (hx:VR g w x vx) (he:jE H k x=some n):cf P w0 g H w (Builtin.len_ #[ty] rt #[vx]) (.int .i64 n) H:=by
 refine cf.same h (v:=.int .i64 n) ?_ (.int _ _)
 cases k<;>cases d<;>(first|(simp[YG]at hd;done)|skip)<;>cases hx<;>simp[jE]at he
 ·subst he;simp[Builtin.len_,run_underlying hu,goInt]
 ·subst he;simp[Builtin.len_,run_underlying hu,goInt]
 ·subst he;simp[Builtin.len_,run_underlying hu,goInt]
 ·subst he;simp[Builtin.len_,run_underlying hu,goInt]
 ·subst he;simp[Builtin.len_,run_underlying hu,goInt]
 ·subst he;simp[Builtin.len_,run_underlying hu,goInt]
 ·subst he;simp[Builtin.len_,run_underlying hu,goInt]
 ·rename_i b r o q hφ
  cases hb:H[b]? with
  | none=>simp[hb]at he
  | some y =>
   cases y<;>simp[hb]at he
   ·rename_i es
    obtain⟨_,ay,c,h2,h3,_⟩:=h.eG b _ hb r o q hφ
    subst he
    simp[Builtin.len_,run_underlying hu,goInt,getObj,Sem.run,h2,h3.1]
   ·rename_i es _ _ _
    obtain⟨r',o',q',lK,_,ay,c,h2,h3,_⟩:=h.eG b _ hb
    rw[hφ]at lK;cases lK
    subst he
    simp[Builtin.len_,run_underlying hu,goInt,getObj,Sem.run,h2,h3.1]
theorem oA {n:Nat}{x:T}{vx:Value}{es:List (List T)}(h:SR w0 g H w)(hx:VR g w x vx)(he:bq H n x=some es)(hs:∀s,x≠.str s) :
  ∃(a:Option Addr) (cap:Nat) (vs:List Value),vx=.slice a es.length cap∧es.length≤cap∧(a=none→es=[]∧cap=0)∧(∀a',a=some a'→(es≠[]→a'.spot=none)∧∀(j:Nat) (v:Value),vs[j]?=some v→w.cell? (a'.add j)=some v) ∧
   bL g w es.flatten vs∧vs.length=es.length*n∧cD es.flatten∧∀c∈es,c.length=n:=by
 cases hx with
 | slnil=>simp[bq]at he;subst he;exact⟨none,0,[],rfl,Nat.le_refl _,fun _=>⟨rfl,rfl⟩,(by simp),bL.nil,by simp,by simp[cD],by simp⟩
 | jr a=>simp[bq]at he;subst he;exact⟨a,0,[],rfl,Nat.le_refl _,fun _=>⟨rfl,rfl⟩,(by simp),bL.nil,by simp,by simp[cD],by simp⟩
 | @sl k DE r o cap n' cZ hk hc hn h1 h2 =>
  simp only[bq]at he
  split at he
  ·rename_i bB
   simp at he;subst he
   have nq:∀c∈DE,c.length=n:=by simpa using bB
   have key:∀(i j:Nat),i<DE.length→j<n→∃c t,DE[i]?=some c∧c[j]?=some t∧t.one=true∧w.cell? ⟨r,o+i*n+j,none⟩=some (cZ i j)∧VR g w t (cZ i j):=by
    intro i j hi hj
    have e1:DE[i]?=some DE[i]:=List.getElem?_eq_getElem hi
    have l1:(DE[i]).length=n:=nq _ (List.getElem_mem hi)
    have l2:(DE[i]).length=n':=hn _ (List.getElem_mem hi)
    have e2:(DE[i])[j]?=some ((DE[i])[j]'(by omega)):=List.getElem?_eq_getElem _
    have a:=h1 i j _ _ e1 e2
    have tF:n'=n:=by omega
    exact⟨_,_,e1,e2,a.1,by rw[←tF];exact a.2.2,h2 i j _ _ e1 e2⟩
   have build:∀(l:List (List T)) (k:Nat),(∀i c,l[i]?=some c→DE[k+i]?=some c)→∃vs:List Value,vs.length=l.length*n∧bL g w l.flatten vs∧cD l.flatten ∧
     ∀(j:Nat) (v:Value),vs[j]?=some v→w.cell? ⟨r,o+k*n+j,none⟩=some v:=by
    intro l
    induction l with
    | nil=>intro k _;exact⟨[],by simp,bL.nil,by simp[cD],by simp⟩
    | cons c l ih =>
     intro k hk
     have nG:=hk 0 c rfl
     simp only[Nat.add_zero]at nG
     have Og:k<DE.length:=(List.getElem?_eq_some_iff.1 nG).1
     have lN:c.length=n:=nq c (List.mem_of_getElem? nG)
     obtain⟨vs,a1,a2,a3,a4⟩:=ih (k+1) (fun i c' hi=>by have:=hk (i+1) c' (by simpa using hi);rwa[show k+1+i=k+(i+1) by omega])
     refine⟨(List.range n).map (cZ k)++vs,by simp[a1,Nat.succ_mul];omega,?_,?_,fun j v hj=>?_⟩
     ·rw[List.flatten_cons]
      refine bL.append ⟨by simp[lN],fun i t v hi hv=>?_⟩ a2
      have al:i<n:=by have:=(List.getElem?_eq_some_iff.1 hv).1;simpa using this
      obtain⟨c',t',e1,e2,_,_,e5⟩:=key k i Og al
      rw[nG]at e1;cases e1
      rw[hi]at e2;cases e2
      simp[al]at hv
      rw[←hv];exact e5
     ·rw[List.flatten_cons]
      intro t ht
      rcases List.mem_append.1 ht with ht|ht
      ·obtain⟨i,hi,rfl⟩:=List.getElem_of_mem ht
       obtain⟨c',t',e1,e2,e3,_,_⟩:=key k i Og (by omega)
       rw[nG]at e1;cases e1
       rw[List.getElem?_eq_getElem hi]at e2;cases e2
       exact e3
      ·exact a3 t ht
     ·rw[List.getElem?_append]at hj
      split at hj
      ·rename_i al
       simp at al
       simp[al]at hj
       obtain⟨c',t',_,_,_,e4,_⟩:=key k j Og al
       rw[←hj];exact e4
      ·rename_i dJ
       simp at dJ hj
       have:=a4 _ v hj
       rwa[show o+(k+1)*n+(j-n)=o+k*n+j by rw[Nat.succ_mul];omega]at this
   obtain⟨vs,a1,a2,a3,a4⟩:=build DE 0 (fun i c h=>by simpa using h)
   refine⟨some ⟨r,o,none⟩,cap,vs,rfl,hc,by simp,fun a' ha=>?_,a2,a1,a3,nq⟩
   cases ha
   exact⟨fun _=>rfl,fun j v hj=>by rw[du];simpa using a4 j v hj⟩
  ·simp at he
 | @aA b off len n' r o q cap hφ hc hq =>
  simp only[bq]at he
  cases hb:H[b]? with
  | none=>simp[hb]at he
  | some y =>
   cases y with
   | cells cs =>
    simp only[hb]at he
    split at he
    ·rename_i cI
     obtain⟨rfl,hle⟩:=cI
     simp at he
     obtain⟨h1,h2,h3⟩:=h.eG b _ hb r o q hφ
     have hlen:es.length=len:=by rw[←he];simp
     have hn:∀c∈es,c.length=n':=by
      rw[←he]
      intro c gB
      obtain⟨i,hi,rfl⟩:=List.mem_map.1 gB
      simp at hi
      have:i*n'+n'≤len*n':=by rw[←Nat.succ_mul];exact Nat.mul_le_mul_right _ hi
      simp;omega
     have tj:∀m,m≤len→((List.range m).map fun i=>(cs.drop (off+i*n')).take n').flatten=(cs.drop off).take (m*n'):=by
      intro m
      induction m with
      | zero=>intro _;simp
      | succ m ih =>
       intro hm
       rw[List.range_succ,List.map_append,List.flatten_append,ih (by omega)]
       simp only[List.map_cons,List.map_nil,List.flatten_cons,List.flatten_nil,List.append_nil]
       rw[Nat.succ_mul,List.take_add,List.drop_drop]
     have MK:es.flatten=(cs.drop off).take (len*n'):=by rw[←he];exact tj len (Nat.le_refl _)
     have hp:po H (len*n') (.ptr b off)=some ((cs.drop off).take (len*n')):=by simp[po,hb,hle]
     obtain⟨r',o',vs,e1,e2,e3,e4,e5⟩:=pz h (.ptr hφ) hp
     cases e1
     refine⟨some ⟨r,o+off,none⟩,cap,vs,by rw[hlen],by omega,by simp,fun a' ha=>?_,by rw[MK];exact e4,by rw[e2,hlen],by rw[MK];exact e5,hn⟩
     cases ha
     exact⟨fun _=>rfl,fun j v hj=>by rw[du];exact e3 j v hj⟩
    ·simp at he
   | map _=>simp[hb]at he
   | tok _=>simp[hb]at he
   | _=>simp[hb]at he
 | str s=>exact absurd rfl (hs s)
 | _=>simp[bq]at he
theorem rH:∀(es:List (List T)) (l:List UInt8),bytesOf es=some l→∃ns:List Int,es=ns.map (fun n=>[T.int .u8 n])∧l=ns.map (fun n=>UInt8.ofNat n.toNat)
 | [],l,h=>⟨[],rfl,by simpa[bytesOf]using h.symm⟩
 | [.int .u8 n] :: es,l,h=>by
  simp only[bytesOf,Option.map_eq_some_iff]at h
  obtain⟨l',h1,rfl⟩:=h
  obtain⟨ns,rfl,rfl⟩:=rH es l' h1
  exact⟨n :: ns,rfl,rfl⟩
 | [] :: es,l,h=>by simp[bytesOf]at h
 | (_ :: _ :: _) :: es,l,h=>by simp[bytesOf]at h
 | [.int .i8 n] :: es,l,h=>by simp[bytesOf]at h
 | [.int .i16 n] :: es,l,h=>by simp[bytesOf]at h
 | [.int .i32 n] :: es,l,h=>by simp[bytesOf]at h
 | [.int .i64 n] :: es,l,h=>by simp[bytesOf]at h
 | [.int .u16 n] :: es,l,h=>by simp[bytesOf]at h
 | [.int .u32 n] :: es,l,h=>by simp[bytesOf]at h
 | [.int .u64 n] :: es,l,h=>by simp[bytesOf]at h
 | [.bool _] :: es,l,h=>by simp[bytesOf]at h
 | [.str _] :: es,l,h=>by simp[bytesOf]at h
 | [.bZ] :: es,l,h=>by simp[bytesOf]at h
 | [.ptr _ _] :: es,l,h=>by simp[bytesOf]at h
 | [.cX _] :: es,l,h=>by simp[bytesOf]at h
 | [.gX] :: es,l,h=>by simp[bytesOf]at h
 | [.map _] :: es,l,h=>by simp[bytesOf]at h
 | [.sl _ _] :: es,l,h=>by simp[bytesOf]at h
 | [.aA _ _ _ _] :: es,l,h=>by simp[bytesOf]at h
 | [.nD] :: es,l,h=>by simp[bytesOf]at h
 | [.fn _ _] :: es,l,h=>by simp[bytesOf]at h
 | [.gY] :: es,l,h=>by simp[bytesOf]at h
 | [.agg _] :: es,l,h=>by simp[bytesOf]at h
 | [.bJ _] :: es,l,h=>by simp[bytesOf]at h
theorem foldl_push (ns:List Int):∀(b:ByteArray),ns.foldl (fun r n=>r.push (UInt8.ofNat n.toNat)) b=⟨b.data++(ns.map (fun n=>UInt8.ofNat n.toNat)).toArray⟩:=by
 induction ns with
 | nil=>intro b;simp
 | cons n ns ih=>intro b;rw[List.foldl_cons,ih];cases b;simp[ByteArray.push]
theorem S4 (ns:List Int):(ns.map fun n=>[T.int .u8 n]).flatten=ns.map (T.int .u8):=by
 induction ns with
 | nil=>rfl
 | cons n ns ih=>simp only[List.map_cons,List.flatten_cons,ih];rfl
theorem JL {src dst e:TypeId}{x:T}{vx:Value}{es:List (List T)}{l:List UInt8}(hs:P.underlying src=some (.slice e))(hb:P.underlying e=some (.int .u8))(hd:P.underlying dst=some .string)
  (h:SR w0 g H w) (hx:VR g w x vx) (he:bq H 1 x=some es) (hn:∀s,x≠.str s) (hl:bytesOf es=some l):cf P w0 g H w (convert src dst vx) (.str ⟨l.toArray⟩) H:=by
 obtain⟨a,cap,vs,rfl,_,h1,h2,h3,h4,h5,_⟩:=oA h hx he hn
 obtain⟨ns,rfl,rfl⟩:=rH es l hl
 refine cf.same h ?_ (.str _)
 rw[run_convert_bytes_string w src dst e a _ cap hs hb hd]
 cases a with
 | none =>
  have:=h1 rfl
  have ML:ns=[]:=by simpa using this.1
  subst ML
  simp[Conv.bytesToString];rfl
 | some a =>
  obtain⟨_,h6⟩:=h2 a rfl
  have jk:vs=ns.map (Value.int .u8):=by
   apply List.ext_getElem?
   intro i
   have hlen:vs.length=ns.length:=by simpa using h4
   by_cases hi:i<ns.length
   ·have hv:vs[i]?=some vs[i]:=List.getElem?_eq_getElem (by omega)
    have ht:((ns.map fun n=>[T.int .u8 n]).flatten)[i]?=some (T.int .u8 ns[i]):=by
     rw[S4];simp[hi]
    have:=h3.2 i _ _ ht hv
    rw[hv]
    simp only[List.getElem?_map,List.getElem?_eq_getElem hi,Option.map_some]
    congr 1
    generalize vs[i]=vv at this
    cases this;rfl
   ·rw[List.getElem?_eq_none (by omega),List.getElem?_eq_none (by simpa using hi)]
  have:=run_loadCells_list (P:=P) w a vs h6
  rw[h4]at this
  have hl:(ns.map fun n=>[T.int .u8 n]).length*1=(ns.map fun n=>[T.int .u8 n]).length:=Nat.mul_one _
  rw[hl]at this
  rw[run_bytesToString w a _ cap ns (by rw[this,jk]),foldl_push]
  show Result.ok (Value.string ⟨#[]++_⟩) w=_
  simp
end
section
variable {P:Program} {w0 w:World} {g:Ctx} {H:af}
def rI:Value→Option T
 | .int k n=>some (.int k n)
 | .bool b=>some (.bool b)
 | .string s=>some (.str s)
 | .pointer none=>some .bZ
 | .slice none 0 0=>some (.sl .nil [])
 | .map none=>some .gX
 | .nilFunc=>some .nD
 | .nilIface=>some .gY
 | _=>none
def fy:List Value→Option (List T)
 | []=>some []
 | v :: vs=>match rI v,fy vs with
  | some t,some ts=>some (t :: ts)
  | _,_=>none
def nH:Value→Option T
 | .agg cs=>(fy cs.toList).map .agg
 | .tuple cs=>if cs.size=0 then some (.bJ [])else none
 | v=>rI v
theorem uj {v:Value}{t:T}(h:rI v=some t):VR g w t v∧t.one=true:=by
 unfold rI at h
 split at h<;>simp at h<;>subst h
 ·exact⟨.int _ _,rfl⟩
 ·exact⟨.bool _,rfl⟩
 ·exact⟨.str _,rfl⟩
 ·exact⟨.bZ,rfl⟩
 ·exact⟨.slnil,rfl⟩
 ·exact⟨.gX,rfl⟩
 ·exact⟨.nD,rfl⟩
 ·exact⟨.gY,rfl⟩
theorem dQ:∀(vs:List Value) (ts:List T),fy vs=some ts→bL g w ts vs∧cD ts
 | [],ts,h=>by simp[fy]at h;subst h;exact⟨bL.nil,by simp[cD]⟩
 | v :: vs,ts,h=>by
  simp only[fy]at h
  cases h1:rI v with
  | none=>simp[h1]at h
  | some t =>
   cases h2:fy vs with
   | none=>simp[h1,h2]at h
   | some Oc =>
    simp[h1,h2]at h;subst h
    obtain⟨a,b⟩:=uj (g:=g) (w:=w) h1
    obtain⟨c,d⟩:=dQ vs Oc h2
    exact⟨bL.cons a c,by intro x hx;rcases List.mem_cons.1 hx with rfl|hx;exact b;exact d x hx⟩
theorem mF {v:Value}{t:T}(h:nH v=some t):VR g w t v:=by
 unfold nH at h
 split at h
 ·rename_i cs
  simp only[Option.map_eq_some_iff]at h
  obtain⟨ts,h1,rfl⟩:=h
  obtain⟨a,b⟩:=dQ (g:=g) (w:=w) _ _ h1
  have:=a.agg b
  simpa using this
 ·rename_i cs
  split at h
  ·rename_i hs
   simp at h;subst h
   have:cs=#[]:=Array.eq_empty_of_size_eq_zero hs
   subst this
   exact .bJ rfl (by simp)
  ·simp at h
 ·exact(uj h).1
theorem eM {x:T}{vx:Value}{i:Nat}(hx:VR g w x vx)(h:cw x=some i):∃(k:IntKind) (n:Int),vx=.int k n∧0≤n∧n.toNat=i:=by
 cases hx<;>simp[cw]at h
 exact⟨_,_,rfl,h.1,h.2⟩
theorem Cl {cs:List T}{r o off:Nat}(h:VR g w (.cX cs) (.pointer (some ⟨r,o,none⟩))):VR g w (.cX (cs.drop off)) (.pointer (some ⟨r,o+off,none⟩)):=by
 cases h with
 | cX cZ h1 h2 =>
  refine .cX (fun j=>cZ (off+j)) (fun j t e=>?_) (fun j t e=>?_)
  ·rw[List.getElem?_drop]at e
   have:=h1 (off+j) t e
   exact⟨this.1,by rw[Nat.add_assoc];exact this.2⟩
  ·rw[List.getElem?_drop]at e
   exact h2 (off+j) t e
theorem JM {ty:TypeId}{fs:Array Field}{i:Nat}{f:Field}{fi:TypeInfo}{x t:T}{vx:Value}(hu:P.underlying ty=some (.struct fs))(hf:fs[i]?=some f)(hi:P.info? f.type=some fi)(hz:fi.size≠0)
  (h:SR w0 g H w) (hx:VR g w x vx) (he:rC f.offset x=some t) :
  cf P w0 g H w (Instr.fieldAt ty vx i) t H:=by
 cases hx<;>simp[rC]at he
 case ptr b off r o q hφ =>
  subst he
  refine cf.same h (v:=.pointer (some ⟨r,o+(off+f.offset),none⟩)) ?_ (.ptr hφ)
  simp[Instr.fieldAt,Instr.sureAddr,run_underlying hu,hf,fieldPlace,sizeOf,bA hi,hz,du,Nat.add_assoc]
 case cX cs r o cZ h1 h2 =>
  obtain⟨_,rfl⟩:=he
  refine cf.same h (v:=.pointer (some ⟨r,o+f.offset,none⟩)) ?_ (Cl (.cX cZ h1 h2))
  simp[Instr.fieldAt,Instr.sureAddr,run_underlying hu,hf,fieldPlace,sizeOf,bA hi,hz,du]
theorem xr {ty:TypeId}{d:TypeDesc}{i:TypeInfo}{ag:Bool}{n off:Nat}{cs:List T}{vs:List Value}{t:T}(hd:P.underlying ty=some d)(hi:P.info? ty=some i)(vF:eJ d=ag)(hn:i.size=n)
  (hv:bL g w cs vs) (ho:cD cs) (hle:off+n≤cs.length) (he:valOf ag ((cs.drop off).take n)=some t):∃v,(part ty vs.toArray off).run P w=.ok v w∧VR g w t v:=by
 have h1:=(hv.drop off).take n
 have h2:cD ((cs.drop off).take n):=fun x hx=>ho x (List.mem_of_mem_drop (List.mem_of_mem_take hx))
 obtain⟨ha,hb⟩:=rF h1 h2 he
 cases ag with
 | true =>
  refine⟨_,?_,ha rfl⟩
  simp[part,fx hd,vF,sizeOf,bA hi,hn]
 | false =>
  obtain⟨v,h3,h4⟩:=hb rfl
  refine⟨v,?_,h4⟩
  have h5:vs[off]?=some v:=by
   have:((vs.drop off).take n)[0]?=some v:=by rw[h3];rfl
   rw[List.getElem?_take]at this
   split at this
   ·rw[List.getElem?_drop]at this;simpa using this
   ·simp at this
  simp[part,fx hd,vF,h5]
theorem JN {ty:TypeId}{fs:Array Field}{i:Nat}{f:Field}{fi:TypeInfo}{d:TypeDesc}{cs:List T}{t:T}{vx:Value}{ag:Bool}(hu:P.underlying ty=some (.struct fs))(hf:fs[i]?=some f)(hd:P.underlying f.type=some d)(hi:P.info? f.type=some fi)
  (vF:eJ d=ag) (h:SR w0 g H w) (hx:VR g w (.agg cs) vx) (hle:f.offset+fi.size≤cs.length) (he:valOf ag ((cs.drop f.offset).take fi.size)=some t):cf P w0 g H w (Instr.field ty vx i) t H:=by
 obtain⟨vs,rfl,h1,h2⟩:=hx.gz
 obtain⟨v,hr,hv⟩:=xr (P:=P) hd hi vF rfl h1 h2 hle he
 exact cf.same h (by simp[Instr.field,run_underlying hu,hf,asAgg,hr]) hv
theorem JO {ty elem:TypeId}{ei:TypeInfo}{x ix t:T}{i:Nat}{vx vi:Value}(hu:P.underlying ty=some (.slice elem))(hi:P.info? elem=some ei)
  (h:SR w0 g H w) (hx:VR g w x vx) (xu:VR g w ix vi) (hn:cw ix=some i) (he:fw ei.size i x=some t):cf P w0 g H w (Instr.indexAt ty vx vi) t H:=by
 obtain⟨k,m,rfl,xv,DF⟩:=eM xu hn
 cases hx<;>simp[fw]at he
 case sl k' es r o cap n cZ hk hc y0 h1 h2 =>
  cases jg:es[i]? with
  | none=>simp[jg]at he
  | some c =>
   simp[jg]at he
   obtain⟨⟨lN,bQ⟩,rfl⟩:=he
   have al:i<es.length:=(List.getElem?_eq_some_iff.1 jg).1
   have MM:c.length=n:=y0 c (List.mem_of_getElem? jg)
   have tF:n=ei.size:=by omega
   subst tF
   refine cf.same h (v:=.pointer (some ⟨r,o+i*ei.size,none⟩)) ?_ (.cX (cZ i) (fun j t e=>h1 i j c t jg e) (fun j t e=>h2 i j c t jg e))
   have zk:m<es.length:=by omega
   simp[Instr.indexAt,asIntOf,run_underlying hu,xv,zk,sizeOf,bA hi,du,DF]
 case aA b off len n r o q cap hφ hc hq =>
  obtain⟨⟨rfl,al,bQ⟩,rfl⟩:=he
  refine cf.same h (v:=.pointer (some ⟨r,o+(off+i*ei.size),none⟩)) ?_ (.ptr hφ)
  have zk:m<len:=by omega
  simp[Instr.indexAt,asIntOf,run_underlying hu,xv,zk,sizeOf,bA hi,du,DF,Nat.add_assoc]
theorem JP {ty elem:TypeId}{len:Nat}{ei:TypeInfo}{ix:T}{b off i:Nat}{vx vi:Value}(hu:P.underlying ty=some (.array len elem))(hi:P.info? elem=some ei)
  (h:SR w0 g H w) (hx:VR g w (.ptr b off) vx) (xu:VR g w ix vi) (hn:cw ix=some i) (al:i<len):cf P w0 g H w (Instr.indexAt ty vx vi) (.ptr b (off+i*ei.size)) H:=by
 obtain⟨k,m,rfl,xv,DF⟩:=eM xu hn
 cases hx with
 | @ptr _ _ r o q hφ =>
  refine cf.same h (v:=.pointer (some ⟨r,o+(off+i*ei.size),none⟩)) ?_ (.ptr hφ)
  have zk:m<len:=by omega
  simp[Instr.indexAt,Instr.sureAddr,asIntOf,run_underlying hu,xv,zk,sizeOf,bA hi,du,DF,Nat.add_assoc]
theorem JQ {ty:TypeId}{ix:T}{s:ByteArray}{i:Nat}{c:UInt8}{vx vi:Value}(hu:P.underlying ty=some .string)
  (h:SR w0 g H w) (hx:VR g w (.str s) vx) (xu:VR g w ix vi) (hn:cw ix=some i) (hc:s.data[i]?=some c):cf P w0 g H w (Instr.index ty vx vi) (.int .u8 c.toNat) H:=by
 obtain⟨k,m,rfl,xv,DF⟩:=eM xu hn
 cases hx
 refine cf.same h ?_ (.int _ _)
 have gB:s[i]?=some c:=by
  have al:i<s.data.size:=(Array.getElem?_eq_some_iff.1 hc).1
  have h2:=(Array.getElem?_eq_some_iff.1 hc).2
  have Cm:i<s.size:=al
  rw[getElem?_pos s i Cm]
  exact congrArg some h2
 simp[Instr.index,asIntOf,run_underlying hu,xv,DF,gB]
theorem JR {ty elem:TypeId}{len i:Nat}{ei:TypeInfo}{d:TypeDesc}{ag:Bool}{ix t:T}{cs:List T}{vx vi:Value}(hu:P.underlying ty=some (.array len elem))(hd:P.underlying elem=some d)(hi:P.info? elem=some ei)(vF:eJ d=ag)
  (h:SR w0 g H w) (hx:VR g w (.agg cs) vx) (xu:VR g w ix vi) (hn:cw ix=some i) (al:i<len) (hle:i*ei.size+ei.size≤cs.length) (he:valOf ag ((cs.drop (i*ei.size)).take ei.size)=some t):cf P w0 g H w (Instr.index ty vx vi) t H:=by
 obtain⟨k,m,rfl,xv,DF⟩:=eM xu hn
 obtain⟨vs,rfl,h1,h2⟩:=hx.gz
 obtain⟨v,hr,hv⟩:=xr (P:=P) hd hi vF rfl h1 h2 hle he
 have zk:m<len:=by omega
 exact cf.same h (by simp[Instr.index,asIntOf,run_underlying hu,xv,zk,sizeOf,bA hi,DF,hr]) hv
def OV (g:Ctx)(w:World)(R:aw):Option X→Option Value→Prop
 | none,none=>True
 | some x,some v=>VR g w (x.ev R) v
 | _,_=>False
def Oh (l:Nat):Option Value→Prop
 | none=>l=0
 | some v=>∃k n,v=.int k n∧0≤n∧n.toNat=l
theorem run_sliceBound {k:IntKind}{n:Int}{y:Nat}{c:BoundsCode}(h0:0≤n)(hy:n.toNat≤y):(Instr.sliceBound (.int k n) y c).run P w=.ok n.toNat w:=by
 have:n≤y:=by omega
 simp[Instr.sliceBound,asIntOf,h0,this]
theorem iC {R:aw}{Jh:Bool}{len cap d l hh:Nat}{lo hi:Option X}{lQ oe:Option Value}(og:OV g w R lo lQ)
  (zl:OV g w R hi oe) (hl:fX R 0 lo=some l) (uk:fX R d hi=some hh) (hd:hi=none→d=len) (h1:l≤hh) (h2:hh≤cap) :
  (Instr.sliceBounds Jh len cap lQ oe none).run P w=.ok (l,hh,cap) w:=by
 have eh:∀c,(match oe with|some v=>Instr.sliceBound v cap c|none=>pure len:Sem Nat).run P w=.ok hh w:=by
  intro c
  cases hi with
  | none =>
   cases oe with
   | none=>simp[fX]at uk;simp[←uk,hd rfl]
   | some _=>exact zl.elim
  | some x =>
   cases oe with
   | none=>exact zl.elim
   | some v =>
    obtain⟨k,n,rfl,a,b⟩:=eM zl uk
    subst b
    exact run_sliceBound a h2
 have el:∀c,(match lQ with|some v=>Instr.sliceBound v hh c|none=>pure 0:Sem Nat).run P w=.ok l w:=by
  intro c
  cases lo with
  | none =>
   cases lQ with
   | none=>simp[fX]at hl;simp[←hl]
   | some _=>exact og.elim
  | some x =>
   cases lQ with
   | none=>exact og.elim
   | some v =>
    obtain⟨k,n,rfl,a,b⟩:=eM og hl
    subst b
    exact run_sliceBound a h1
 have eh':=eh (if Jh then .sliceAcap else .sliceAlen)
 have el':=el .sliceB
 cases oe<;>cases lQ<;>simp_all [Instr.sliceBounds]
theorem JS {R:aw}{ty:TypeId}{s:ByteArray}{l hh:Nat}{lo hi:Option X}{lQ oe:Option Value}{vx:Value}(hu:P.underlying ty=some .string)
  (h:SR w0 g H w) (hx:VR g w (.str s) vx) (og:OV g w R lo lQ)
  (zl:OV g w R hi oe) (hl:fX R 0 lo=some l) (uk:fX R s.size hi=some hh) (h1:l≤hh) (h2:hh≤s.size) :
  cf P w0 g H w (Instr.sliceAt ty vx lQ oe none) (.str (s.extract l hh)) H:=by
 cases hx
 refine cf.same h ?_ (.str _)
 have:=iC (P:=P) (Jh:=false) og zl hl uk (fun _=>rfl) h1 h2
 simp[Instr.sliceAt,run_underlying hu,Instr.slice,this]
theorem AI {k k':SK}{es:List (List T)}{r o cap vG n l m:Nat}{a:Option Addr}(cZ:Nat→Nat→Value)(hn:∀c∈es,c.length=n)
  (h1:∀(i j:Nat) (c:List T) (t:T),es[i]?=some c→c[j]?=some t→t.one=true∧Cf g w r (o+i*n+j) (cZ i j))
  (h2:∀(i j:Nat) (c:List T) (t:T),es[i]?=some c→c[j]?=some t→VR g w t (cZ i j))
  (XH:l≤m) (hm:m≤es.length) (oB:m-l≤vG) (hk:gy g k' r (o+l*n) (m-l) vG n) :
  VR g w (.sl k' ((es.take m).drop l)) (.slice (some ⟨r,o+l*n,none⟩) (m-l) vG):=by
 have hlen:((es.take m).drop l).length=m-l:=by simp;omega
 have get:∀i c,((es.take m).drop l)[i]?=some c→es[l+i]?=some c:=by
  intro i c hi
  rw[List.getElem?_drop,List.getElem?_take]at hi
  split at hi
  ·exact hi
  ·simp at hi
 have:=VR.sl (g:=g) (w:=w) (k:=k') (es:=(es.take m).drop l) (r:=r) (o:=o+l*n) (cap:=vG) (n:=n) (fun i j=>cZ (l+i) j) (by rw[hlen];exact hk) (by omega)
  (fun c hc=>hn c (List.mem_of_mem_take (List.mem_of_mem_drop hc)))
  (fun i j c t a b=>⟨(h1 (l+i) j c t (get i c a) b).1,by
   have:=(h1 (l+i) j c t (get i c a) b).2
   rwa[show o+l*n+i*n+j=o+(l+i)*n+j by rw[Nat.add_mul];omega]⟩)
  (fun i j c t a b=>h2 (l+i) j c t (get i c a) b)
 rwa[hlen]at this
theorem JT {R : aw}{ty elem : TypeId}{ei : TypeInfo}{k : SK}{es : List (List T)}{l hh : Nat}{lo hi : Option X}{lQ oe : Option Value}{vx : Value}(hu : P.underlying ty = some (.slice elem))(kD : P.info? elem = some ei)
    (h : SR w0 g H w) (hx : VR g w (.sl k es) vx) (og : OV g w R lo lQ)
    (zl : OV g w R hi oe) (hl : fX R 0 lo = some l) (uk : fX R es.length hi = some hh) (h1 : l ≤ hh) (h2 : hh ≤ es.length) (bB : es.all (·.length == ei.size) = true) :
    cf P w0 g H w (Instr.sliceAt ty vx lQ oe none) (.sl (k.cut es.length l hh) ((es.take hh).drop l)) H := by
  have nq : ∀c ∈ es, c.length = ei.size := by simpa using bB
  cases hx with
  | slnil =>
    simp at h2; subst h2
    have y6 : l = 0 := by omega
    subst y6
    have := iC (P := P) (w := w) (g := g) (Jh := true) (cap := 0) og zl hl uk (fun _ => rfl) h1 (Nat.le_refl _)
    simp only[List.length_nil]at this
    exact cf.same h (v := .slice none 0 0) (by simp[Instr.sliceAt, run_underlying hu, Instr.slice, this, sizeOf, bA kD]) (by simpa[SK.cut]using VR.slnil)
  | jr a =>
    simp at h2; subst h2
    have y6 : l = 0 := by omega
    subst y6
    have := iC (P := P) (w := w) (g := g) (Jh := true) (cap := 0) og zl hl uk (fun _ => rfl) h1 (Nat.le_refl _)
    simp only[List.length_nil]at this
    exact cf.same h (v := .slice a 0 0) (by cases a<;>simp[Instr.sliceAt, run_underlying hu, Instr.slice, this, sizeOf, bA kD]) (by simpa[SK.cut]using VR.jr a)
  | @sl _ _ r o cap n cZ hk hc hn h3 h4 =>
    have := iC (P := P) (w := w) (g := g) (Jh := true) (cap := cap) og zl hl uk (fun _ => rfl) h1 (by omega)
    have hr : (Instr.sliceAt ty (.slice (some ⟨r, o, none⟩) es.length cap) lQ oe none).run P w = .ok (.slice (some (if cap = l then⟨r, o, none⟩else⟨r, o + l * ei.size, none⟩)) (hh - l) (cap - l)) w := by
      simp[Instr.sliceAt, run_underlying hu, Instr.slice, this, sizeOf, bA kD, du]
      split<;>rfl
    by_cases he : l<hh
    · -- Sd is left
      have lN : cap ≠ l := by omega
      simp only[lN, if_false]at hr
      have tF : n = ei.size := by
        cases es with
        | nil => simp at h2; omega
        | cons c es => have a := hn c (by simp); have b := nq c (by simp); omega
      subst tF
      refine cf.same h hr (AI (k := k) (cap := cap) (a := none) cZ hn h3 h4 h1 h2 (by omega) ?_)
      cases k with
      | nil => exact hk.elim
      | arg => trivial
      | full =>
        simp only[SK.cut]; split
        · rename_i e; simp only[gy]at hk ⊢; omega
        · trivial
      | own t e =>
        simp only[SK.cut]; split
        · rename_i e'
          simp only[gy]at hk ⊢
          refine⟨?_, by omega⟩
          rw[hk.1]
          have e1 : o + l * ei.size + (hh - l) * ei.size = o + es.length * ei.size := by
            rw[Nat.add_assoc, ←Nat.add_mul]; congr 2; omega
          have e2 : o + l * ei.size + (cap - l) * ei.size = o + cap * ei.size := by
            rw[Nat.add_assoc, ←Nat.add_mul]; congr 2; omega
          rw[e1, e2]
        · trivial
    · have hle : l = hh := by omega
      subst hle
      have hd : (es.take l).drop l = [] := by simp
      rw[hd]
      have vr : ∀a : Addr, a.spot = none → VR g w (.sl .arg []) (.slice (some a) 0 (cap - l)) := by
        intro a ha
        obtain⟨ab, ao, as⟩ := a
        simp at ha; subst ha
        exact .sl (n := 0) (fun _ _ => .nilIface) trivial (by simp) (by simp) (by simp) (by simp)
      have bO : k.cut es.length l l = .arg ∨ (k.cut es.length l l = .full ∧ cap = l) := by
        cases k with
        | nil => exact hk.elim
        | arg => exact .inl rfl
        | full => simp only[SK.cut]; split
                  · rename_i e; right; simp only[gy]at hk; exact⟨rfl, by omega⟩
                  · exact .inl rfl
        | own t e => simp only[SK.cut]; split
                     · omega
                     · exact .inl rfl
      rcases bO with e|⟨e, lN⟩
      · rw[e]
        refine cf.same h hr ?_
        rw[Nat.sub_self]
        exact vr _ (by split<;>rfl)
      · rw[e]
        refine cf.same h hr ?_
        rw[Nat.sub_self, lN, Nat.sub_self]
        have AJ : ∀a : Addr, a.spot = none → VR g w (.sl .full []) (.slice (some a) 0 0) := by
          intro a ha
          obtain⟨ab, ao, as⟩ := a
          simp at ha; subst ha
          exact .sl (n := 0) (fun _ _ => .nilIface) rfl (by simp) (by simp) (by simp) (by simp)
        exact AJ _ (by split<;>rfl)
theorem pB {Jh:Bool}{len cap l hh m:Nat}{lQ:Option Value}{k:IntKind}{nm:Int}{vh:Value}
  (xv:0≤nm) (YH:nm.toNat=m) (Oi:m≤cap) (uk:∃k n,vh=.int k n∧0≤n∧n.toNat=hh) (h2:hh≤m)
  (hl:Oh l lQ) (h1:l≤hh) :
  (Instr.sliceBounds Jh len cap lQ (some vh) (some (.int k nm))).run P w=.ok (l,hh,m) w:=by
 subst YH
 obtain⟨kh,nh,rfl,a,b⟩:=uk
 subst b
 cases lQ with
 | none=>simp only[Oh]at hl;subst hl;simp[Instr.sliceBounds,run_sliceBound xv Oi,run_sliceBound a h2]
 | some v =>
  obtain⟨kl,nl,rfl,c,d⟩:=hl
  subst d
  simp[Instr.sliceBounds,run_sliceBound xv Oi,run_sliceBound a h2,run_sliceBound c h1]
theorem Eg {R:aw}{ty elem:TypeId}{ei:TypeInfo}{k:SK}{es:List (List T)}{l hh m:Nat}{lo:Option X}{hi mx:X}{lQ:Option Value}{oe vm:Value}{vx:Value}(hu:P.underlying ty=some (.slice elem))(kD:P.info? elem=some ei)
  (h:SR w0 g H w) (hx:VR g w (.sl k es) vx) (og:OV g w R lo lQ)
  (zl:VR g w (hi.ev R) oe) (hvm:VR g w (mx.ev R) vm) (hl:fX R 0 lo=some l) (uk:cw (hi.ev R)=some hh) (hm:cw (mx.ev R)=some m) (h1:l≤hh) (h2:hh≤m) (S5:m≤es.length) (bB:es.all (·.length==ei.size)=true) :
  cf P w0 g H w (Instr.sliceAt ty vx lQ (some oe) (some vm)) (.sl (if k=.nil then .nil else if es=[]∧k=.arg then .arg else if hh=m then .full else .arg) ((es.take hh).drop l)) H:=by
 have nq:∀c∈es,c.length=ei.size:=by simpa using bB
 have pq:Oh l lQ:=by
  cases lo<;>cases lQ
  ·simp[fX]at hl;exact hl.symm
  ·exact og.elim
  ·exact og.elim
  ·exact eM og hl
 obtain⟨km,nm,rfl,xv,YH⟩:=eM hvm hm
 have hb:∀cap,m≤cap→(Instr.sliceBounds true es.length cap lQ (some oe) (some (.int km nm))).run P w=.ok (l,hh,m) w :=
  fun cap hc=>pB xv YH hc (eM zl uk) h2 pq h1
 cases hx with
 | slnil =>
  simp at S5;subst S5
  obtain rfl:hh=0:=by omega
  obtain rfl:l=0:=by omega
  have:=hb 0 (Nat.le_refl _)
  simp only[List.length_nil]at this
  exact cf.same h (v:=.slice none 0 0) (by simp[Instr.sliceAt,run_underlying hu,Instr.slice,this,sizeOf,bA kD]) (by simpa using VR.slnil)
 | jr a =>
  simp at S5;subst S5
  obtain rfl:hh=0:=by omega
  obtain rfl:l=0:=by omega
  have:=hb 0 (Nat.le_refl _)
  simp only[List.length_nil]at this
  exact cf.same h (v:=.slice a 0 0) (by cases a<;>simp[Instr.sliceAt,run_underlying hu,Instr.slice,this,sizeOf,bA kD]) (by simpa using VR.jr a)
 | @sl _ _ r o cap n cZ hk hc hn h3 h4 =>
  have S6:k≠.nil:=by rintro rfl;exact hk.elim
  simp only[S6,if_false]
  have hr:(Instr.sliceAt ty (.slice (some ⟨r,o,none⟩) es.length cap) lQ (some oe) (some (.int km nm))).run P w=.ok (.slice (some (if m=l then⟨r,o,none⟩else⟨r,o+l*ei.size,none⟩)) (hh-l) (m-l)) w:=by
   simp[Instr.sliceAt,run_underlying hu,Instr.slice,hb cap (by omega),sizeOf,bA kD,du]
   split<;>rfl
  by_cases he:l<hh
  ·have lN:m≠l:=by omega
   simp only[lN,if_false]at hr
   have bQ:es≠[]:=by rintro rfl;simp at S5;omega
   have tF:n=ei.size:=by
    cases es with
    | nil=>exact absurd rfl bQ
    | cons c es=>have a:=hn c (by simp);have b:=nq c (by simp);omega
   subst tF
   simp only[bQ,false_and,if_false]
   refine cf.same h hr (AI (k:=k) (cap:=cap) (a:=none) cZ hn h3 h4 h1 (by omega) (by omega) ?_)
   split
   ·rename_i e;simp only[gy];omega
   ·trivial
  ·obtain rfl:l=hh:=by omega
   have hd:(es.take l).drop l=[]:=by simp
   rw[hd]
   have AJ:∀(a:Addr) (c:Nat) (k':SK),a.spot=none→(k'=.arg∨(k'=.full∧c=0))→VR g w (.sl k' []) (.slice (some a) 0 c):=by
    intro a c k' ha lr
    obtain⟨ab,ao,as⟩:=a
    simp at ha;subst ha
    refine .sl (n:=0) (fun _ _=>.nilIface) ?_ (by simp) (by simp) (by simp) (by simp)
    rcases lr with rfl|⟨rfl,rfl⟩
    ·trivial
    ·rfl
   refine cf.same h hr ?_
   rw[Nat.sub_self]
   refine AJ _ _ _ (by split<;>rfl) ?_
   split
   ·exact .inl rfl
   ·split
    ·exact .inr ⟨rfl,by omega⟩
    ·exact .inl rfl
theorem Eh {R:aw}{ty elem:TypeId}{ei:TypeInfo}{b off len l hh:Nat}{lo hi:Option X}{lQ oe:Option Value}{vx:Value}(hu:P.underlying ty=some (.slice elem))(kD:P.info? elem=some ei)
  (h:SR w0 g H w) (hx:VR g w (.aA b off len ei.size) vx) (og:OV g w R lo lQ)
  (zl:OV g w R hi oe) (hl:fX R 0 lo=some l) (uk:fX R len hi=some hh) (h1:l≤hh) (h2:hh≤len) :
  cf P w0 g H w (Instr.sliceAt ty vx lQ oe none) (if l=hh then(if l=0 then .aA b off 0 ei.size else .sl .arg [])else .aA b (off+l*ei.size) (hh-l) ei.size) H:=by
 cases hx with
 | @aA _ _ _ _ r o q cap hφ hc hq =>
  have:=iC (P:=P) (w:=w) (g:=g) (Jh:=true) (cap:=cap) og zl hl uk (fun _=>rfl) h1 (by omega)
  have hr:(Instr.sliceAt ty (.slice (some ⟨r,o+off,none⟩) len cap) lQ oe none).run P w=.ok (.slice (some (if cap=l then⟨r,o+off,none⟩else⟨r,o+off+l*ei.size,none⟩)) (hh-l) (cap-l)) w:=by
   simp[Instr.sliceAt,run_underlying hu,Instr.slice,this,sizeOf,bA kD,du]
   split<;>rfl
  refine cf.same h hr ?_
  have key:∀a:Addr,a=⟨r,o+(off+l*ei.size),none⟩→(cap≠l∨l=0)→VR g w (.aA b (off+l*ei.size) (hh-l) ei.size) (.slice (some a) (hh-l) (cap-l)):=by
   rintro a rfl lN
   refine .aA hφ (by omega) ?_
   rw[←hq]
   have:l*ei.size+(cap-l)*ei.size=cap*ei.size:=by rw[←Nat.add_mul];congr 1;omega
   omega
  split
  ·rename_i e;subst e
   split
   ·rename_i e;subst e
    have:=key (if cap=0 then⟨r,o+off,none⟩else⟨r,o+off+0*ei.size,none⟩) (by split<;>simp) (.inr rfl)
    simpa using this
   ·rw[Nat.sub_self]
    have AJ:∀(a:Addr) (c:Nat),a.spot=none→VR g w (.sl .arg []) (.slice (some a) 0 c):=by
     intro a c ha
     obtain⟨ab,ao,as⟩:=a
     simp at ha;subst ha
     exact .sl (n:=0) (fun _ _=>.nilIface) trivial (by simp) (by simp) (by simp) (by simp)
    exact AJ _ _ (by split<;>rfl)
  ·have lN:cap≠l:=by omega
   exact key _ (by rw[if_neg lN,Nat.add_assoc]) (.inl lN)
theorem Ei {R:aw}{ty elem:TypeId}{ei:TypeInfo}{b off len c l hh:Nat}{lo hi:Option X}{lQ oe:Option Value}{vx:Value}(hu:P.underlying ty=some (.slice elem))(kD:P.info? elem=some ei)
  (h:SR w0 g H w) (hx:VR g w (.eH b off len ei.size c) vx) (og:OV g w R lo lQ)
  (zl:OV g w R hi oe) (hl:fX R 0 lo=some l) (uk:fX R len hi=some hh) (h1:l≤hh) (h2:hh≤c) :
  cf P w0 g H w (Instr.sliceAt ty vx lQ oe none) (if l<c∨l=0 then .eH b (off+l*ei.size) (hh-l) ei.size (c-l)else .sl .arg []) H:=by
 cases hx with
 | @eH _ _ _ _ r o q cap hφ hc hq =>
  have:=iC (P:=P) (w:=w) (g:=g) (Jh:=true) (cap:=c) og zl hl uk (fun _=>rfl) h1 (by omega)
  have hr:(Instr.sliceAt ty (.slice (some ⟨r,o+off,none⟩) len c) lQ oe none).run P w=.ok (.slice (some (if c=l then⟨r,o+off,none⟩else⟨r,o+off+l*ei.size,none⟩)) (hh-l) (c-l)) w:=by
   simp[Instr.sliceAt,run_underlying hu,Instr.slice,this,sizeOf,bA kD,du]
   split<;>rfl
  refine cf.same h hr ?_
  by_cases h3:l<c∨l=0
  case neg =>
   rw[if_neg h3]
   have e0:hh-l=0:=by omega
   have AJ:∀(a:Addr) (c:Nat),a.spot=none→VR g w (.sl .arg []) (.slice (some a) 0 c):=by
    intro a c ha
    obtain⟨ab,ao,as⟩:=a
    simp at ha;subst ha
    exact .sl (n:=0) (fun _ _=>.nilIface) trivial (by simp) (by simp) (by simp) (by simp)
   rw[e0]
   exact AJ _ _ (by split<;>rfl)
  rw[if_pos h3]
  have e:(if c=l then(⟨r,o+off,none⟩:Addr)else⟨r,o+off+l*ei.size,none⟩)=⟨r,o+(off+l*ei.size),none⟩:=by
   split
   ·have:l=0:=by omega
    subst this;simp
   ·simp[Nat.add_assoc]
  rw[e]
  refine .eH hφ (by omega) ?_
  rw[←hq]
  have:l*ei.size+(c-l)*ei.size=c*ei.size:=by rw[←Nat.add_mul];congr 1;omega
  omega
end
section
variable {P:Program} {w0 w:World} {g:Ctx} {H:af}
def nI (P:Program)(ty:TypeId):KT→Bool
 | .sc t=>match P.underlying ty with|some d=>Je t d|none=>false
 | .st ks=>match P.underlying ty with|some (.struct fs)=>flat P fs.toList 0 ks&&!P.stoodInHeld ty|_=>false
theorem Ej {e:Bool}{n:Nat}{ty:TypeId}{d:TypeDesc}{k:xc}{v:Value}(hu:P.underlying ty=some d)(hk:Je k d=true):(Instr.checkKey e (n+1) ty v).run P w=.ok () w:=by
 rw[Instr.checkKey];simp only[Sem.run_bind,run_underlying hu,Result.andThen_ok]
 cases k<;>cases d<;>simp[Je]at hk<;>cases v<;>rfl
theorem oC {e:Bool}{n:Nat}:∀(fs:List Field) (off:Nat) (ks:List xc) (cs:List T) (xs:Array Value),flat P fs off ks=true→cs.length=ks.length →
  (∀(i:Nat) (t:T),cs[i]?=some t→∃v,xs[off+i]?=some v∧VR g w t v) →
  (forIn fs PUnit.unit (fun f _=>if f.name≠"_" then (do let x ← part f.type xs f.offset;Instr.checkKey e (n+1) f.type x;pure (ForInStep.yield PUnit.unit))
   else pure (ForInStep.yield PUnit.unit)):Sem PUnit).run P w=.ok PUnit.unit w
 | [],off,ks,cs,xs,hf,hl,hc=>by simp
 | f :: fs,off,ks,cs,xs,hf,hl,hc=>by
  cases ks with
  | nil=>simp[flat]at hf
  | cons k ks =>
   cases cs with
   | nil=>simp at hl
   | cons c cs =>
    simp only[flat,Bool.and_eq_true,beq_iff_eq,bne_iff_ne]at hf
    obtain⟨⟨⟨Ck,Ee⟩,Jf⟩,fY⟩:=hf
    cases hu:P.underlying f.type with
    | none=>simp[hu]at Jf
    | some de =>
     simp[hu]at Jf
     obtain⟨va,DD,zj⟩:=hc 0 c rfl
     simp only[Nat.add_zero]at DD
     have ih:=oC (e:=e) (n:=n) fs (off+1) ks cs xs fY (by simpa using hl) (fun i t hi=>by have:=hc (i+1) t (by simpa using hi);rwa[show off+1+i=off+(i+1) by omega])
     simp only[List.forIn_cons,Sem.run_bind,Ee,ne_eq,not_false_eq_true,if_true,Ck,pA hu Jf DD,Result.andThen_ok,Ej hu Jf,Sem.run_pure]
     exact ih
theorem rJ:∀(ks:List xc) (cs:List T),gk ks cs=true→cs.length=ks.length
 | [],[],_=>rfl
 | _ :: ks,_ :: cs,h=>by simp[gk]at h;simp[rJ ks cs h.2]
 | [],_ :: _,h=>by simp[gk]at h
 | _ :: _,[],h=>by simp[gk]at h
theorem lR {e:Bool}{ty:TypeId}{kt:KT}{k:T}{vk:Value}(kF:nI P ty kt=true)(hk:VR g w k vk)(h:k.jC kt=true):(Instr.checkKey e 10000 ty vk).run P w=.ok () w:=by
 cases kt with
 | sc t =>
  simp only[nI]at kF
  cases hu:P.underlying ty with
  | none=>simp[hu]at kF
  | some d=>simp[hu]at kF;exact Ej (n:=9999) hu kF
 | st ks =>
  simp only[nI]at kF
  cases hu:P.underlying ty with
  | none=>simp[hu]at kF
  | some d =>
   cases d<;>simp[hu]at kF
   rename_i fs
   cases k<;>simp[T.jC]at h
   rename_i cs
   obtain⟨xs,rfl,Jg,_⟩:=hk.gz
   show(Instr.checkKey e (9998+1+1) ty _).run P w=_
   rw[Instr.checkKey];simp only[Sem.run_bind,run_underlying hu,Result.andThen_ok]
   rw[←Array.forIn_toList]
   rw[oC (g:=g) (e:=e) (n:=9998) fs.toList 0 ks cs xs.toArray kF.1 (rJ _ _ h) (fun i t hi=>by simpa using Jg.gA i t hi)]
   rfl
theorem Ek {n:Nat}{ty:TypeId}{kt:KT}{a b:T}{va vb:Value}{r:Bool}(kF:nI P ty kt=true)(ha:VR g w a va)(hb:VR g w b vb)(hk:a.jC kt=true)(he:iK a b=some r) :
  (Op.equalIn (n+1+1) ty va vb).run P w=.ok r w:=by
 cases kt with
 | sc t =>
  simp only[nI]at kF
  cases hu:P.underlying ty with
  | none=>simp[hu]at kF
  | some d =>
   simp[hu]at kF
   have DG:jD a b=some r:=by
    cases a<;>simp[T.jC]at hk<;>(first|exact he|(cases t<;>simp[T.zf]at hk))
   exact AH hu kF ha hb hk DG
 | st ks =>
  simp only[nI]at kF
  cases hu:P.underlying ty with
  | none=>simp[hu]at kF
  | some d =>
   cases d<;>simp[hu]at kF
   rename_i fs
   cases a<;>simp[T.jC]at hk
   rename_i cs
   cases b<;>simp[iK,jD]at he
   rename_i ds
   obtain⟨xs,rfl,Jg,_⟩:=ha.gz
   obtain⟨ys,rfl,Sc,_⟩:=hb.gz
   exact ui hu kF.1 (by simpa using kF.2) hk Jg Sc he n
theorem zm {t:xc}{d:TypeDesc}{a b:T}{va vb:Value}{r:Bool}(hd:Je t d=true)(ha:VR g w a va)(hb:VR g w b vb)(hk:a.zf t=true)(he:iK a b=some r):Instr.sameNow d va vb=some r:=by
 cases t<;>cases d<;>simp[Je]at hd<;>cases ha<;>simp[T.zf]at hk<;>cases hb<;>simp[iK,jD]at he
 ·obtain⟨rfl,rfl⟩:=he;simp[Instr.sameNow]
 ·subst he;simp[Instr.sameNow,jQ,beq_toListBytes]
 ·subst he;simp[Instr.sameNow]
theorem vH {ty:TypeId}{kt:KT}{k:T}{vk:Value}(kF:nI P ty kt=true)(hk:VR g w k vk)(h:k.jC kt=true)(es:List (T×T))(ay:List MapEntry)(hl:ay.length=es.length)
  (hh:∀(i:Nat) (e:T×T) (m:MapEntry),es[i]?=some e→ay[i]?=some m→VR g w e.1 m.key∧VR g w e.2 m.val) {r:Option Nat} (hr:dt k es=some r) :
  (Instr.findKey ty vk ay).run P w=.ok (r.bind fun i=>(ay[i]?).map fun m=>(i,m.val)) w:=by
 cases kt with
 | sc t =>
  simp only[nI]at kF
  cases hu:P.underlying ty with
  | none=>simp[hu]at kF
  | some d =>
   simp[hu]at kF
   have key:∀(es:List (T×T)) (ay:List MapEntry) (j:Nat) (r:Option Nat),ay.length=es.length→(∀(i:Nat) (e:T×T) (m:MapEntry),es[i]?=some e→ay[i]?=some m→VR g w e.1 m.key∧VR g w e.2 m.val) →
     dt k es=some r→Instr.findNow d vk ay j=some (r.bind fun i=>(ay[i]?).map fun m=>(j+i,m.val)):=by
    intro es
    induction es with
    | nil =>
     intro ay j r hl _ hr
     simp[dt]at hr;subst hr
     cases ay with
     | nil=>rfl
     | cons _ _=>simp at hl
    | cons e es ih =>
     intro ay j r hl hh hr
     cases ay with
     | nil=>simp at hl
     | cons m ay =>
      have h0:=hh 0 e m rfl rfl
      simp only[dt]at hr
      cases he:iK k e.1 with
      | none=>simp[he]at hr
      | some b =>
       have hs:=zm kF hk h0.1 h he
       cases b with
       | true=>simp[he]at hr;subst hr;simp[Instr.findNow,hs]
       | false =>
        simp only[he,Option.map_eq_some_iff]at hr
        obtain⟨r',h1,rfl⟩:=hr
        simp only[Instr.findNow,hs]
        rw[ih ay (j+1) r' (by simpa using hl) (fun i e' m' a b=>hh (i+1) e' m' (by simpa using a) (by simpa using b)) h1]
        cases r' with
        | none=>rfl
        | some i=>simp;cases ay[i]?<;>simp;omega
   have:=key es ay 0 r hl hh hr
   simp only[Instr.findKey,Sem.run_bind,run_underlying hu,Result.andThen_ok,this,Sem.run_pure]
   simp
 | st ks =>
  have YI:=kF
  simp only[nI]at kF
  cases hu:P.underlying ty with
  | none=>simp[hu]at kF
  | some d =>
   cases d<;>simp[hu]at kF
   rename_i fs
   have key:∀(es:List (T×T)) (ay:List MapEntry) (j:Nat) (r:Option Nat),ay.length=es.length→(∀(i:Nat) (e:T×T) (m:MapEntry),es[i]?=some e→ay[i]?=some m→VR g w e.1 m.key∧VR g w e.2 m.val) →
     dt k es=some r→(Instr.findAsking ty vk ay j).run P w=.ok (r.bind fun i=>(ay[i]?).map fun m=>(j+i,m.val)) w:=by
    intro es
    induction es with
    | nil =>
     intro ay j r hl _ hr
     simp[dt]at hr;subst hr
     cases ay with
     | nil=>rfl
     | cons _ _=>simp at hl
    | cons e es ih =>
     intro ay j r hl hh hr
     cases ay with
     | nil=>simp at hl
     | cons m ay =>
      have h0:=hh 0 e m rfl rfl
      simp only[dt]at hr
      cases he:iK k e.1 with
      | none=>simp[he]at hr
      | some b =>
       have hs:(Op.equal ty vk m.key).run P w=.ok b w:=Ek (n:=9998) YI hk h0.1 h he
       cases b with
       | true=>simp[he]at hr;subst hr;simp[Instr.findAsking,hs]
       | false =>
        simp only[he,Option.map_eq_some_iff]at hr
        obtain⟨r',h1,rfl⟩:=hr
        simp only[Instr.findAsking,Sem.run_bind,hs,Result.andThen_ok,Bool.false_eq_true,if_false]
        rw[ih ay (j+1) r' (by simpa using hl) (fun i e' m' a b=>hh (i+1) e' m' (by simpa using a) (by simpa using b)) h1]
        cases r' with
        | none=>rfl
        | some i=>simp;cases ay[i]?<;>simp;omega
   have lr:=key es ay 0 r hl hh hr
   cases ay with
   | nil =>
    simp only[Instr.findKey,Sem.run_bind,run_underlying hu,Result.andThen_ok,Instr.findNow,Sem.run_pure]
    exact lr
   | cons m ay =>
    have:Instr.findNow (.struct fs) vk (m :: ay) 0=none:=by simp[Instr.findNow,Instr.sameNow]
    simp only[Instr.findKey,Sem.run_bind,run_underlying hu,Result.andThen_ok,this]
    simpa using lr
def El (w:World)(vm:Value)(ay:Array MapEntry):Prop:=(vm=.map none∧ay=#[])∨∃r c,vm=.map (some r)∧w.heap[r]?=some (.map ay c)
theorem Cn {m:T}{vm:Value}{es:List (T×T)}(h:SR w0 g H w)(hm:VR g w m vm)(jg:hO H m=some es):∃ay,El w vm ay∧eI g w es ay:=by
 cases hm<;>simp[hO]at jg
 ·subst jg;exact⟨#[],.inl ⟨rfl,rfl⟩,⟨rfl,by simp⟩⟩
 ·rename_i b r' o q hφ
  cases hb:H[b]? with
  | none=>simp[hb]at jg
  | some y =>
   cases y<;>simp[hb]at jg
   ·subst jg
    obtain⟨_,ay,c,h2,h3,_⟩:=h.eG b _ hb r' o q hφ
    exact⟨ay,.inr ⟨r',c,rfl,h2⟩,h3⟩
   ·subst jg
    obtain⟨r2,o',q',lK,_,ay,c,h2,h3,_⟩:=h.eG b _ hb
    rw[hφ]at lK;cases lK
    exact⟨ay,.inr ⟨r',c,rfl,h2⟩,h3⟩
theorem rK {ty key elem:TypeId}{ei:TypeInfo}{zv vm vk:Value}{ok:Bool}{ay:Array MapEntry}{r:Option (Nat×Value)}(hu:P.underlying ty=some (.map key elem))(hi:P.info? elem=some ei)(hz:ei.zero=some zv)
  (he:El w vm ay) (hc:(Instr.checkKey ay.isEmpty 10000 key vk).run P w=.ok () w) (hf:(Instr.findKey key vk ay.toList).run P w=.ok r w) :
  (Instr.lookup ty vm vk ok).run P w=.ok (match r with|some (_,v)=>if ok then .tuple #[v,.bool true]else v|none=>if ok then .tuple #[zv,.bool false]else zv) w:=by
 rcases he with⟨rfl,rfl⟩|⟨rr,c,rfl,h2⟩
 ·have qX:(Instr.findKey key vk []).run P w=.ok r w:=hf
  have gB:(Instr.checkKey true 10000 key vk).run P w=.ok () w:=hc
  simp only[Instr.lookup,Sem.run_bind,run_underlying hu,Result.andThen_ok]
  cases r with
  | none=>simp[gB,qX,zeroValue,bA hi,hz]
  | some x=>obtain⟨i,v⟩:=x;simp[gB,qX]
 ·simp only[Instr.lookup,Sem.run_bind,run_underlying hu,Result.andThen_ok]
  cases r with
  | none=>simp[getObj,Sem.run,h2,hc,hf,zeroValue,bA hi,hz]
  | some x=>obtain⟨i,v⟩:=x;simp[getObj,Sem.run,h2,hc,hf]
theorem AK {ty key elem:TypeId}{ei:TypeInfo}{zv:Value}{kt:KT}{z m k t:T}{ok:Bool}{vm vk:Value}{es:List (T×T)}{r:Option Nat}(hu:P.underlying ty=some (.map key elem))(hi:P.info? elem=some ei)(hz:ei.zero=some zv)(qY:nH zv=some z)
  (kF:nI P key kt=true) (h:SR w0 g H w) (hm:VR g w m vm) (hk:VR g w k vk) (zn:k.jC kt=true)
  (jg:hO H m=some es) (hr:dt k es=some r)
  (ht:(match r with|some i=>(es[i]?).map fun e=>if ok then T.bJ [e.2,.bool true]else e.2|none=>some (if ok then .bJ [z,.bool false]else z))=some t):cf P w0 g H w (Instr.lookup ty vm vk ok) t H:=by
 obtain⟨ay,MN,hE⟩:=Cn h hm jg
 have hf:=vH kF hk zn es ay.toList (by simpa using hE.1) (fun i e m a b=>hE.2 i e m a (by simpa using b)) hr
 have hc:=lR (e:=ay.isEmpty) kF hk zn
 have zvr:VR g w z zv:=mF qY
 cases r with
 | none =>
  simp only[Option.some.injEq]at ht
  subst ht
  refine cf.same h (rK hu hi hz MN hc hf) ?_
  cases ok
  ·exact zvr
  ·exact bL.bJ (bL.cons zvr (bL.cons (.bool _) bL.nil))
 | some i =>
  cases he:es[i]? with
  | none=>simp[he]at ht
  | some e =>
   have al:i<ay.size:=by rw[hE.1];exact(List.getElem?_eq_some_iff.1 he).1
   have rL:ay[i]?=some ay[i]:=Array.getElem?_eq_getElem al
   have hv:=(hE.2 i e _ he rL).2
   simp only[he,Option.map_some,Option.some.injEq]at ht
   subst ht
   have hx:((some i:Option Nat).bind fun i=>(ay.toList[i]?).map fun m=>(i,m.val))=some (i,ay[i].val):=by simp[al]
   rw[hx]at hf
   refine cf.same h (rK hu hi hz MN hc hf) ?_
   cases ok
   ·exact hv
   ·exact bL.bJ (bL.cons hv (bL.cons (.bool _) bL.nil))
theorem JU {vs:List T}{i:Nat}{t:T}{vx:Value}(h:SR w0 g H w)(hx:VR g w (.bJ vs) vx)(he:vs[i]?=some t):cf P w0 g H w (Instr.extract vx i) t H:=by
 obtain⟨xs,rfl,Jg⟩:=hx.JD
 obtain⟨v,h1,h2⟩:=Jg.gA i t he
 exact cf.same h (by simp at h1;simp[Instr.extract,h1]) h2
theorem Oj {rt:TypeId}{jt:Array TypeId}{k k':IntKind}{a b:Int}{vx vy:Value}(h:SR w0 g H w)(hx:VR g w (.int k a) vx)(hy:VR g w (.int k' b) vy):cf P w0 g H w (Builtin.min_ jt rt #[vx,vy]) (.int k (if b<a then b else a)) H:=by
 cases hx;cases hy
 exact cf.same h (by simp[Builtin.min_,Builtin.min2]) (.int _ _)
theorem Ol {rt:TypeId}{jt:Array TypeId}{k k':IntKind}{a b:Int}{vx vy:Value}(h:SR w0 g H w)(hx:VR g w (.int k a) vx)(hy:VR g w (.int k' b) vy):cf P w0 g H w (Builtin.max_ jt rt #[vx,vy]) (.int k (if b>a then b else a)) H:=by
 cases hx;cases hy
 exact cf.same h (by simp[Builtin.max_,Builtin.max2]) (.int _ _)
end
section
variable {P:Program} {w0 w:World} {g:Ctx} {H:af}
def hY:Nat→Nat→Prop:=fun _ _=>False
def ju:Nat→Prop:=fun _=>False
theorem Tr.drew (w:World):Tr w w.drew hY ju:=⟨Nat.le_refl _,fun _ _ _ _=>rfl,fun _ _ _=>rfl,fun _ _ _ h=>h,fun _ _ _ _ h=>h,fun _ _ _ _=>rfl,fun _ _ h=>dC h,rfl,rfl⟩
theorem Tr.refl (w:World):Tr w w hY ju:=⟨Nat.le_refl _,fun _ _ _ _=>rfl,fun _ _ _=>rfl,fun _ _ _ h=>h,fun _ _ _ _ h=>h,fun _ _ _ _=>rfl,fun _ _ h=>dC h,rfl,rfl⟩
theorem Tr.alloc (w:World)(o:Obj)(ho:fL o=true∨∃c t,o=.cells c t):Tr w (w.alloc o) hY ju where
 size:=by simp
 cell r j hr _:=World.cell?_alloc_lt w o ⟨r,j,none⟩ hr
 qV r j hr:=World.frozen?_alloc_old w o ⟨r,j,none⟩ (Nat.ne_of_lt hr)
 dV r j hr h:=by rw[World.cell?_alloc_lt w o ⟨r,j,none⟩ hr];exact h
 maps r x _ _ h:=by
  have hr:r<w.heap.size:=(Array.getElem?_eq_some_iff.1 h).1
  simp only[World.alloc,Array.getElem?_push];rw[if_neg (by omega)];exact h
 kz r hr _ _:=by simp only[World.alloc,Array.getElem?_push];rw[if_neg (by omega)]
 zi r j hr:=by
  by_cases e:r=w.heap.size
  ·subst e
   have e1:(w.alloc o).heap[w.heap.size]?=some o:=by show(w.heap.push o)[w.heap.size]?=some o;simp
   unfold World.frozen?
   rw[e1]
   rcases ho with ho|⟨c,t,rfl⟩
   ·cases o<;>simp[fL]at ho<;>rfl
   ·simp
  ·rw[World.frozen?_alloc_old w o ⟨r,j,none⟩ e];exact dC hr
 env:=⟨rfl,rfl⟩
theorem Tr.trans {w w' SY:World}{S:Nat→Nat→Prop}{M:Nat→Prop}(h:Tr w w' S M)(h':Tr w' SY S M):Tr w SY S M where
 size:=Nat.le_trans h.size h'.size
 cell r j hr hs:=(h'.cell r j (Nat.lt_of_lt_of_le hr h.size) hs).trans (h.cell r j hr hs)
 qV r j hr:=(h'.qV r j (Nat.lt_of_lt_of_le hr h.size)).trans (h.qV r j hr)
 dV r j hr hs:=h'.dV r j (Nat.lt_of_lt_of_le hr h.size) (h.dV r j hr hs)
 maps r x hm hs h1:=h'.maps r x hm hs (h.maps r x hm hs h1)
 kz r hr hm hs:=(h'.kz r (Nat.lt_of_lt_of_le hr h.size) hm hs).trans (h.kz r hr hm hs)
 zi r j hr:=by
  by_cases hw:r<w'.heap.size
  ·rw[h'.qV r j hw];exact h.zi r j hr
  ·exact h'.zi r j (by omega)
 env:=⟨h'.env.1.trans h.env.1,h'.env.2.trans h.env.2⟩
theorem cJ (r:Nat):∀(vs:List Value) (o:Nat) (w:World) (r' j:Nat),¬(r'=r∧o≤j∧j<o+vs.length)→(w.setCells r o vs).cell? ⟨r',j,none⟩=w.cell? ⟨r',j,none⟩
 | [],_,_,_,_,_=>rfl
 | v :: vs,o,w,r',j,h=>by
  rw[World.setCells,cJ r vs (o+1) _ r' j (by simp at h ⊢;omega),World.cell?_setCell_other]
  intro e
  simp at e
  exact h ⟨e.1.symm,by omega,by simp;omega⟩
theorem cM (r:Nat):∀(vs:List Value) (o:Nat) (w:World),(∀j,o≤j→j<o+vs.length→(w.cell? ⟨r,j,none⟩).isSome=true)→∀(i:Nat) (v:Value),vs[i]?=some v→(w.setCells r o vs).cell? ⟨r,o+i,none⟩=some v
 | [],_,_,_,i,v,h=>by simp at h
 | u :: vs,o,w,hs,i,v,h=>by
  rw[World.setCells]
  cases i with
  | zero =>
   simp at h;subst h
   rw[cJ r vs (o+1) _ r _ (by omega)]
   obtain⟨x,hx⟩:=Option.isSome_iff_exists.1 (hs o (Nat.le_refl _) (by simp))
   exact World.cell?_setCell_same w ⟨r,o,none⟩ u hx
  | succ i =>
   have:=cM r vs (o+1) (w.setCell ⟨r,o,none⟩ u) (fun j h1 h2=>by
    rw[World.cell?_setCell_other _ _ _ _ (by simp;omega)]
    exact hs j (by omega) (by simp;omega)) i v (by simpa using h)
   rwa[show o+(i+1)=o+1+i by omega]
theorem dR (r:Nat):∀(vs:List Value) (o:Nat) (w:World),(w.setCells r o vs).heap.size=w.heap.size
 | [],_,_=>rfl
 | v :: vs,o,w=>by rw[World.setCells,dR r vs,World.size_setCell]
theorem nr (r:Nat):∀(vs:List Value) (o:Nat) (w:World) (r':Nat),r'≠r→(w.setCells r o vs).heap[r']?=w.heap[r']?
 | [],_,_,_,_=>rfl
 | v :: vs,o,w,r',h=>by
  rw[World.setCells,nr r vs _ _ r' h]
  simp only[World.setCell,Array.getElem?_modify];rw[if_neg (fun e=>h e.symm)]
theorem oD (r:Nat):∀(vs:List Value) (o:Nat) (w:World) (r':Nat) (x:Obj),fL x=true→w.heap[r']?=some x→(w.setCells r o vs).heap[r']?=some x
 | [],_,_,_,_,_,h=>h
 | v :: vs,o,w,r',x,hs,h=>by
  rw[World.setCells]
  refine oD r vs _ _ r' x hs ?_
  simp only[World.setCell,Array.getElem?_modify]
  split
  ·rename_i e;rw[h];cases x<;>simp[fL]at hs<;>rfl
  ·exact h
theorem oE (r:Nat):∀(vs:List Value) (o:Nat) (w:World),(w.setCells r o vs).os=w.os∧(w.setCells r o vs).output=w.output
 | [],_,_=>⟨rfl,rfl⟩
 | v :: vs,o,w=>by rw[World.setCells];exact oE r vs _ _
def xw (r o n:Nat):Nat→Nat→Prop:=fun r' j=>r'=r∧o≤j∧j<o+n
theorem Tr.setCells (w:World)(r o:Nat)(vs:List Value)(hs:∀j,o≤j→j<o+vs.length→(w.cell? ⟨r,j,none⟩).isSome=true):Tr w (w.setCells r o vs) (xw r o vs.length) ju where
 size:=by rw[dR];exact Nat.le_refl _
 cell r' j _ h:=cJ r vs o w r' j h
 qV r' j _:=World.frozen?_setCells r vs o w _
 dV r' j _ h:=by
  by_cases e:r'=r∧o≤j∧j<o+vs.length
  ·obtain⟨rfl,e1,e2⟩:=e
   have hi:j-o<vs.length:=by omega
   have:=cM r' vs o w hs (j-o) _ (List.getElem?_eq_getElem hi)
   rw[show o+(j-o)=j by omega]at this
   rw[this];rfl
  ·rw[cJ r vs o w r' j e];exact h
 maps r' x _ hs h:=oD r vs o w r' x hs h
 kz r' _ _ h:=by
  by_cases e:r'=r
  ·cases vs with
   | nil=>rfl
   | cons v vs=>exact absurd ⟨e,Nat.le_refl _,by simp⟩ (h o)
  ·exact nr r vs o w r' e
 zi r' j hr:=by rw[World.frozen?_setCells];exact dC hr
 env:=oE r vs o w
def Ctx.row (g:Ctx)(r:Nat)(f:Nat→Ow):Ctx:={ g with κ:=fun r' j=>if r'=r then f j else g.κ r' j }
def Ctx.at (g:Ctx)(b:Nat)(x:Nat×Nat×Nat):Ctx:={ g with φ:=fun b'=>if b'=b then some x else g.φ b' }
def Ctx.tok (g:Ctx)(t e:Nat)(x:Nat×Nat×Nat):Ctx:={ g with π:=fun t' e'=>if t'=t∧e'=e then some x else g.π t' e' }
theorem Le.iM {w':World}{g':Ctx}{S:Nat→Nat→Prop}{M:Nat→Prop}(tr:Tr w w' S M)(hφ:∀b x,g.φ b=some x→g'.φ b=some x)(hκ:∀r o,g.κ r o=.nf→g'.κ r o=.nf)(hπ:∀t e x,g.π t e=some x→g'.π t e=some x)
  (hS:∀r j,S r j→g.κ r j≠.nf) (hck:g'.ck=g.ck:=by rfl):Le g w g' w' :=
 ⟨hφ,hκ,hπ,fun r o v hk hc=>by rw[tr.cell r o (kC hc) (fun hs=>hS r o hs hk)];exact hc,hck⟩
theorem SR.nf {c:Array Value}{ty:TypeId}{w1:World}(h:SR w0 g H w)(tr:Tr w w1 hY ju)(hz:w1.heap.size=w.heap.size) :
  Le g w (g.row w.heap.size fun _=>.nf) (w1.alloc (.cells c ty))∧SR w0 (g.row w.heap.size fun _=>.nf) H (w1.alloc (.cells c ty))∧Fr g H (g.row w.heap.size fun _=>.nf) H ∧
  ∀(j:Nat) (v:Value),c[j]?=some v→Cf (g.row w.heap.size fun _=>.nf) (w1.alloc (.cells c ty)) w.heap.size j v:=by
 have xy:=tr.trans (Tr.alloc w1 (.cells c ty) (.inr ⟨_,_,rfl⟩))
 have le:Le g w (g.row w.heap.size fun _=>.nf) (w1.alloc (.cells c ty)):=Le.iM xy (fun _ _ h=>h) (fun r o hk=>by simp only[Ctx.row];split;rfl;exact hk) (fun _ _ _ h=>h) (fun _ _ hs=>hs.elim)
 refine⟨le,?_,⟨Nat.le_refl _,fun _ _ a _ b=>⟨a,b⟩⟩,fun j v hj=>⟨by simp[Ctx.row],?_⟩⟩
 ·refine h.step (fun _=>False) xy le (fun _ _ hs=>hs.elim) (fun _ hm=>hm.elim) (fun r o hr=>?_) h.tE h.jF (fun _ _ _=>rfl) (fun r j b _=>?_) (fun _ _ _ _=>rfl) (fun b x hx=>.inl ⟨fun hf=>hf,hx⟩)
  ·simp at hr
   simp only[Ctx.row];rw[if_neg (by omega)];exact h.fresh r o (by omega)
  ·have bQ:∀ow,g.κ r j=ow→ow≠.free→r≠w.heap.size:=by rintro ow e hn rfl;exact hn (e▸h.fresh _ j (Nat.le_refl _))
   constructor<;>intro e<;>simp only[Ctx.row]<;>rw[if_neg (bQ _ e (by simp))]<;>exact e
 ·rw[←hz,World.cell?_alloc_new];exact hj
theorem SR.mut {c:Array Value}{ty:TypeId}{w1:World}{H':af}{b:Nat}{cs:List T}(h:SR w0 g H w)(tr:Tr w w1 hY ju)(hz:w1.heap.size=w.heap.size)
  (hb:H'[b]?=some (.cells cs)) (hn:g.φ b=none) (hH:∀b' x,b'≠b→H'[b']?=some x→H[b']?=some x∨x=.dead) (hl:H.length≤H'.length) (ar:∀b' x,H[b']?=some x→(∀e,x≠.tok e)→g.φ b'=none→b'≠b→H'[b']?=some x)
  (hc:∀(i:Nat) (t:T),cs[i]?=some t→t.one=true∧∃v,c[i]?=some v∧VR g w t v) :
  Le g w ((g.row w.heap.size fun _=>.mut b).at b (w.heap.size,0,c.size)) (w1.alloc (.cells c ty))∧SR w0 ((g.row w.heap.size fun _=>.mut b).at b (w.heap.size,0,c.size)) H' (w1.alloc (.cells c ty)) ∧
  (∀b' x,H[b']?=some x→(∀e,x≠.tok e)→g.φ b'=none→b'≠b→H'[b']?=some x∧((g.row w.heap.size fun _=>.mut b).at b (w.heap.size,0,c.size)).φ b'=none):=by
 have xy:=tr.trans (Tr.alloc w1 (.cells c ty) (.inr ⟨_,_,rfl⟩))
 have bQ:∀r j ow,g.κ r j=ow→ow≠.free→r≠w.heap.size:=by rintro r j ow e hn rfl;exact hn (e▸h.fresh _ j (Nat.le_refl _))
 have le:Le g w ((g.row w.heap.size fun _=>.mut b).at b (w.heap.size,0,c.size)) (w1.alloc (.cells c ty)):=Le.iM xy
  (fun b' x hx=>by simp only[Ctx.at,Ctx.row];split;rename_i e;subst e;rw[hn]at hx;simp at hx;exact hx)
  (fun r o hk=>by simp only[Ctx.row,Ctx.at];rw[if_neg (bQ r o _ hk (by simp))];exact hk) (fun _ _ _ h=>h) (fun _ _ hs=>hs.elim)
 refine⟨le,?_,fun b' x a a' d e=>⟨ar b' x a a' d e,by simp only[Ctx.at,Ctx.row];rw[if_neg e];exact d⟩⟩
 refine h.step (fun b'=>b'=b) xy le (fun _ _ hs=>hs.elim) (fun _ hm=>hm.elim) (fun r o hr=>?_) (fun b' x hx=>?_) (fun t e x hx=>Nat.lt_of_lt_of_le (h.jF t e x hx) hl) (fun b' _ iB=>?_) (fun r j b' iB=>?_) (fun _ _ _ _=>rfl) (fun b' x hx=>?_)
 ·simp at hr
  simp only[Ctx.row,Ctx.at];rw[if_neg (by omega)];exact h.fresh r o (by omega)
 ·simp only[Ctx.at,Ctx.row]at hx
  split at hx
  ·rename_i e;subst e;exact(List.getElem?_eq_some_iff.1 hb).1
  ·exact Nat.lt_of_lt_of_le (h.tE b' x hx) hl
 ·simp only[Ctx.at,Ctx.row];rw[if_neg iB]
 ·constructor<;>intro e<;>simp only[Ctx.row,Ctx.at]<;>rw[if_neg (bQ r j _ e (by simp))]<;>exact e
 ·by_cases e:b'=b
  ·subst e
   right
   rw[hb]at hx;cases hx
   intro r o q hq
   simp only[Ctx.at,if_true,Option.some.injEq,Prod.mk.injEq]at hq
   obtain⟨rfl,rfl,rfl⟩:=hq
   have tG:∀i,i<cs.length→i<c.size:=fun i hi=>by
    obtain⟨_,v,hv,_⟩:=hc i _ (List.getElem?_eq_getElem hi)
    exact(Array.getElem?_eq_some_iff.1 hv).1
   refine⟨?_,fun j _ hj=>⟨by simp[Ctx.row,Ctx.at],by rw[←hz];simp,by rw[←hz,World.cell?_alloc_new,Array.getElem?_eq_getElem hj];rfl⟩,fun i t hi=>?_⟩
   ·cases lN:cs.length with
    | zero=>omega
    | succ n=>have:=tG n (by omega);omega
   ·obtain⟨h1,v,h2,h3⟩:=hc i t hi
    exact⟨h1,v,by rw[←hz,World.cell?_alloc_new,Nat.zero_add];exact h2,h3.mono le⟩
  ·rcases hH b' x e hx with jU|rfl
   ·exact .inl ⟨e,jU⟩
   ·right;trivial
theorem fM (H:af)(x:B):(H++[x])[H.length]?=some x:=by simp
theorem dg {H:af}{x y:B}{b:Nat}(hb:b≠H.length)(h:(H++[x])[b]?=some y):H[b]?=some y:=by
 rw[List.getElem?_append]at h
 split at h
 ·exact h
 ·rename_i al
  have:b-H.length≠0:=by omega
  cases hk:b-H.length with
  | zero=>omega
  | succ n=>simp[hk]at h
theorem jv {H:af}{x y:B}{b:Nat}(h:H[b]?=some y):(H++[x])[b]?=some y:=by
 rw[List.getElem?_append_left (List.getElem?_eq_some_iff.1 h).1];exact h
theorem SR.JV (h:SR w0 g H w){b:Nat}(hb:H.length≤b):g.φ b=none:=by
 cases e:g.φ b with
 | none=>rfl
 | some x=>have:=h.tE b x e;omega
theorem SR.YJ (h:SR w0 g H w){t e:Nat}(hb:H.length≤t):g.π t e=none:=by
 cases e':g.π t e with
 | none=>rfl
 | some x=>have:=h.jF t e x e';omega
theorem SR.iD {c:Array Value}{ty:TypeId}{w1:World}{cs:List T}(h:SR w0 g H w)(tr:Tr w w1 hY ju)(hz:w1.heap.size=w.heap.size)
  (hc:∀(i:Nat) (t:T),cs[i]?=some t→t.one=true∧∃v,c[i]?=some v∧VR g w t v) :
  ∃g',Le g w g' (w1.alloc (.cells c ty))∧SR w0 g' (H++[.cells cs]) (w1.alloc (.cells c ty))∧Fr g H g' (H++[.cells cs])∧g'.φ H.length=some (w.heap.size,0,c.size):=by
 obtain⟨le,sr,fr⟩:=h.mut (H':=H++[.cells cs]) (b:=H.length) (ty:=ty) tr hz (fM _ _) (h.JV (Nat.le_refl _)) (fun b' x e hx=>.inl (dg e hx)) (by simp) (fun b' x hx _ _ _=>jv hx) hc
 exact⟨_,le,sr,⟨by simp,fun b x a a' d=>fr b x a a' d (by have:=(List.getElem?_eq_some_iff.1 a).1;omega)⟩,by simp[Ctx.at]⟩
theorem bL.Om {cs:List T}{vs:List Value}(h:bL g w cs vs)(ho:cD cs):∀(i:Nat) (t:T),cs[i]?=some t→t.one=true∧∃v,vs.toArray[i]?=some v∧VR g w t v :=
 fun i t hi=>⟨ho t (List.mem_of_getElem? hi),h.gA i t hi⟩
theorem Co {ty:TypeId}{i:TypeInfo}{zv:Value}{z:List T}(hi:P.info? ty=some i)(hz:i.zero=some zv)(hc:fy zv.cells.toList=some z)(h:SR w0 g H w) :
  cf P w0 g H w (Instr.alloc ty true (.tuple #[])) (.ptr H.length 0) (H++[.cells z]):=by
 obtain⟨hv,ho⟩:=dQ (g:=g) (w:=w) _ _ hc
 obtain⟨g',le,sr,fr,hφ⟩:=h.iD (c:=zv.cells) (ty:=ty) (w1:=w) (Tr.refl w) rfl (by simpa using hv.Om ho)
 refine⟨.pointer (some ⟨w.heap.size,0,none⟩),_,g',?_,le,sr,.ptr hφ,fr⟩
 simp[Instr.alloc,zeroValue,bA hi,hz,newVar,newRow]
theorem JW {ty:TypeId}{x:T}{cs:List T}{vx:Value}(h:SR w0 g H w)(hx:VR g w x vx)(hc:x.cells?=some cs) :
  cf P w0 g H w (Instr.box ty vx) (.ptr H.length 0) (H++[.cells cs]):=by
 obtain⟨hv,ho⟩:=jT hx hc
 obtain⟨g',le,sr,fr,hφ⟩:=h.iD (c:=vx.cells) (ty:=ty) (w1:=w) (Tr.refl w) rfl (by simpa using hv.Om ho)
 refine⟨.pointer (some ⟨w.heap.size,0,none⟩),_,g',?_,le,sr,.ptr hφ,fr⟩
 simp[Instr.box,newVar,newRow]
theorem SR.Em {b:Nat}{H':af}(h:SR w0 g H w)(hb:H'[b]?=some (.map []))(hn:g.φ b=none)(hH:∀b' x,b'≠b→H'[b']?=some x→H[b']?=some x)(hl:H.length≤H'.length) :
  Le g w ((g.row w.heap.size fun _=>.mut b).at b (w.heap.size,0,0)) (w.alloc (.map #[] 0))∧SR w0 ((g.row w.heap.size fun _=>.mut b).at b (w.heap.size,0,0)) H' (w.alloc (.map #[] 0)):=by
 have xy:=Tr.alloc w (.map #[] 0) (.inl rfl)
 have bQ:∀r j ow,g.κ r j=ow→ow≠.free→r≠w.heap.size:=by rintro r j ow e hn rfl;exact hn (e▸h.fresh _ j (Nat.le_refl _))
 have le:Le g w ((g.row w.heap.size fun _=>.mut b).at b (w.heap.size,0,0)) (w.alloc (.map #[] 0)):=Le.iM xy
  (fun b' x hx=>by simp only[Ctx.at,Ctx.row];split;rename_i e;subst e;rw[hn]at hx;simp at hx;exact hx)
  (fun r o hk=>by simp only[Ctx.row,Ctx.at];rw[if_neg (bQ r o _ hk (by simp))];exact hk) (fun _ _ _ h=>h) (fun _ _ hs=>hs.elim)
 refine⟨le,?_⟩
 refine h.step (fun b'=>b'=b) xy le (fun _ _ hs=>hs.elim) (fun _ hm=>hm.elim) (fun r o hr=>?_) (fun b' x hx=>?_) (fun t e x hx=>Nat.lt_of_lt_of_le (h.jF t e x hx) hl) (fun b' _ iB=>?_) (fun r j b' iB=>?_) (fun _ _ _ _=>rfl) (fun b' x hx=>?_)
 ·simp at hr
  simp only[Ctx.row,Ctx.at];rw[if_neg (by omega)];exact h.fresh r o (by omega)
 ·simp only[Ctx.at,Ctx.row]at hx
  split at hx
  ·rename_i e;subst e;exact(List.getElem?_eq_some_iff.1 hb).1
  ·exact Nat.lt_of_lt_of_le (h.tE b' x hx) hl
 ·simp only[Ctx.at,Ctx.row];rw[if_neg iB]
 ·constructor<;>intro e<;>simp only[Ctx.row,Ctx.at]<;>rw[if_neg (bQ r j _ e (by simp))]<;>exact e
 ·by_cases e:b'=b
  ·subst e
   right
   rw[hb]at hx;cases hx
   intro r o q hq
   simp only[Ctx.at,if_true,Option.some.injEq,Prod.mk.injEq]at hq
   obtain⟨rfl,rfl,rfl⟩:=hq
   exact⟨by simp[Ctx.row,Ctx.at],#[],0,by show(w.heap.push _)[w.heap.size]?=_;simp,⟨rfl,by simp⟩,by simp[fK]⟩
  ·exact .inl ⟨e,hH b' x e hx⟩
theorem JX {ty:TypeId}(h:SR w0 g H w):cf P w0 g H w (Instr.makeMap ty none) (.map H.length) (H++[.map []]):=by
 obtain⟨le,sr⟩:=h.Em (H':=H++[.map []]) (b:=H.length) (fM _ _) (h.JV (Nat.le_refl _)) (fun b' x e hx=>dg e hx) (by simp)
 refine⟨.map (some w.heap.size),_,_,?_,le,sr,.map (r:=w.heap.size) (o:=0) (q:=0) (by simp[Ctx.at]),by simp,fun b x a _ d=>⟨jv a,?_⟩⟩
 ·simp[Instr.makeMap]
 ·have:=(List.getElem?_eq_some_iff.1 a).1
  simp only[Ctx.at,Ctx.row];rw[if_neg (by omega)];exact d
end
section
variable {P:Program} {w0 w:World} {g:Ctx} {H:af}
theorem eZ {H:af}{b b':Nat}{x y:B}(al:b<H.length)(h:(H.set b x)[b']?=some y):(b'=b∧y=x)∨(b'≠b∧H[b']?=some y):=by
 rw[List.getElem?_set]at h
 split at h
 ·rename_i e;subst e;simp[al]at h;exact .inl ⟨rfl,h.symm⟩
 ·rename_i e;exact .inr ⟨fun e'=>e e'.symm,h⟩
theorem fN {H:af}{b b':Nat}{x y:B}(h:H[b']?=some y)(bQ:b'≠b):(H.set b x)[b']?=some y:=by
 rw[List.getElem?_set,if_neg (fun e=>bQ e.symm)];exact h
theorem SR.store {b off r o q:Nat}{cs ts:List T}{vs:List Value}(h:SR w0 g H w)(hb:H[b]?=some (.cells cs))(hφ:g.φ b=some (r,o,q))(hle:off+ts.length≤cs.length)(hv:bL g w ts vs)(ho:cD ts) :
  Le g w g (w.setCells r (o+off) vs)∧SR w0 g (H.set b (.cells (cs.take off++ts++cs.drop (off+ts.length)))) (w.setCells r (o+off) vs):=by
 have lx:b<H.length:=(List.getElem?_eq_some_iff.1 hb).1
 obtain⟨h1,h2,h3⟩:=h.eG b _ hb r o q hφ
 have hl:=hv.1
 have hs:∀j,o+off≤j→j<o+off+vs.length→(w.cell? ⟨r,j,none⟩).isSome=true:=fun j a c=>(h2 j (by omega) (by omega)).2.2
 have tr:=Tr.setCells w r (o+off) vs hs
 have hS:∀r' j,xw r (o+off) vs.length r' j→g.κ r' j=.mut b:=by
  rintro r' j⟨rfl,a,c⟩;exact(h2 j (by omega) (by omega)).1
 have le:Le g w g (w.setCells r (o+off) vs):=Le.iM tr (fun _ _ h=>h) (fun _ _ h=>h) (fun _ _ _ h=>h) (fun r' j fI e=>by rw[hS r' j fI]at e;cases e)
 refine⟨le,h.step (fun b'=>b'=b) tr le (fun r' j fI=>.inr (.inl ⟨b,hS r' j fI,rfl⟩)) (fun _ hm=>hm.elim) (fun r' j hr=>h.fresh r' j (by rwa[dR]at hr)) (fun b' x hx=>by rw[List.length_set];exact h.tE b' x hx)
  (fun t e x hx=>by rw[List.length_set];exact h.jF t e x hx) (fun _ _ _=>rfl) (fun _ _ _ _=>⟨id,id⟩) (fun _ _ _ _=>rfl) (fun b' x hx=>?_)⟩
 rcases eZ lx hx with⟨rfl,rfl⟩|⟨bQ,jU⟩
 ·right
  intro r' o' q' lK
  rw[hφ]at lK;cases lK
  have hlen:(cs.take off++ts++cs.drop (off+ts.length)).length=cs.length:=by simp;omega
  refine⟨by rw[hlen];exact h1,fun j a c=>⟨(h2 j a c).1,by rw[World.frozen?_setCells];exact(h2 j a c).2.1,tr.dV r j ?_ (h2 j a c).2.2⟩,fun i t hi=>?_⟩
  ·obtain⟨x,hx⟩:=Option.isSome_iff_exists.1 (h2 j a c).2.2;exact kC hx
  ·have kD:i<cs.length:=by rw[←hlen];exact(List.getElem?_eq_some_iff.1 hi).1
   by_cases iP:off≤i∧i<off+ts.length
   ·have ht:ts[i-off]?=some t:=by
     rw[List.append_assoc,List.getElem?_append_right (by simp;omega),List.getElem?_append_left (by simp;omega)]at hi
     rw[←hi];congr 1;simp;omega
    have al:i-off<vs.length:=by omega
    refine⟨ho t (List.mem_of_getElem? ht),vs[i-off],?_,(hv.2 _ t _ ht (List.getElem?_eq_getElem al)).mono le⟩
    have:=cM r vs (o+off) w hs (i-off) _ (List.getElem?_eq_getElem al)
    rwa[show o+off+(i-off)=o+i by omega]at this
   ·have ht:cs[i]?=some t:=by
     by_cases al:i<off
     ·rw[List.append_assoc,List.getElem?_append_left (by simp;omega),List.getElem?_take,if_pos al]at hi;exact hi
     ·rw[List.getElem?_append_right (by simp;omega),List.getElem?_drop]at hi
      rw[←hi];congr 1;simp;omega
    obtain⟨a,v,On,Oo⟩:=h3 i t ht
    refine⟨a,v,?_,Oo.mono le⟩
    rw[cJ r vs (o+off) w r (o+i) (by omega)];exact On
 ·exact .inl ⟨bQ,jU⟩
theorem vI {ty:TypeId}{i:TypeInfo}{v:Value}{r o:Nat}(hi:P.info? ty=some i)(a7:v.cells.size=i.size)(hc:∀j,j<v.cells.toList.length→(w.cell? ⟨r,o+j,none⟩).isSome=true)
  (hf:∀j,j<v.cells.toList.length→w.frozen? ⟨r,o+j,none⟩=false) (h1:∀x∈v.cells.toList,x.oneCell'=true) :
  (storeVar ty ⟨r,o,none⟩ v).run P w=.ok () (w.setCells r o v.cells.toList):=by
 have:=run_storeCells_cells (P:=P) r o v.cells.toList 0 w (by simpa using hc) (by simpa using hf) h1
 simp[storeVar,sizeOf,bA hi,a7]
 simpa using this
theorem Oq {ty:TypeId}{i:TypeInfo}{p x:T}{vp vx:Value}{ts:List T}{H':af}(hi:P.info? ty=some i)(h:SR w0 g H w)(hp:VR g w p vp)(hx:VR g w x vx)(hc:x.cells?=some ts)(hn:ts.length=i.size)(he:SV H ts p=some H') :
  ∃w' g',(Instr.storeAt ty vp vx).run P w=.ok () w'∧Le g w g' w'∧SR w0 g' H' w'∧Fr g H g' H':=by
 obtain⟨hv,ho⟩:=jT hx hc
 cases hp<;>simp only[SV]at he<;>(try (simp at he;done))
 rename_i b off r o q hφ
 cases hb:H[b]? with
 | none=>simp[hb]at he
 | some y =>
  cases y<;>simp only[hb]at he<;>(try (simp at he;done))
  rename_i cs
  split at he
  ·rename_i hle
   simp only[Option.some.injEq]at he;subst he
   have lx:b<H.length:=(List.getElem?_eq_some_iff.1 hb).1
   obtain⟨h1,h2,h3⟩:=h.eG b _ hb r o q hφ
   obtain⟨le,sr⟩:=h.store hb hφ hle hv ho
   have hl:=hv.1
   refine⟨_,g,?_,le,sr,by simp,fun b' y' a _ d=>⟨fN a ?_,d⟩⟩
   ·have:=vI (P:=P) (w:=w) (ty:=ty) (r:=r) (o:=o+off) hi (v:=vx) (by rw[←hn,hl];simp) (fun j hj=>(h2 _ (by omega) (by omega)).2.2) (fun j hj=>(h2 _ (by omega) (by omega)).2.1) (hv.js ho)
    simpa[Instr.storeAt,Instr.sureAddr]using this
   ·rintro rfl;rw[hφ]at d;cases d
  ·simp at he
def World.cn (w:World)(r:Nat)(o:Obj):World:={ w with heap:=w.heap.setIfInBounds r o }
theorem rM (w:World){r r':Nat}(o:Obj)(h:r'≠r):(World.cn w r o).heap[r']?=w.heap[r']?:=by
 unfold World.cn;simp only[Array.getElem?_setIfInBounds];rw[if_neg (fun e=>h e.symm)]
theorem rN (w:World){r:Nat}(o:Obj)(h:r<w.heap.size):(World.cn w r o).heap[r]?=some o:=by
 unfold World.cn;simp[h]
theorem xz (w:World){r:Nat}{x x':Obj}(hs:fL x=true)(fI:fL x'=true)(h:w.heap[r]?=some x)(a:Addr):(World.cn w r x').cell? a=w.cell? a:=by
 have al:r<w.heap.size:=(Array.getElem?_eq_some_iff.1 h).1
 unfold World.cell?
 by_cases e:a.block=r
 ·rw[e,rN w _ al,h]
  cases x<;>simp[fL]at hs<;>cases x'<;>simp[fL]at fI<;>rfl
 ·rw[rM w _ e]
theorem rO (w:World){r:Nat}{x x':Obj}(hs:fL x=true)(fI:fL x'=true)(h:w.heap[r]?=some x)(a:Addr):(World.cn w r x').frozen? a=w.frozen? a:=by
 have al:r<w.heap.size:=(Array.getElem?_eq_some_iff.1 h).1
 unfold World.frozen?
 by_cases e:a.block=r
 ·rw[e,rN w _ al,h]
  cases x<;>simp[fL]at hs<;>cases x'<;>simp[fL]at fI<;>rfl
 ·rw[rM w _ e]
theorem Tr.zo (w:World)(r:Nat){x x':Obj}(hs:fL x=true)(fI:fL x'=true)(h:w.heap[r]?=some x):Tr w (World.cn w r x') hY (fun r'=>r'=r) where
 size:=by simp[World.cn]
 cell r' j _ _:=xz w hs fI h _
 qV r' j _:=rO w hs fI h _
 dV r' j _ hk:=by rw[xz w hs fI h];exact hk
 maps r' x hm _ hk:=by rw[rM w _ hm];exact hk
 kz r' _ hm _:=rM w _ hm
 zi r' j hr:=by rw[rO w hs fI h];exact dC hr
 env:=⟨rfl,rfl⟩
theorem SR.vJ {b r o q:Nat}{es S7:List (T×T)}{ay rP:Array MapEntry}{c c':Nat}(h:SR w0 g H w)(hb:H[b]?=some (.map es))(hφ:g.φ b=some (r,o,q))(hr:w.heap[r]?=some (.map ay c))(hE:eI g w S7 rP)(hB:fK rP c') :
  Le g w g (World.cn w r (.map rP c'))∧SR w0 g (H.set b (.map S7)) (World.cn w r (.map rP c'))∧Fr g H g (H.set b (.map S7)):=by
 have lx:b<H.length:=(List.getElem?_eq_some_iff.1 hb).1
 obtain⟨h1,_⟩:=h.eG b _ hb r o q hφ
 have tr:=Tr.zo w r (x:=.map ay c) (x':=.map rP c') rfl rfl hr
 have le:Le g w g (World.cn w r (.map rP c')):=Le.iM tr (fun _ _ h=>h) (fun _ _ h=>h) (fun _ _ _ h=>h) (fun _ _ hs=>hs.elim)
 refine⟨le,h.step (fun b'=>b'=b) tr le (fun _ _ hs=>hs.elim) (fun r' hm=>⟨b,by rw[hm];exact h1,rfl⟩) (fun r' j pt=>h.fresh r' j (by simpa[World.cn]using pt)) (fun b' x hx=>by rw[List.length_set];exact h.tE b' x hx)
  (fun t e x hx=>by rw[List.length_set];exact h.jF t e x hx) (fun _ _ _=>rfl) (fun _ _ _ _=>⟨id,id⟩) (fun _ _ _ _=>rfl) (fun b' x hx=>?_),by simp,fun b' x a _ d=>⟨fN a (by rintro rfl;rw[hφ]at d;cases d),d⟩⟩
 rcases eZ lx hx with⟨rfl,rfl⟩|⟨bQ,jU⟩
 ·right
  intro r' o' q' lK
  rw[hφ]at lK;cases lK
  refine⟨h1,rP,c',?_,hE.mono le,hB⟩
  have al:r<w.heap.size:=(Array.getElem?_eq_some_iff.1 hr).1
  simp[World.cn,al]
 ·exact .inl ⟨bQ,jU⟩
theorem pD {n:Nat}{a b:T}{va vb:Value}(ha:VR g w a va)(hb:VR g w b vb)(he:jD a b=some true):Instr.sameBits n va vb=true:=by
 cases ha<;>cases hb<;>simp[jD]at he
 ·obtain⟨rfl,rfl⟩:=he;cases n<;>simp[Instr.sameBits]
 ·subst he;cases n<;>simp[Instr.sameBits]
 ·rename_i s1 s2
  have e:(s1==s2)=true:=by rw[beq_toListBytes];exact he
  cases n<;>exact e
theorem oF {n:Nat}:∀(as bs:List T) (xs ys:List Value),bL g w as xs→bL g w bs ys→cj as bs=some true→xs.length=ys.length∧(xs.zip ys).all (fun (x,y)=>Instr.sameBits n x y)=true
 | [],[],xs,ys,hx,hy,_=>by
  have a:=hx.1;have b:=hy.1
  simp at a b
  have e1:xs=[]:=List.eq_nil_of_length_eq_zero (by omega)
  have e2:ys=[]:=List.eq_nil_of_length_eq_zero (by omega)
  subst e1;subst e2;simp
 | a :: as,b :: bs,xs,ys,hx,hy,he=>by
  cases xs with
  | nil=>have:=hx.1;simp at this
  | cons x xs =>
   cases ys with
   | nil=>have:=hy.1;simp at this
   | cons y ys =>
    simp only[cj]at he
    cases e1:jD a b with
    | none=>simp[e1]at he
    | some r1 =>
     cases e2:cj as bs with
     | none=>simp[e1,e2]at he
     | some r2 =>
      simp[e1,e2]at he
      obtain⟨rfl,rfl⟩:=he
      obtain⟨h1,h2⟩:=oF as bs xs ys hx.tail hy.tail e2
      exact⟨by simp[h1],by simp[pD hx.head hy.head e1];simpa using h2⟩
 | [],_ :: _,_,_,_,_,he=>by simp[cj]at he
 | _ :: _,[],_,_,_,_,he=>by simp[cj]at he
theorem rQ {a b:T}{va vb:Value}(ha:VR g w a va)(hb:VR g w b vb)(he:iK a b=some true):Instr.sameBits 10000 va vb=true:=by
 by_cases h:∃as bs,a=.agg as∧b=.agg bs
 ·obtain⟨as,bs,rfl,rfl⟩:=h
  obtain⟨xs,rfl,hx,_⟩:=ha.gz
  obtain⟨ys,rfl,hy,_⟩:=hb.gz
  obtain⟨h1,h2⟩:=oF (n:=9999) as bs xs ys hx hy he
  show Instr.sameBits (9999+1) _ _=true
  rw[Instr.sameBits]
  simp[h1]
  simpa using h2
 ·have:jD a b=some true:=by
   cases a<;>first|exact he|(cases b<;>first|exact he|exact absurd ⟨_,_,rfl,rfl⟩ h)
  exact pD ha hb this
theorem rR:∀(k:T) (es:List (T×T)) (i:Nat),dt k es=some (some i)→∃e,es[i]?=some e∧iK k e.1=some true
 | k,[],i,h=>by simp[dt]at h
 | k,e :: es,i,h=>by
  simp only[dt]at h
  cases hk:iK k e.1 with
  | none=>simp[hk]at h
  | some b =>
   cases b with
   | true=>simp[hk]at h;subst h;exact⟨e,rfl,hk⟩
   | false =>
    simp only[hk,Option.map_eq_some_iff]at h
    obtain⟨r,h1,h2⟩:=h
    cases r with
    | none=>simp at h2
    | some j =>
     simp at h2;subst h2
     obtain⟨e',h3,h4⟩:=rR k es j h1
     exact⟨e',by simpa using h3,h4⟩
theorem eI.set {es:List (T×T)}{ay:Array MapEntry}(h:eI g w es ay){k v:T}{vk vv:Value}(hk:VR g w k vk)(hv:VR g w v vv)(i:Nat) :
  eI g w (es.set i (k,v)) (ay.modify i fun e=>{ e with key:=vk,val:=vv }):=by
 refine⟨by simp[h.1],fun j e m a b=>?_⟩
 rw[List.getElem?_set]at a
 rw[Array.getElem?_modify]at b
 split at a
 ·rename_i e'
  rw[if_pos e']at b
  subst e'
  split at a
  ·simp at a b
   obtain⟨m',_,rfl⟩:=b
   subst a
   exact⟨hk,hv⟩
  ·cases a
 ·rename_i e'
  rw[if_neg e']at b
  exact h.2 j e m a b
theorem eI.push {es:List (T×T)}{ay:Array MapEntry}(h:eI g w es ay){k v:T}{vk vv:Value}(hk:VR g w k vk)(hv:VR g w v vv)(c:Nat) :
  eI g w (es++[(k,v)]) (ay.push { key:=vk,val:=vv,born:=c }):=by
 refine⟨by simp[h.1],fun j e m a b=>?_⟩
 rw[Array.getElem?_push,h.1]at b
 rw[List.getElem?_append]at a
 split at b
 ·rename_i e'
  subst e'
  simp at a b
  subst a;subst b
  exact⟨hk,hv⟩
 ·rename_i e'
  split at a
  ·exact h.2 j e m a b
  ·have:j<ay.size:=(Array.getElem?_eq_some_iff.1 b).1
   rw[h.1]at this;omega
theorem eI.erase {es:List (T×T)}{ay:Array MapEntry}(h:eI g w es ay)(i:Nat)(hi:i<es.length):eI g w (es.eraseIdx i) (ay.eraseIdxIfInBounds i):=by
 have a7:i<ay.size:=by rw[h.1];exact hi
 have e1:(ay.eraseIdxIfInBounds i).toList=ay.toList.eraseIdx i:=by simp[Array.eraseIdxIfInBounds,a7]
 refine⟨by rw[←Array.length_toList,e1,List.length_eraseIdx,List.length_eraseIdx,if_pos hi,Array.length_toList,if_pos a7,h.1],fun j e m a b=>?_⟩
 have b':(ay.toList.eraseIdx i)[j]?=some m:=by rw[←e1,Array.getElem?_toList];exact b
 rw[List.getElem?_eraseIdx]at a b'
 split at a
 ·rename_i al;rw[if_pos al]at b';exact h.2 j e m a (by simpa using b')
 ·rename_i al;rw[if_neg al]at b';exact h.2 _ e m a (by simpa using b')
theorem fK.set {ay:Array MapEntry}{c:Nat}(h:fK ay c)(k v:Value)(i:Nat):fK (ay.modify i fun e=>{ e with key:=k,val:=v }) c:=by
 have e:(ay.modify i fun e=>{ e with key:=k,val:=v }).toList.map (·.born)=ay.toList.map (·.born):=by
  apply List.ext_getElem?
  intro j
  simp only[List.getElem?_map,Array.getElem?_toList,Array.getElem?_modify]
  split
  ·cases ay[j]?<;>rfl
  ·rfl
 refine⟨fun m hm=>?_,by rw[e];exact h.2⟩
 have:=List.mem_map_of_mem (f:=fun m:MapEntry=>m.born) hm
 rw[e]at this
 obtain⟨m',h1,h2⟩:=List.mem_map.1 this
 rw[←h2];exact h.1 m' h1
theorem fK.push {ay:Array MapEntry}{c:Nat}(h:fK ay c)(k v:Value):fK (ay.push { key:=k,val:=v,born:=c }) (c+1):=by
 refine⟨fun m hm=>?_,?_⟩
 ·rw[Array.toList_push,List.mem_append]at hm
  rcases hm with hm|hm
  ·exact Nat.lt_succ_of_lt (h.1 m hm)
  ·simp at hm;subst hm;exact Nat.lt_succ_self _
 ·rw[Array.toList_push,List.map_append,List.nodup_append]
  refine⟨h.2,by simp,fun a ha b hb=>?_⟩
  simp at hb
  subst hb
  obtain⟨m,hm,rfl⟩:=List.mem_map.1 ha
  exact Nat.ne_of_lt (h.1 m hm)
theorem fK.erase {ay:Array MapEntry}{c:Nat}(h:fK ay c)(i:Nat):fK (ay.eraseIdxIfInBounds i) c:=by
 by_cases a7:i<ay.size
 ·have e1:(ay.eraseIdxIfInBounds i).toList=ay.toList.eraseIdx i:=by simp[Array.eraseIdxIfInBounds,a7]
  exact⟨fun m hm=>h.1 m (by rw[e1]at hm;exact(List.eraseIdx_sublist _ _).subset hm),by rw[e1];exact h.2.sublist ((List.eraseIdx_sublist _ _).map _)⟩
 ·have e1:ay.eraseIdxIfInBounds i=ay:=by simp[Array.eraseIdxIfInBounds,a7]
  rw[e1];exact h
theorem JY {ty key elem:TypeId}{kt:KT}{b:Nat}{k v:T}{vm vk vv:Value}{es:List (T×T)}{r:Option Nat}(hu:P.underlying ty=some (.map key elem))(kF:nI P key kt=true)
  (h:SR w0 g H w) (hm:VR g w (.map b) vm) (hk:VR g w k vk) (hv:VR g w v vv) (zn:k.jC kt=true) (hb:H[b]?=some (.map es)) (hr:dt k es=some r) :
  ∃w' g',(Instr.mapUpdate ty vm vk vv).run P w=.ok () w'∧Le g w g' w'∧SR w0 g' (H.set b (.map (match r with|some i=>es.set i (k,v)|none=>es++[(k,v)]))) w'∧Fr g H g' (H.set b (.map (match r with|some i=>es.set i (k,v)|none=>es++[(k,v)]))):=by
 cases hm with
 | @map _ rr o q hφ =>
  obtain⟨h1,ay,c,h2,hE,hB⟩:=h.eG b _ hb rr o q hφ
  have hf:=vH kF hk zn es ay.toList (by simpa using hE.1) (fun i e m a b=>hE.2 i e m a (by simpa using b)) hr
  have hc:=lR (P:=P) (w:=w) (e:=false) kF hk zn
  cases r with
  | none =>
   obtain⟨le,sr,fr⟩:=h.vJ (c':=c+1) hb hφ h2 (hE.push hk hv c) (hB.push _ _)
   refine⟨_,g,?_,le,sr,fr⟩
   simp at hf
   simp[Instr.mapUpdate,run_underlying hu,getObj,setObj,Sem.run,h2,hc,hf,World.cn]
  | some i =>
   obtain⟨e,he,MO⟩:=rR k es i hr
   have al:i<ay.size:=by rw[hE.1];exact(List.getElem?_eq_some_iff.1 he).1
   have rL:ay[i]?=some ay[i]:=Array.getElem?_eq_getElem al
   have bO:=(hE.2 i e _ he rL).1
   have XI:=rQ hk bO MO
   have YK:Instr.sameBits 10000 ay[i].key vk=true:=by
    have:iK e.1 k=some true∨True:=.inr trivial
    by_cases h':∃as bs,k=.agg as∧e.1=.agg bs
    ·obtain⟨as,bs,rfl,e2⟩:=h'
     have eqc:∀(as bs:List T),cj as bs=some true→cj bs as=some true:=by
      intro as
      induction as with
      | nil=>intro bs Ji;cases bs<;>simp[cj]at Ji ⊢
      | cons a as ih =>
       intro bs Ji
       cases bs with
       | nil=>simp[cj]at Ji
       | cons b bs =>
        simp only[cj]at Ji ⊢
        cases e1:jD a b with
        | none=>simp[e1]at Ji
        | some r1 =>
         cases e2:cj as bs with
         | none=>simp[e1,e2]at Ji
         | some r2 =>
          simp[e1,e2]at Ji
          obtain⟨rfl,rfl⟩:=Ji
          have:jD b a=some true:=by
           cases a<;>cases b<;>simp[jD,jQ]at e1 ⊢
           ·exact⟨e1.1.symm,e1.2.symm⟩
           ·exact e1.symm
           ·exact e1.symm
          simp[this,ih bs e2]
     rw[e2]at bO MO
     exact rQ bO hk (eqc _ _ MO)
    ·have e1:jD k e.1=some true:=by
      generalize e.1=d at *
      cases k<;>first|exact MO|(cases d<;>first|exact MO|exact absurd ⟨_,_,rfl,rfl⟩ h')
     have e2:jD e.1 k=some true:=by
      generalize e.1=d at *
      cases k<;>cases d<;>simp[jD,jQ]at e1 ⊢
      ·exact⟨e1.1.symm,e1.2.symm⟩
      ·exact e1.symm
      ·exact e1.symm
     exact pD bO hk e2
   obtain⟨le,sr,fr⟩:=h.vJ (c':=c) hb hφ h2 (hE.set hk hv i) (hB.set _ _ i)
   refine⟨_,g,?_,le,sr,fr⟩
   have hx:((some i:Option Nat).bind fun i=>(ay.toList[i]?).map fun m=>(i,m.val))=some (i,ay[i].val):=by simp[al]
   rw[hx]at hf
   have En:(Instr.keyThatStays ay[i].key vk).run P w=.ok vk w:=by simp[Instr.keyThatStays,YK]
   simp[Instr.mapUpdate,run_underlying hu,getObj,setObj,Sem.run,h2,hc,hf,al,En,World.cn]
theorem JZ {ty key elem xt rt:TypeId}{kt:KT}{b:Nat}{k:T}{vm vk:Value}{es:List (T×T)}{r:Option Nat}(hu:P.underlying ty=some (.map key elem))(kF:nI P key kt=true)
  (h:SR w0 g H w) (hm:VR g w (.map b) vm) (hk:VR g w k vk) (zn:k.jC kt=true) (hb:H[b]?=some (.map es)) (hr:dt k es=some r) :
  cf P w0 g H w (Builtin.delete_ #[ty,xt] rt #[vm,vk]) (.bJ []) (match r with|some i=>H.set b (.map (es.eraseIdx i))|none=>H):=by
 cases hm with
 | @map _ rr o q hφ =>
  obtain⟨h1,ay,c,h2,hE,hB⟩:=h.eG b _ hb rr o q hφ
  have hf:=vH kF hk zn es ay.toList (by simpa using hE.1) (fun i e m a b=>hE.2 i e m a (by simpa using b)) hr
  have hc:=lR (P:=P) (w:=w) (e:=ay.isEmpty) kF hk zn
  cases r with
  | none =>
   obtain⟨le,sr,fr⟩:=h.vJ (c':=c) hb hφ h2 hE hB
   have hH:H.set b (.map es)=H:=by
    apply List.ext_getElem?
    intro j
    rw[List.getElem?_set]
    split
    ·rename_i e;subst e;rw[if_pos (List.getElem?_eq_some_iff.1 hb).1,hb]
    ·rfl
   rw[hH]at sr fr
   refine⟨.tuple #[],_,g,?_,le,sr,.bJ rfl (by simp),fr⟩
   simp at hf
   simp[Builtin.delete_,run_underlying hu,getObj,setObj,Sem.run,h2,hc,hf,World.cn]
  | some i =>
   obtain⟨e,he,MO⟩:=rR k es i hr
   have XJ:i<es.length:=(List.getElem?_eq_some_iff.1 he).1
   have al:i<ay.size:=by rw[hE.1];exact XJ
   obtain⟨le,sr,fr⟩:=h.vJ (c':=c) hb hφ h2 (hE.erase i XJ) (hB.erase i)
   refine⟨.tuple #[],_,g,?_,le,sr,.bJ rfl (by simp),fr⟩
   have hx:((some i:Option Nat).bind fun i=>(ay.toList[i]?).map fun m=>(i,m.val))=some (i,ay[i].val):=by simp[al]
   rw[hx]at hf
   simp[Builtin.delete_,run_underlying hu,getObj,setObj,Sem.run,h2,hc,hf,World.cn]
end
section
variable {P:Program} {w0 w:World} {g:Ctx} {H:af}
theorem lS {n:Nat}:∀(es:List (List T)),(∀c∈es,c.length=n)→∀(i j:Nat) (c:List T) (t:T),es[i]?=some c→c[j]?=some t→es.flatten[i*n+j]?=some t
 | [],_,i,j,c,t,h,_=>by simp at h
 | d :: es,hn,i,j,c,t,h,hj=>by
  have hd:=hn d (by simp)
  cases i with
  | zero =>
   simp at h;subst h
   have al:j<d.length:=(List.getElem?_eq_some_iff.1 hj).1
   simp only[List.flatten_cons,Nat.zero_mul,Nat.zero_add]
   rw[List.getElem?_append_left al];exact hj
  | succ i =>
   have ih:=lS es (fun c hc=>hn c (by simp[hc])) i j c t (by simpa using h) hj
   simp only[List.flatten_cons]
   rw[List.getElem?_append_right (by rw[hd,Nat.succ_mul];omega)]
   rw[show(i+1)*n+j-d.length=i*n+j by rw[hd,Nat.succ_mul];omega];exact ih
theorem gI {n:Nat}(es:List (List T))(hn:∀c∈es,c.length=n):es.flatten.length=es.length*n:=by
 induction es with
 | nil=>simp
 | cons d es ih=>simp only[List.flatten_cons,List.length_append,List.length_cons,Nat.succ_mul,hn d (by simp),ih (fun c hc=>hn c (by simp[hc]))];omega
theorem VR.vK {k:SK}{es:List (List T)}{r o cap n:Nat}{vs:List Value}(hn:∀c∈es,c.length=n)(hv:bL g w es.flatten vs)(ho:cD es.flatten)(hc:es.length≤cap)(hk:gy g k r o es.length cap n)
  (hi:∀(j:Nat) (v:Value),vs[j]?=some v→Cf g w r (o+j) v):VR g w (.sl k es) (.slice (some ⟨r,o,none⟩) es.length cap):=by
 have key:∀(i j:Nat) (c:List T) (t:T),es[i]?=some c→c[j]?=some t→es.flatten[i*n+j]?=some t∧vs[i*n+j]?=some (vs.getD (i*n+j) undef):=by
  intro i j c t a b
  have h1:=lS es hn i j c t a b
  have al:i*n+j<vs.length:=by rw[←hv.1];exact(List.getElem?_eq_some_iff.1 h1).1
  exact⟨h1,by rw[List.getElem?_eq_getElem al,List.getD_eq_getElem?_getD,List.getElem?_eq_getElem al,Option.getD_some]⟩
 refine .sl (n:=n) (fun i j=>vs.getD (i*n+j) undef) hk hc hn (fun i j c t a b=>?_) (fun i j c t a b=>?_)
 ·obtain⟨h1,h2⟩:=key i j c t a b
  exact⟨ho t (List.mem_of_getElem? h1),by rw[Nat.add_assoc];exact hi _ _ h2⟩
 ·obtain⟨h1,h2⟩:=key i j c t a b
  exact hv.2 _ t _ h1 h2
theorem oG (es:List (List T)):(es.map (·.map T.erase)).flatten=es.flatten.map T.erase:=by
 induction es with
 | nil=>rfl
 | cons c es ih=>simp only[List.map_cons,List.flatten_cons,List.map_append,ih]
theorem bL.erase {ts:List T}{vs:List Value}(h:bL g w ts vs):bL g w (ts.map T.erase) vs :=
 ⟨by simp[h.1],fun i t v a b=>by
  rw[List.getElem?_map]at a
  obtain⟨t',h1,rfl⟩:=Option.map_eq_some_iff.1 a
  exact(h.2 i t' v h1 b).erase⟩
theorem rS {ts:List T}(h:cD ts):cD (ts.map T.erase):=by
 intro t ht
 obtain⟨t',h1,rfl⟩:=List.mem_map.1 ht
 rw[Cg];exact h t' h1
theorem Ot {n:Nat}{y:T}{vy:Value}{new:List (List T)}(h:SR w0 g H w)(hy:VR g w y vy)(he:bq H n y=some new) :
  ∃vs:List Value,(Builtin.lenOf vy).run P w=.ok new.length w∧(Builtin.firstCells n new.length vy).run P w=.ok vs.toArray w∧bL g w new.flatten vs∧cD new.flatten∧(∀c∈new,c.length=n)∧vs.length=new.length*n:=by
 by_cases hs:∃s,y=.str s
 ·obtain⟨s,rfl⟩:=hs
  cases hy
  simp only[bq]at he
  split at he
  ·rename_i hn
   subst hn
   simp at he
   have hlen:new.length=s.size:=by rw[←he,List.length_map];exact Array.length_toList
   have tj:new.flatten=s.data.toList.map fun c=>T.int .u8 c.toNat:=by
    rw[←he]
    generalize s.data.toList=l
    induction l with
    | nil=>rfl
    | cons c l ih=>simp only[List.map_cons,List.flatten_cons,ih];rfl
   have hex:s.extract 0 s.size=s:=by simp
   refine⟨s.data.toList.map fun c=>.int .u8 c.toNat,by simp[Builtin.lenOf,hlen],?_,?_,?_,?_,?_⟩
   ·rw[hlen]
    simp only[Builtin.firstCells,hex,Sem.run_pure]
    congr 1
    apply Array.ext';simp
   ·rw[tj]
    refine⟨by simp,fun i t v a b=>?_⟩
    rw[List.getElem?_map]at a b
    obtain⟨c,h1,rfl⟩:=Option.map_eq_some_iff.1 a
    rw[h1]at b;simp at b;subst b
    exact .int _ _
   ·rw[tj];intro t ht
    obtain⟨c,_,rfl⟩:=List.mem_map.1 ht;rfl
   ·rw[←he];intro c hc
    obtain⟨_,_,rfl⟩:=List.mem_map.1 hc;rfl
   ·rw[hlen,List.length_map,Nat.mul_one];exact Array.length_toList
  ·simp at he
 ·obtain⟨a,cap,vs,rfl,_,h1,h2,h3,h4,h5,h6⟩:=oA h hy he (fun s e=>hs ⟨s,e⟩)
  refine⟨vs,by simp[Builtin.lenOf],?_,h3,h5,h6,h4⟩
  cases a with
  | none =>
   have:=(h1 rfl).1
   subst this
   simp at h4
   simp[Builtin.firstCells,h4]
  | some a =>
   obtain⟨_,h7⟩:=h2 a rfl
   have:=run_loadCells_list (P:=P) w a vs h7
   rw[h4]at this
   simpa[Builtin.firstCells]using this
theorem AL (kx:Nat):∀(k c:Nat),c≤kx+(kx+768)/4→Builtin.growBy kx k c≤kx+(kx+768)/4
 | 0,c,h=>h
 | k+1,c,h=>by
  rw[Builtin.growBy]
  split
  ·exact h
  ·exact AL kx k _ (by omega)
theorem J0 {kx cap:Nat}(h:cap<kx):Builtin.nextslicecap kx cap≤kx+kx/4+512:=by
 unfold Builtin.nextslicecap
 split
 ·omega
 ·split
  ·omega
  ·have:=AL kx 4 cap (by omega)
   omega
theorem AM {kx cap bytes:Nat}(h:cap<kx)(hr:cC kx bytes=true):¬Builtin.nextslicecap kx cap*bytes>2^48:=by
 have h1:=Nat.mul_le_mul_right bytes (J0 h)
 simp only[cC,decide_eq_true_eq]at hr
 omega
structure pE (P:Program)(sT xT elem:TypeId)(ei:TypeInfo)(zv:Value)(n bytes:Nat):Prop where
 hu:P.underlying sT=some (.slice elem)
 hi:P.info? elem=some ei
 hx:∃d,P.underlying xT=some d∧∀k,d≠.int k
 hn:ei.size=n
 hz:ei.zero=some zv
 J1:zv.cells.size=n
 hb:ei.bytes=bytes
 Jj:bytes≠0
theorem nu {sT xT elem rt:TypeId}{ei:TypeInfo}{zv x:Value}{n bytes r o len cap m:Nat}{vs:List Value}(E:pE P sT xT elem ei zv n bytes)(hl:(Builtin.lenOf x).run P w=.ok m w)(hf:(Builtin.firstCells n m x).run P w=.ok vs.toArray w)
  (lT:len+m≤cap) (hs:(storeCells ⟨r,o+len*n,none⟩ vs).run P w=.ok () (w.setCells r (o+len*n) vs)) :
  (Builtin.append_ #[sT,xT] rt #[.slice (some ⟨r,o,none⟩) len cap,x]).run P w=.ok (.slice (some ⟨r,o,none⟩) (len+m) cap) (w.setCells r (o+len*n) vs):=by
 obtain⟨d,h1,h2⟩:=E.hx
 have hz:(match d with | .int _=>true|_=>false)=false:=by cases d<;>first|rfl|exact absurd rfl (h2 _)
 simp[Builtin.append_,run_underlying E.hu,run_underlying h1,hz,sizeOf,bA E.hi,E.hn,hl,hf,lT,du,hs]
theorem lU {sT xT elem rt:TypeId}{ei:TypeInfo}{zv x:Value}{n bytes:Nat}{base:Option Addr}{len cap:Nat}(E:pE P sT xT elem ei zv n bytes)(hl:(Builtin.lenOf x).run P w=.ok 0 w)(hf:(Builtin.firstCells n 0 x).run P w=.ok #[] w)(lT:len≤cap) :
  (Builtin.append_ #[sT,xT] rt #[.slice base len cap,x]).run P w=.ok (.slice base len cap) w:=by
 obtain⟨d,h1,h2⟩:=E.hx
 have hz:(match d with | .int _=>true|_=>false)=false:=by cases d<;>first|rfl|exact absurd rfl (h2 _)
 cases base<;>simp[Builtin.append_,run_underlying E.hu,run_underlying h1,hz,sizeOf,bA E.hi,E.hn,hl,hf,lT,storeCells]
theorem lV (zc:Array Value)(n:Nat):(Builtin.zeroCells zc n).size=n*zc.size:=by simp[Builtin.zeroCells]
theorem iQ {sT xT elem rt:TypeId}{ei:TypeInfo}{zv x:Value}{n bytes:Nat}{base:Option Addr}{len cap m:Nat}{kz vs:List Value}(E:pE P sT xT elem ei zv n bytes)(hl:(Builtin.lenOf x).run P w=.ok m w)(hf:∀w':World,w'.heap=w.heap→(Builtin.firstCells n m x).run P w'=.ok vs.toArray w')
  (ho:∀w':World,w'.heap=w.heap→(Builtin.firstCells n len (.slice base len cap)).run P w'=.ok kz.toArray w') (zp:cap<len+m) (hr:cC (len+m) bytes=true) :
  ∃(fg:Nat) (rest:List Value),len+m≤fg∧rest.length=(fg-(len+m))*n ∧
   (Builtin.append_ #[sT,xT] rt #[.slice base len cap,x]).run P w=.ok (.slice (some ⟨w.heap.size,0,none⟩) (len+m) fg) (w.drew.alloc (.cells (kz++vs++rest).toArray elem)):=by
 obtain⟨d,h1,h2⟩:=E.hx
 have hz:(match d with | .int _=>true|_=>false)=false:=by cases d<;>first|rfl|exact absurd rfl (h2 _)
 have iR:=AM zp hr
 have lT:¬len+m≤cap:=by omega
 let fg:=Question.cut (.appendCap (len+m) cap elem) (w.tape w.drawn (.appendCap (len+m) cap elem))
 have oB:len+m≤fg:=by simp only[fg,Question.cut];omega
 refine⟨fg,(Builtin.zeroCells zv.cells (fg-(len+m))).toList,oB,?_,?_⟩
 ·rw[Array.length_toList,lV,E.J1]
 ·have qX:=hf w.drew rfl
  have nJ:=ho w.drew rfl
  have Jj:ei.bytes≠0:=by rw[E.hb];exact E.Jj
  simp only[gt_iff_lt,Nat.not_lt]at iR
  have Eo:Builtin.nextslicecap (len+m) cap*ei.bytes≤2^48:=by rw[E.hb];exact iR
  simp only[Builtin.append_,List.getElem?_toArray,List.getElem?_cons_zero,List.getElem?_cons_succ,Sem.run_bind,run_underlying E.hu,run_underlying h1,Result.andThen_ok,sizeOf,bA E.hi,E.hn,hl,Sem.run_pure,lT,if_false]
  cases d<;>first
   | exact absurd rfl (h2 _)
   | (simp[hl,lT,bA E.hi,Jj,Eo,Nat.not_lt.2 Eo,run_choose,Question.forced,nJ,qX,zeroValue,E.hz,newRow,fg];congr 2;apply Array.ext';simp)
theorem SR.S8 {t e r p q m:Nat}{vs:List Value}(h:SR w0 g H w)(ht:H[t]?=some (.tok e))(hp:g.π t e=some (r,p,q))(hm:0<m)(lT:p+vs.length≤q) :
  let g':=((g.row r fun j=>if p≤j∧j<p+vs.length then .nf else g.κ r j).tok t (e+m) (r,p+vs.length,q))
  Le g w g' (w.setCells r p vs)∧SR w0 g' (H.set t (.tok (e+m))) (w.setCells r p vs)∧Fr g H g' (H.set t (.tok (e+m)))∧∀(i:Nat) (v:Value),vs[i]?=some v→Cf g' (w.setCells r p vs) r (p+i) v:=by
 intro g'
 have S9:t<H.length:=(List.getElem?_eq_some_iff.1 ht).1
 obtain⟨r1,p1,q1,e1,h2,h3,h4⟩:=h.eG t _ ht
 rw[hp]at e1;cases e1
 have hs:∀j,p≤j→j<p+vs.length→(w.cell? ⟨r,j,none⟩).isSome=true:=fun j a c=>(h3 j a (by omega)).2.2
 have tr:=Tr.setCells w r p vs hs
 have hS:∀r' j,xw r p vs.length r' j→g.κ r' j=.spare t:=by
  rintro r' j⟨rfl,a,c⟩;exact(h3 j a (by omega)).1
 have hκ:∀r' j,g'.κ r' j=if r'=r∧p≤j∧j<p+vs.length then .nf else g.κ r' j:=by
  intro r' j
  simp only[g',Ctx.tok,Ctx.row]
  by_cases e:r'=r
  ·subst e;simp
  ·simp[e]
 have hπ:∀t' e',g'.π t' e'=if t'=t∧e'=e+m then some (r,p+vs.length,q)else g.π t' e':=fun t' e'=>rfl
 have le:Le g w g' (w.setCells r p vs):=Le.iM tr (fun _ _ h=>h) (fun r' o hk=>by rw[hκ];split;rfl;exact hk)
  (fun t' e' x hx=>by rw[hπ];split;rename_i c;obtain⟨rfl,rfl⟩:=c;rw[h4 _ (by omega)]at hx;cases hx;exact hx)
  (fun r' j fI e=>by rw[hS r' j fI]at e;cases e)
 have nf:∀(i:Nat) (v:Value),vs[i]?=some v→Cf g' (w.setCells r p vs) r (p+i) v:=fun i v hi=>by
  have al:i<vs.length:=(List.getElem?_eq_some_iff.1 hi).1
  exact⟨by rw[hκ];simp;omega,cM r vs p w hs i v hi⟩
 refine⟨le,h.step (fun b'=>b'=t) tr le (fun r' j fI=>.inr (.inr ⟨t,hS r' j fI,rfl⟩)) (fun _ hm=>hm.elim) (fun r' j hr=>?_) (fun b' x hx=>by rw[List.length_set];exact h.tE b' x hx)
  (fun t' e' x hx=>?_) (fun _ _ _=>rfl) (fun r' j b' iB=>?_) (fun t' e' _ iB=>?_) (fun b' x hx=>?_),⟨by simp,fun b' x a c d=>⟨fN a (by rintro rfl;rw[ht]at a;cases a;exact absurd rfl (c e)),d⟩⟩,nf⟩
 ·rw[dR]at hr
  rw[hκ];split
  ·rename_i c;obtain⟨rfl,a,c⟩:=c
   have:=h.fresh r' j hr
   rw[(h3 j a (by omega)).1]at this;cases this
  ·exact h.fresh r' j hr
 ·rw[List.length_set]
  rw[hπ]at hx
  split at hx
  ·rename_i c;rw[c.1];exact S9
  ·exact h.jF t' e' x hx
 ·constructor<;>intro e'<;>rw[hκ]<;>split
  ·rename_i c;obtain⟨rfl,a,c⟩:=c;rw[(h3 j a (by omega)).1]at e';cases e'
  ·exact e'
  ·rename_i c;obtain⟨rfl,a,c⟩:=c;rw[(h3 j a (by omega)).1]at e';cases e';exact absurd rfl iB
  ·exact e'
 ·rw[hπ,if_neg (fun c=>iB c.1)]
 ·rcases eZ S9 hx with⟨rfl,rfl⟩|⟨bQ,jU⟩
  ·right
   refine⟨r,p+vs.length,q,by rw[hπ];simp,lT,fun j a c=>⟨?_,?_,?_⟩,fun e' he=>by rw[hπ,if_neg (by omega)];exact h4 e' (by omega)⟩
   ·rw[hκ,if_neg (by omega)];exact(h3 j (by omega) c).1
   ·rw[World.frozen?_setCells];exact(h3 j (by omega) c).2.1
   ·rw[cJ r vs p w r j (by omega)];exact(h3 j (by omega) c).2.2
  ·exact .inl ⟨bQ,jU⟩
theorem SR.Ep {c:Array Value}{ty:TypeId}{w1:World}{H':af}{t e k:Nat}(h:SR w0 g H w)(tr:Tr w w1 hY ju)(hz:w1.heap.size=w.heap.size)(ht:H'[t]?=some (.tok e))(hk:k≤c.size)
  (jl:∀e',e≤e'→g.π t e'=none) (hH:∀b' x,b'≠t→H'[b']?=some x→H[b']?=some x) (hl:H.length≤H'.length) (ar:∀(b':Nat) (x:B),H[b']?=some x→(∀e:Nat,x≠.tok e)→H'[b']?=some x) :
  let g':=((g.row w.heap.size fun j=>if j<k then .nf else .spare t).tok t e (w.heap.size,k,c.size))
  Le g w g' (w1.alloc (.cells c ty))∧SR w0 g' H' (w1.alloc (.cells c ty))∧Fr g H g' H'∧(∀(j:Nat) (v:Value),j<k→c[j]?=some v→Cf g' (w1.alloc (.cells c ty)) w.heap.size j v)∧g'.π t e=some (w.heap.size,k,c.size):=by
 intro g'
 have xy:=tr.trans (Tr.alloc w1 (.cells c ty) (.inr ⟨_,_,rfl⟩))
 have bQ:∀r j ow,g.κ r j=ow→ow≠.free→r≠w.heap.size:=by rintro r j ow e hn rfl;exact hn (e▸h.fresh _ j (Nat.le_refl _))
 have hπ:∀t' e',g'.π t' e'=if t'=t∧e'=e then some (w.heap.size,k,c.size)else g.π t' e':=fun t' e'=>rfl
 have hκ:∀r j,g'.κ r j=if r=w.heap.size then(if j<k then .nf else .spare t)else g.κ r j:=fun r j=>rfl
 have le:Le g w g' (w1.alloc (.cells c ty)):=Le.iM xy (fun _ _ h=>h) (fun r o hk=>by rw[hκ,if_neg (bQ r o _ hk (by simp))];exact hk)
  (fun t' e' x hx=>by rw[hπ];split;rename_i c;obtain⟨rfl,rfl⟩:=c;rw[jl _ (Nat.le_refl _)]at hx;cases hx;exact hx) (fun _ _ hs=>hs.elim)
 refine⟨le,?_,⟨hl,fun b' x a c d=>⟨ar b' x a c,d⟩⟩,fun j v hj hv=>⟨by rw[hκ];simp[hj],by rw[←hz,World.cell?_alloc_new];exact hv⟩,by rw[hπ];simp⟩
 refine h.step (fun b'=>b'=t) xy le (fun _ _ hs=>hs.elim) (fun _ hm=>hm.elim) (fun r o hr=>?_) (fun b' x hx=>Nat.lt_of_lt_of_le (h.tE b' x hx) hl) (fun t' e' x hx=>?_) (fun _ _ _=>rfl) (fun r j b' iB=>?_) (fun t' e' _ iB=>?_) (fun b' x hx=>?_)
 ·simp at hr
  rw[hκ,if_neg (by omega)];exact h.fresh r o (by omega)
 ·rw[hπ]at hx
  split at hx
  ·rename_i c;rw[c.1];exact(List.getElem?_eq_some_iff.1 ht).1
  ·exact Nat.lt_of_lt_of_le (h.jF t' e' x hx) hl
 ·constructor<;>intro e'<;>rw[hκ,if_neg (bQ r j _ e' (by simp))]<;>exact e'
 ·rw[hπ,if_neg (fun c=>iB c.1)]
 ·by_cases e':b'=t
  ·subst e'
   right
   rw[ht]at hx;cases hx
   refine⟨w.heap.size,k,c.size,by rw[hπ];simp,hk,fun j a b=>⟨by rw[hκ];simp;omega,by rw[←hz];simp,by rw[←hz,World.cell?_alloc_new,Array.getElem?_eq_getElem b];rfl⟩,fun J2 he=>by rw[hπ,if_neg (by omega)];exact jl J2 (by omega)⟩
  ·exact .inl ⟨e',hH b' x e' hx⟩
theorem qZ (w:World):Tr w w.drew hY ju:=Tr.drew w
theorem pF {w w':World}(h:w'.heap=w.heap)(a:Addr):w'.cell? a=w.cell? a:=by unfold World.cell?;rw[h]
theorem AN {n:Nat}{y:T}{vy:Value}{new:List (List T)}(h:SR w0 g H w)(hy:VR g w y vy)(he:bq H n y=some new) :
  ∃vs:List Value,(Builtin.lenOf vy).run P w=.ok new.length w∧(∀w':World,w'.heap=w.heap→(Builtin.firstCells n new.length vy).run P w'=.ok vs.toArray w')∧bL g w new.flatten vs∧cD new.flatten∧(∀c∈new,c.length=n)∧vs.length=new.length*n:=by
 obtain⟨vs,h1,h2,h3,h4,h5,h6⟩:=Ot (P:=P) h hy he
 refine⟨vs,h1,fun w' Cp=>?_,h3,h4,h5,h6⟩
 by_cases hs:∃s,y=.str s
 ·obtain⟨s,rfl⟩:=hs
  cases hy
  simp only[Builtin.firstCells,Sem.run_pure,Result.ok.injEq,and_true]at h2 ⊢
  exact h2
 ·obtain⟨a,cap,Sa,rfl,_,k1,k2,k3,k4,k5,k6⟩:=oA h hy he (fun s e=>hs ⟨s,e⟩)
  cases a with
  | none =>
   simp only[Builtin.firstCells,Sem.run_pure,Result.ok.injEq,and_true]at h2 ⊢
   exact h2
  | some a =>
   obtain⟨_,h7⟩:=k2 a rfl
   have a1:=run_loadCells_list (P:=P) w a Sa h7
   have a2:=run_loadCells_list (P:=P) w' a Sa (fun j v hj=>by rw[pF Cp];exact h7 j v hj)
   rw[k4]at a1 a2
   simp only[Builtin.firstCells]at h2 ⊢
   rw[a1]at h2
   rw[a2]
   simp at h2
   rw[h2]
theorem J3 {sT xT elem rt:TypeId}{ei:TypeInfo}{zv:Value}{n bytes:Nat}{k:SK}{es new:List (List T)}{y t:T}{vx vy:Value}{H':af}(E:pE P sT xT elem ei zv n bytes)
  (h:SR w0 g H w) (hx:VR g w (.sl k es) vx) (hy:VR g w y vy) (bB:es.all (·.length==n)=true) (tH:bq H n y=some new) (he:gZ H bytes k es new=some (t,H')) :
  cf P w0 g H w (Builtin.append_ #[sT,xT] rt #[vx,vy]) t H':=by
 obtain⟨vs,s1,s2,s3,s4,s5,s6⟩:=AN (P:=P) h hy tH
 obtain⟨a,cap,kz,rfl,oB,x1,x2,x3,x4,x5,x6⟩:=oA (n:=n) (es:=es) h hx (by simp only[bq,bB,if_true]) (fun s e=>by cases e)
 have oB:es.length≤cap:=oB
 cases jl:new with
 | nil =>
  subst jl
  simp only[gZ,Option.some.injEq,Prod.mk.injEq]at he
  obtain⟨rfl,rfl⟩:=he
  have jk:vs=[]:=by simpa using s6
  subst jk
  exact cf.same h (lU E s1 (s2 w rfl) oB) hx
 | cons c0 YL =>
  have hlen:0<new.length:=by rw[jl];simp
  rw[jl]at he
  simp only[gZ]at he
  rw[←jl]at he
  split at he
  ·rename_i iR
   have ML:∀c∈es++new.map (·.map T.erase),c.length=n:=by
    intro c hc
    rcases List.mem_append.1 hc with hc|hc
    ·exact x6 c hc
    ·obtain⟨c',h1,rfl⟩:=List.mem_map.1 hc
     rw[List.length_map];exact s5 c' h1
   have tj:(es++new.map (·.map T.erase)).flatten=es.flatten++new.flatten.map T.erase:=by rw[List.flatten_append,oG]
   have tn:(es++new.map (·.map T.erase)).length=es.length+new.length:=by simp
   have ho:cD (es++new.map (·.map T.erase)).flatten:=by
    rw[tj];intro t ht
    rcases List.mem_append.1 ht with ht|ht
    ·exact x5 t ht
    ·exact rS s4 t ht
   have og:(kz++vs).length=(es.length+new.length)*n:=by rw[List.length_append,x4,s6,Nat.add_mul]
   have grow:∀(t' e':Nat) (Hn:af),cap<es.length+new.length→Hn[t']?=some (.tok e')→(∀J2,e'≤J2→g.π t' J2=none)→(∀b' x,b'≠t'→Hn[b']?=some x→H[b']?=some x)→H.length≤Hn.length →
     (∀(b':Nat) (x:B),H[b']?=some x→(∀e:Nat,x≠.tok e)→Hn[b']?=some x)→cf P w0 g H w (Builtin.append_ #[sT,xT] rt #[.slice a es.length cap,vy]) (.sl (.own t' e') (es++new.map (·.map T.erase))) Hn:=by
    intro t' e' Hn zp k1 k2 k3 k4 k5
    have Sb:∀w':World,w'.heap=w.heap→(Builtin.firstCells n es.length (.slice a es.length cap)).run P w'=.ok kz.toArray w':=by
     intro w' Cp
     cases a with
     | none =>
      have:=(x1 rfl).1
      subst this
      have:kz=[]:=by simpa using x4
      subst this
      simp[Builtin.firstCells]
     | some a =>
      obtain⟨_,h7⟩:=x2 a rfl
      have:=run_loadCells_list (P:=P) w' a kz (fun j v hj=>by rw[pF Cp];exact h7 j v hj)
      rw[x4]at this
      simpa[Builtin.firstCells]using this
    obtain⟨fg,rest,kv,pG,cA⟩:=iQ (rt:=rt) (w:=w) E s1 s2 Sb zp iR
    have a7:(kz++vs++rest).toArray.size=fg*n:=by
     simp only[List.size_toArray]
     rw[List.length_append,og,pG,←Nat.add_mul];congr 1;omega
    obtain⟨le,sr,fr,nf,hp⟩:=h.Ep (c:=(kz++vs++rest).toArray) (ty:=elem) (k:=(es.length+new.length)*n) (qZ w) rfl k1 (by rw[a7];exact Nat.mul_le_mul_right _ kv) k2 k3 k4 k5
    refine⟨_,_,_,cA,le,sr,?_,fr⟩
    have hv:bL g w (es++new.map (·.map T.erase)).flatten (kz++vs):=by rw[tj];exact bL.append x3 s3.erase
    have:=VR.vK (k:=.own t' e') (r:=w.heap.size) (o:=0) (cap:=fg) ML (hv.mono le) ho (by rw[tn];exact kv) ⟨by rw[hp,tn,a7];simp,by rw[tn];omega⟩ (fun j v hj=>?_)
    ·rw[tn]at this;exact this
    ·have al:j<(kz++vs).length:=(List.getElem?_eq_some_iff.1 hj).1
     rw[Nat.zero_add]
     refine nf j v (by omega) ?_
     rw[List.getElem?_toArray,List.getElem?_append_left al];exact hj
   cases k with
   | nil =>
    simp only[Option.some.injEq,Prod.mk.injEq]at he
    obtain⟨rfl,rfl⟩:=he
    have nG:cap<es.length+new.length:=by
     cases hx with
     | slnil=>simpa using hlen
     | sl cZ hk=>exact hk.elim
    exact grow H.length _ _ nG (fM _ _) (fun J2 _=>h.YJ (Nat.le_refl _)) (fun b' x e hx=>dg e hx) (by simp) (fun b' x hx _=>jv hx)
   | full =>
    simp only[Option.some.injEq,Prod.mk.injEq]at he
    obtain⟨rfl,rfl⟩:=he
    have nG:cap<es.length+new.length:=by
     cases hx with
     | sl cZ hk=>simp only[gy]at hk;omega
    exact grow H.length _ _ nG (fM _ _) (fun J2 _=>h.YJ (Nat.le_refl _)) (fun b' x e hx=>dg e hx) (by simp) (fun b' x hx _=>jv hx)
   | arg=>cases he
   | own t0 e0 =>
    cases ht:H[t0]? with
    | none=>simp[ht]at he
    | some bt =>
     cases bt with
     | tok e1 =>
      simp only[ht]at he
      split at he
      ·rename_i hee
       subst hee
       simp only[Option.some.injEq,Prod.mk.injEq]at he
       obtain⟨rfl,rfl⟩:=he
       have S9:t0<H.length:=(List.getElem?_eq_some_iff.1 ht).1
       obtain⟨r1,p1,q1,kG,Ta,AJ,eQ⟩:=h.eG t0 _ ht
       by_cases lT:es.length+new.length≤cap
       ·-- in place
        cases hx with
        | @sl _ _ r o _ n' cZ hk hc hn h3 h4 =>
         simp only[gy]at hk
         obtain⟨nv,oH⟩:=hk
         have tF:n'=n:=by
          cases es with
          | nil=>simp at oH
          | cons c es=>rw[←hn c (by simp),x6 c (by simp)]
         subst tF
         rw[kG]at nv
         simp only[Option.some.injEq,Prod.mk.injEq]at nv
         obtain⟨rfl,rfl,rfl⟩:=nv
         have Ou:o+es.length*n'+vs.length≤o+cap*n':=by
          rw[s6,Nat.add_assoc,←Nat.add_mul]
          exact Nat.add_le_add_left (Nat.mul_le_mul_right _ lT) _
         obtain⟨le,sr,fr,nf⟩:=h.S8 (m:=new.length) (vs:=vs) ht kG hlen Ou
         have cO:=run_storeCells_cells (P:=P) r1 (o+es.length*n') vs 0 w (fun j hj=>by simpa using (AJ (o+es.length*n'+j) (by omega) (by omega)).2.2) (fun j hj=>by simpa using (AJ (o+es.length*n'+j) (by omega) (by omega)).2.1) (s3.js s4)
         rw[Nat.add_zero]at cO
         have cA:=nu (rt:=rt) (cap:=cap) E s1 (s2 w rfl) lT cO
         refine⟨_,_,_,cA,le,sr,?_,fr⟩
         have hv:bL g w (es++new.map (·.map T.erase)).flatten (kz++vs):=by rw[tj];exact bL.append x3 s3.erase
         have Tb:∀(j:Nat) (v:Value),kz[j]?=some v→Cf g w r1 (o+j) v:=by
          intro j v hj
          have al:j<es.length*n':=by rw[←x4];exact(List.getElem?_eq_some_iff.1 hj).1
          obtain⟨_,h7⟩:=x2 _ rfl
          have lX:=h7 j v hj
          rw[du]at lX
          have Tc:0<n':=by
           rcases Nat.eq_zero_or_pos n' with e|e
           ·subst e;simp at al
           ·exact e
          have hi:j/n'<es.length:=Nat.div_lt_of_lt_mul (by rw[Nat.mul_comm];exact al)
          have e1:es[j/n']?=some es[j/n']:=List.getElem?_eq_getElem hi
          have hm:j%n'<(es[j/n']).length:=by rw[x6 _ (List.getElem_mem hi)];exact Nat.mod_lt _ Tc
          have:=(h3 (j/n') (j%n') _ _ e1 (List.getElem?_eq_getElem hm)).2
          have ee:o+j/n'*n'+j%n'=o+j:=by rw[Nat.add_assoc,Nat.mul_comm,Nat.div_add_mod]
          rw[ee]at this
          exact⟨this.1,lX⟩
         have:=VR.vK (k:=.own t0 (e0+new.length)) (r:=r1) (o:=o) (cap:=cap) ML (hv.mono le) ho (by rw[tn];exact lT) ⟨by rw[tn];simp[Ctx.tok,s6,Nat.add_mul,Nat.add_assoc],by rw[tn];omega⟩ (fun j v hj=>?_)
         ·rw[tn]at this;exact this
         ·rw[List.getElem?_append]at hj
          split at hj
          ·exact(Tb j v hj).mono le
          ·rename_i dJ
           have:=nf _ v hj
           rw[x4]at this dJ
           rwa[show o+es.length*n'+(j-es.length*n')=o+j by omega]at this
       ·exact grow t0 (e0+new.length) _ (by omega) (by simp[S9]) (fun J2 he=>eQ J2 (by omega)) (fun b' x bQ hx=>by
          rcases eZ S9 hx with⟨e,_⟩|⟨_,jU⟩
          ·exact absurd e bQ
          ·exact jU) (by simp) (fun b' x YM bQ=>fN YM (by rintro rfl;rw[ht]at YM;cases YM;exact absurd rfl (bQ e0)))
      ·cases he
     | cells _=>simp[ht]at he
     | map _=>simp[ht]at he
     | _=>simp[ht]at he
  ·cases he
end
section
variable {P:Program} {w0 w:World} {g:Ctx} {H:af}
theorem SR.Td {b r o q:Nat}{cs ts:List T}{vs:List Value}(h:SR w0 g H w)(hb:H[b]?=some (.cells cs))(hφ:g.φ b=some (r,o,q))(hv:bL g w ts vs)(ho:cD ts)(lT:o+cs.length+ts.length≤q) :
  let g':=((g.row r fun j=>if o≤j∧j<q then .mut H.length else g.κ r j).at H.length (r,o,q))
  Le g w g' (w.setCells r (o+cs.length) vs)∧SR w0 g' (H.set b .dead++[.cells (cs++ts)]) (w.setCells r (o+cs.length) vs)∧Fr g H g' (H.set b .dead++[.cells (cs++ts)]):=by
 intro g'
 have lx:b<H.length:=(List.getElem?_eq_some_iff.1 hb).1
 obtain⟨h1,h2,h3⟩:=h.eG b _ hb r o q hφ
 have hl:=hv.1
 have hs:∀j,o+cs.length≤j→j<o+cs.length+vs.length→(w.cell? ⟨r,j,none⟩).isSome=true:=fun j a c=>(h2 j (by omega) (by omega)).2.2
 have tr:=Tr.setCells w r (o+cs.length) vs hs
 have hS:∀r' j,xw r (o+cs.length) vs.length r' j→g.κ r' j=.mut b:=by
  rintro r' j⟨rfl,a,c⟩;exact(h2 j (by omega) (by omega)).1
 have hκ:∀r' j,g'.κ r' j=if r'=r∧o≤j∧j<q then .mut H.length else g.κ r' j:=by
  intro r' j
  simp only[g',Ctx.at,Ctx.row]
  by_cases e:r'=r
  ·subst e;simp
  ·simp[e]
 have lK:∀b',g'.φ b'=if b'=H.length then some (r,o,q)else g.φ b':=fun b'=>rfl
 have le:Le g w g' (w.setCells r (o+cs.length) vs):=Le.iM tr
  (fun b' x hx=>by rw[lK];split;rename_i e;rw[e,h.JV (Nat.le_refl _)]at hx;cases hx;exact hx)
  (fun r' j hk=>by rw[hκ];split;rename_i c;obtain⟨rfl,a,c⟩:=c;rw[(h2 j a c).1]at hk;cases hk;exact hk) (fun _ _ _ h=>h) (fun r' j fI e=>by rw[hS r' j fI]at e;cases e)
 refine⟨le,h.step (fun b'=>b'=b∨b'=H.length) tr le (fun r' j fI=>.inr (.inl ⟨b,hS r' j fI,.inl rfl⟩)) (fun _ hm=>hm.elim) (fun r' j hr=>?_) (fun b' x hx=>?_) (fun t e x hx=>?_) (fun b' iB hn=>?_) (fun r' j b' hn=>?_) (fun _ _ _ _=>rfl) (fun b' x hx=>?_),?_,fun b' x a c d=>?_⟩
 ·rw[dR]at hr
  rw[hκ];split
  ·rename_i c;obtain⟨rfl,a,c⟩:=c
   have:=h.fresh r' j hr
   rw[(h2 j a c).1]at this;cases this
  ·exact h.fresh r' j hr
 ·rw[lK]at hx
  simp only[List.length_append,List.length_set,List.length_singleton]
  split at hx
  ·omega
  ·have:=h.tE b' x hx;omega
 ·simp only[List.length_append,List.length_set,List.length_singleton]
  have:=h.jF t e x hx;omega
 ·rw[lK,if_neg (by omega)]
 ·constructor<;>intro e<;>rw[hκ]<;>split
  ·rename_i c;obtain⟨rfl,a,c⟩:=c;rw[(h2 j a c).1]at e;cases e;exact absurd (.inl rfl) hn
  ·exact e
  ·rename_i c;obtain⟨rfl,a,c⟩:=c;rw[(h2 j a c).1]at e;cases e
  ·exact e
 ·by_cases e:b'=H.length
  ·right
   subst e
   have jU:x=.cells (cs++ts):=by
    have:(H.set b B.dead++[.cells (cs++ts)])[H.length]?=some (.cells (cs++ts)):=by
     rw[List.getElem?_append_right (by simp)];simp
    rw[this]at hx;cases hx;rfl
   subst jU
   intro r' o' q' hq
   rw[lK,if_pos rfl]at hq
   simp only[Option.some.injEq,Prod.mk.injEq]at hq
   obtain⟨rfl,rfl,rfl⟩:=hq
   refine⟨by rw[List.length_append];omega,fun j a c=>⟨by rw[hκ];simp[a,c],by rw[World.frozen?_setCells];exact(h2 j a c).2.1,tr.dV r j ?_ (h2 j a c).2.2⟩,fun i t hi=>?_⟩
   ·obtain⟨x,hx⟩:=Option.isSome_iff_exists.1 (h2 j a c).2.2;exact kC hx
   ·rw[List.getElem?_append]at hi
    split at hi
    ·rename_i al
     obtain⟨a,v,On,Oo⟩:=h3 i t hi
     exact⟨a,v,by rw[cJ r vs _ w r (o+i) (by omega)];exact On,Oo.mono le⟩
    ·rename_i dJ
     have al:i-cs.length<vs.length:=by rw[←hl];exact(List.getElem?_eq_some_iff.1 hi).1
     refine⟨ho t (List.mem_of_getElem? hi),_,?_,(hv.2 _ t _ hi (List.getElem?_eq_getElem al)).mono le⟩
     have:=cM r vs (o+cs.length) w hs (i-cs.length) _ (List.getElem?_eq_getElem al)
     rwa[show o+cs.length+(i-cs.length)=o+i by omega]at this
  ·have dr:(H.set b B.dead)[b']?=some x:=dg (by simpa using e) hx
   rcases eZ lx dr with⟨rfl,rfl⟩|⟨bQ,jU⟩
   ·right;trivial
   ·exact .inl ⟨by rintro (h|h);exact bQ h;exact e h,jU⟩
 ·simp
 ·have al:b'<H.length:=(List.getElem?_eq_some_iff.1 a).1
  have bQ:b'≠b:=by rintro rfl;rw[hφ]at d;cases d
  exact⟨jv (fN a bQ),by rw[lK,if_neg (by omega)];exact d⟩
theorem Er {x:T}{vx:Value}(hx:VR g w x vx)(hk:AD x=true):∃(a:Option Addr) (l c:Nat),vx=.slice a l c∧l≤c:=by
 cases hx with
 | slnil=>exact⟨_,_,_,rfl,Nat.le_refl _⟩
 | jr=>exact⟨_,_,_,rfl,Nat.le_refl _⟩
 | sl cZ lr hc hn h1 h2=>exact⟨_,_,_,rfl,hc⟩
 | aA h hc hq=>exact⟨_,_,_,rfl,hc⟩
 | _=>simp[AD]at hk
theorem Es {sT xT elem rt:TypeId}{ei:TypeInfo}{zv:Value}{n bytes:Nat}{x y t:T}{new:List (List T)}{vx vy:Value}{H':af}(E:pE P sT xT elem ei zv n bytes)
  (h:SR w0 g H w) (hx:VR g w x vx) (hy:VR g w y vy) (tH:bq H n y=some new) (he:lC H n bytes x new=some (t,H')) :
  cf P w0 g H w (Builtin.append_ #[sT,xT] rt #[vx,vy]) t H':=by
 obtain⟨vs,s1,s2,s3,s4,s5,s6⟩:=AN (P:=P) h hy tH
 have og:=gI new s5
 cases jl:new with
 | nil =>
  subst jl
  simp only[lC]at he
  split at he
  case isFalse=>cases he
  rename_i hk
  simp only[Option.some.injEq,Prod.mk.injEq]at he
  obtain⟨rfl,rfl⟩:=he
  have jk:vs=[]:=by simpa using s6
  subst jk
  have:∃a l c,vx=.slice a l c∧l≤c:=Er hx hk
  obtain⟨a,l,c,rfl,Ov⟩:=this
  exact cf.same h (lU E s1 (s2 w rfl) Ov) hx
 | cons c0 YL =>
  have hlen:0<new.length:=by rw[jl];simp
  rw[jl]at he
  simp only[lC]at he
  rw[←jl]at he
  have empty:∀(a:Option Addr),vx=.slice a 0 0→cC (0+new.length) bytes=true→t=.aA H.length 0 new.length n→H'=H++[.cells new.flatten]→cf P w0 g H w (Builtin.append_ #[sT,xT] rt #[vx,vy]) t H':=by
   rintro a rfl iR rfl rfl
   have Te:∀w':World,w'.heap=w.heap→(Builtin.firstCells n 0 (.slice a 0 0)).run P w'=.ok ([]:List Value).toArray w':=by
    intro w' _
    cases a with
    | none=>simp[Builtin.firstCells]
    | some a=>simpa[Builtin.firstCells]using run_loadCells_list (P:=P) w' a [] (by simp)
   obtain⟨fg,rest,kv,pG,cA⟩:=iQ (rt:=rt) (w:=w) E s1 s2 Te (by omega) iR
   have a7:(([]:List Value)++vs++rest).toArray.size=fg*n:=by
    simp only[List.size_toArray,List.nil_append]
    rw[List.length_append,s6,pG,←Nat.add_mul];congr 1;omega
   have lX:∀(i:Nat) (t:T),new.flatten[i]?=some t→t.one=true∧∃v,(([]:List Value)++vs++rest).toArray[i]?=some v∧VR g w t v:=by
    intro i t hi
    obtain⟨v,h1,h2⟩:=s3.gA i t hi
    refine⟨s4 t (List.mem_of_getElem? hi),v,?_,h2⟩
    simp only[List.nil_append,List.getElem?_toArray]at h1 ⊢
    rw[List.getElem?_append_left (List.getElem?_eq_some_iff.1 h1).1];exact h1
   obtain⟨g',le,sr,fr,hφ⟩:=h.iD (c:=([]++vs++rest).toArray) (ty:=elem) (cs:=new.flatten) (qZ w) rfl lX
   refine⟨_,_,g',cA,le,sr,?_,fr⟩
   rw[Nat.zero_add]at kv ⊢
   exact .aA (r:=w.heap.size) (o:=0) (off:=0) hφ kv (by rw[a7];simp)
  cases x with
  | sl k es =>
   cases k with
   | nil =>
    simp only at he
    split at he
    ·rename_i hc
     obtain⟨iR,rfl⟩:=hc
     simp only[Option.some.injEq,Prod.mk.injEq]at he
     cases hx with
     | slnil=>exact empty none rfl (by simpa using iR) he.1.symm he.2.symm
     | sl cZ hk=>exact hk.elim
    ·cases he
   | full =>
    simp only at he
    split at he
    ·rename_i hc
     obtain⟨iR,rfl⟩:=hc
     simp only[Option.some.injEq,Prod.mk.injEq]at he
     cases hx with
     | sl cZ hk =>
      simp only[gy,List.length_nil]at hk
      subst hk
      exact empty _ rfl (by simpa using iR) he.1.symm he.2.symm
    ·cases he
   | arg=>cases he
   | own _ _=>cases he
  | aA b off len n' =>
   simp only at he
   cases hb:H[b]? with
   | none=>simp[hb]at he
   | some z =>
    cases z with
    | cells cs =>
     simp only[hb]at he
     split at he
     ·rename_i hc
      obtain⟨rfl,rfl,tG,iR⟩:=hc
      simp only[Option.some.injEq,Prod.mk.injEq]at he
      obtain⟨rfl,rfl⟩:=he
      cases hx with
      | @aA _ _ _ _ r o q cap hφ oB hq =>
       obtain⟨h1,h2,h3⟩:=h.eG b _ hb r o q hφ
       have lx:b<H.length:=(List.getElem?_eq_some_iff.1 hb).1
       by_cases lT:len+new.length≤cap
       ·have MP:o+cs.length+new.flatten.length≤q:=by
         rw[og,←tG,←hq,Nat.add_assoc,←Nat.add_mul]
         have:=Nat.mul_le_mul_right n' lT
         omega
        obtain⟨le,sr,fr⟩:=h.Td hb hφ s3 s4 MP
        have jk:vs.length=new.flatten.length:=by rw[s6,og]
        have cO:=run_storeCells_cells (P:=P) r (o+0+len*n') vs 0 w (fun j hj=>by simpa using (h2 (o+len*n'+j) (by omega) (by omega)).2.2) (fun j hj=>by simpa using (h2 (o+len*n'+j) (by omega) (by omega)).2.1) (s3.js s4)
        rw[Nat.add_zero]at cO
        have cA:=nu (rt:=rt) (cap:=cap) E s1 (s2 w rfl) lT cO
        rw[tG]at cA
        refine⟨_,_,_,cA,le,sr,?_,fr⟩
        exact .aA (off:=0) (r:=r) (o:=o) (q:=q) (by simp[Ctx.at]) lT (by rw[←hq])
       ·have hp:po H (len*n') (.ptr b 0)=some cs:=by simp[po,hb,tG]
        obtain⟨r',o',kz,e1,e2,e3,e4,e5⟩:=pz h (.ptr hφ) hp
        cases e1
        have Sb:∀w':World,w'.heap=w.heap→(Builtin.firstCells n' len (.slice (some ⟨r,o+0,none⟩) len cap)).run P w'=.ok kz.toArray w':=by
         intro w' Cp
         have:=run_loadCells_list (P:=P) w' ⟨r,o+0,none⟩ kz (fun j v hj=>by rw[pF Cp,du];exact e3 j v hj)
         rw[e2]at this
         simpa[Builtin.firstCells]using this
        obtain⟨fg,rest,kv,pG,cA⟩:=iQ (rt:=rt) (w:=w) E s1 s2 Sb (by omega) iR
        have a7:(kz++vs++rest).toArray.size=fg*n':=by
         simp only[List.size_toArray]
         rw[List.length_append,List.length_append,e2,s6,pG,←Nat.add_mul,←Nat.add_mul];congr 1;omega
        have Et:bL g w (cs++new.flatten) (kz++vs):=bL.append e4 s3
        obtain⟨le,sr,fr⟩:=h.mut (c:=(kz++vs++rest).toArray) (ty:=elem) (H':=H.set b .dead++[.cells (cs++new.flatten)]) (b:=H.length) (cs:=cs++new.flatten) (qZ w) rfl
         (by rw[List.getElem?_append_right (by simp)];simp) (h.JV (Nat.le_refl _))
         (fun b' x bQ hx=>by
          have dr:(H.set b B.dead)[b']?=some x:=dg (by simpa using bQ) hx
          rcases eZ lx dr with⟨_,rfl⟩|⟨_,jU⟩
          ·exact .inr rfl
          ·exact .inl jU) (by simp)
         (fun b' x a _ d _=>jv (fN a (by rintro rfl;rw[hφ]at d;cases d)))
         (fun i t hi=>by
          obtain⟨v,k1,k2⟩:=Et.gA i t hi
          refine⟨?_,v,?_,k2⟩
          ·rcases List.mem_append.1 (List.mem_of_getElem? hi)with hm|hm
           ·exact e5 t hm
           ·exact s4 t hm
          ·simp only[List.getElem?_toArray]at k1 ⊢
           rw[List.getElem?_append_left (List.getElem?_eq_some_iff.1 k1).1];exact k1)
        refine⟨_,_,_,cA,le,sr,.aA (r:=w.heap.size) (o:=0) (off:=0) (q:=(kz++vs++rest).toArray.size) (by simp[Ctx.at]) kv (by rw[a7];simp),by simp,fun b' x a c d=>fr b' x a c d (by have:=(List.getElem?_eq_some_iff.1 a).1;omega)⟩
     ·cases he
    | map _=>simp[hb]at he
    | tok _=>simp[hb]at he
    | _=>simp[hb]at he
  | _=>simp at he
theorem um:∀(vs:List Value) (k off:Nat) (cells:Array Value),off+k+vs.length≤cells.size →
  ((vs.zipIdx k).foldl (fun (cs:Array Value) (x:Value×Nat)=>cs.setIfInBounds (off+x.2) x.1) cells).toList=cells.toList.take (off+k)++vs++cells.toList.drop (off+k+vs.length)
 | [],k,off,cells,_=>by simp
 | v :: vs,k,off,cells,h=>by
  simp only[List.length_cons]at h
  rw[List.zipIdx_cons,List.foldl_cons,um vs (k+1) off _ (by simp;omega)]
  simp only[Array.toList_setIfInBounds,List.length_cons]
  have al:off+k<cells.toList.length:=by simp;omega
  rw[show off+(k+1)=off+k+1 by omega,List.take_add_one]
  rw[show off+k+1+vs.length=off+k+(vs.length+1) by omega]
  rw[List.take_set_of_le (Nat.le_refl _),List.getElem?_set_self al,List.drop_set_of_lt (by omega)]
  simp
theorem pI {off size:Nat}{v:Value}{cells:Array Value}(hs:v.cells.size=size)(hle:off+size≤cells.size) :
  (v.cells.zipIdx.foldl (fun (cs:Array Value) (x:Value×Nat)=>cs.setIfInBounds (off+x.2) x.1) cells).toList=cells.toList.take off++v.cells.toList++cells.toList.drop (off+size):=by
 have:=um v.cells.toList 0 off cells (by simp[hs];omega)
 rw[←Array.foldl_toList,Array.toList_zipIdx]
 simpa[hs]using this
def placesOf (P:Program):List Field→List (Nat×Nat)
 | []=>[]
 | f :: fs=>(f.offset,P.cellsOf f.type) :: placesOf P fs
theorem run_places {fs:List Field}(hi:∀f∈fs,∃i,P.info? f.type=some i):(fs.mapM fun f=>do pure (f.offset,←sizeOf f.type):Sem (List (Nat×Nat))).run P w=.ok (placesOf P fs) w:=by
 induction fs with
 | nil=>simp[placesOf]
 | cons f fs ih =>
  obtain⟨i,hf⟩:=hi f (by simp)
  have ih:=ih (fun f' h'=>hi f' (by simp[h']))
  have h0:(sizeOf f.type).run P w=.ok i.size w:=by simp[sizeOf,bA hf]
  rw[List.mapM_cons]
  simp only[Sem.run_bind,h0,Result.andThen_ok,Sem.run_pure,ih]
  simp[placesOf,Program.cellsOf,hf]
inductive PV (g:Ctx)(w:World)(R:aw):List (Nat×X)→List (Nat×Value)→Prop
 | nil:PV g w R [] []
 | cons {i:Nat} {x:X} {v:Value} {ps:List (Nat×X)} {pv:List (Nat×Value)} (h:VR g w (x.ev R) v) (hs:PV g w R ps pv):PV g w R ((i,x) :: ps) ((i,v) :: pv)
theorem J4 {R:aw}{place:Nat→Option (Nat×Nat)}{ps:List (Nat×X)}{pv:List (Nat×Value)}(hv:PV g w R ps pv):∀(l:List (Nat×List T)) (z cs:List T) (cells:Array Value),(∀p∈ps,(place p.1).isSome=true) →
  fJ R (ps.map fun p=>(((place p.1).getD (0,0)).1,((place p.1).getD (0,0)).2,p.2))=some l→nn z l=some cs→bL g w z cells.toList→cD z →
  ∃da,Instr.fill place cells pv=some da∧bL g w cs da.toList∧cD cs∧da.size=cells.size:=by
 induction hv with
 | nil =>
  intro l z cs cells hp hl hf hz ho
  simp[fJ]at hl;subst hl
  simp[nn]at hf;subst hf
  exact⟨cells,rfl,hz,ho,rfl⟩
 | @cons i x v ps pv Tf _ ih =>
  intro l z cs cells hp hl hf hz ho
  have XK:=hp (i,x) (by simp)
  cases y7:place i with
  | none=>simp[y7]at XK
  | some os =>
   obtain⟨off,size⟩:=os
   simp only[List.map_cons,y7,Option.getD_some]at hl
   simp only[fJ]at hl
   cases hc:(x.ev R).cells? with
   | none=>simp[hc]at hl
   | some c =>
    cases hr:fJ R (ps.map fun p=>(((place p.1).getD (0,0)).1,((place p.1).getD (0,0)).2,p.2))with
    | none=>simp[hc,hr]at hl
    | some l' =>
     simp only[hc,hr]at hl
     split at hl
     ·rename_i lN
      simp at hl;subst hl
      simp only[nn]at hf
      split at hf
      ·rename_i hle
       obtain⟨Jk,Tg⟩:=jT Tf hc
       have a7:v.cells.size=size:=by have:=Jk.1;simp at this;omega
       have xA:z.length=cells.size:=by have:=hz.1;simpa using this
       have YN:off+size≤cells.size:=by omega
       have b0:=pI a7 YN
       have qY:bL g w (z.take off++c++z.drop (off+c.length)) (v.cells.zipIdx.foldl (fun (cs:Array Value) (x:Value×Nat)=>cs.setIfInBounds (off+x.2) x.1) cells).toList:=by
        rw[b0,lN]
        exact bL.append (bL.append (hz.take off) Jk) (hz.drop (off+size))
       have nJ:cD (z.take off++c++z.drop (off+c.length)):=by
        intro t ht
        rcases List.mem_append.1 ht with ht|ht
        ·rcases List.mem_append.1 ht with ht|ht
         ·exact ho t (List.mem_of_mem_take ht)
         ·exact Tg t ht
        ·exact ho t (List.mem_of_mem_drop ht)
       obtain⟨da,k1,k2,k3,k4⟩:=ih l' _ cs _ (fun x hx=>hp x (by simp[hx])) hr hf qY nJ
       refine⟨da,?_,k2,k3,?_⟩
       ·simp only[Instr.fill,y7]
        rw[if_neg]
        ·exact k1
        ·simp[a7];omega
       ·rw[k4]
        have:=congrArg List.length b0
        simp only[Array.length_toList,List.length_append,List.length_take,List.length_drop]at this
        omega
      ·cases hf
     ·cases hl
theorem Cq {ty:TypeId}{fs:Array Field}{i:TypeInfo}{zv:Value}{R:aw}{ps:List (Nat×X)}{pv:List (Nat×Value)}{z cs:List T}{l:List (Nat×List T)}(hu:P.underlying ty=some (.struct fs))(hi:P.info? ty=some i)(hz:i.zero=some zv)(Eu:fy zv.cells.toList=some z)
  (hfs:∀f∈fs.toList,∃i,P.info? f.type=some i) (hp:∀p∈ps,p.1<fs.size) (h:SR w0 g H w) (hv:PV g w R ps pv)
  (hl:fJ R (ps.map fun p=>((((placesOf P fs.toList)[p.1]?).getD (0,0)).1,(((placesOf P fs.toList)[p.1]?).getD (0,0)).2,p.2))=some l) (hf:nn z l=some cs) :
  cf P w0 g H w (Instr.build ty pv.toArray) (.agg cs) H:=by
 obtain⟨Cr,DH⟩:=dQ (g:=g) (w:=w) _ _ Eu
 have hlen:∀l:List Field,(placesOf P l).length=l.length:=by
  intro l;induction l with
  | nil=>rfl
  | cons f l ih=>simp[placesOf,ih]
 have tI:∀p∈ps,((placesOf P fs.toList)[p.1]?).isSome=true:=fun p tJ=>by
  have:=hp p tJ
  rw[List.getElem?_eq_getElem (by rw[hlen];simpa using this)];rfl
 obtain⟨da,k1,k2,k3,_⟩:=J4 (place:=fun (i:Nat)=>(placesOf P fs.toList)[i]?) hv l z cs zv.cells tI hl hf Cr DH
 refine cf.same h (v:=.agg da) ?_ (by have:=k2.agg k3;simpa using this)
 have y7:(fs.mapM fun f=>do pure (f.offset,←sizeOf f.type):Sem (Array (Nat×Nat))).run P w=.ok (placesOf P fs.toList).toArray w:=by
  rw[Array.mapM_eq_mapM_toList]
  simp only[Sem.run_map,run_places hfs,Result.andThen_ok]
 simp only[Instr.build,zeroValue,Sem.run_bind,bA hi,hz,Result.andThen_ok,Sem.run_pure,run_underlying hu,y7]
 have e:(fun (x:Nat)=>(placesOf P fs.toList).toArray[x]?)=fun (i:Nat)=>(placesOf P fs.toList)[i]?:=by funext x;simp
 simp[e,k1]
end
section
variable {P:Program} {w0 w:World} {g:Ctx} {H:af}
theorem lY {n:Nat}:∀(es:List (List T)) (i:Nat) (c:List T),(∀c∈es,c.length=n)→i<es.length→(es.set i c).flatten=es.flatten.take (i*n)++c++es.flatten.drop (i*n+n)
 | [],i,c,_,h=>by simp at h
 | d :: es,0,c,hn,_=>by
  have hd:=hn d (by simp)
  simp[←hd]
 | d :: es,i+1,c,hn,h=>by
  have hd:=hn d (by simp)
  have ih:=lY es i c (fun c hc=>hn c (by simp[hc])) (by simpa using h)
  simp only[List.set_cons_succ,List.flatten_cons,ih]
  have e1:(d++es.flatten).take ((i+1)*n)=d++es.flatten.take (i*n):=by
   rw[List.take_append,hd,Nat.succ_mul]
   rw[List.take_of_length_le (by omega)]
   congr 2;omega
  have e2:(d++es.flatten).drop ((i+1)*n+n)=es.flatten.drop (i*n+n):=by
   rw[List.drop_append,hd,Nat.succ_mul]
   rw[List.drop_of_length_le (by omega)]
   simp only[List.nil_append]
   congr 1;omega
  rw[e1,e2];simp
theorem Ev {R:aw}{n:Nat}{ps:List (Nat×X)}{pv:List (Nat×Value)}(hv:PV g w R ps pv):∀(es fs:List (List T)) (cells:Array Value),jR n es R ps=some fs→(∀c∈es,c.length=n)→bL g w es.flatten cells.toList→cD es.flatten →
  ∃da,Instr.fill (fun i=>some (i*n,n)) cells pv=some da∧bL g w fs.flatten da.toList∧cD fs.flatten∧(∀c∈fs,c.length=n)∧fs.length=es.length:=by
 induction hv with
 | nil =>
  intro es fs cells he hn hz ho
  simp[jR]at he;subst he
  exact⟨cells,rfl,hz,ho,hn,rfl⟩
 | @cons i x v ps pv Tf _ ih =>
  intro es fs cells he hn hz ho
  simp only[jR]at he
  cases hc:(x.ev R).cells? with
  | none=>simp[hc]at he
  | some c =>
   simp only[hc]at he
   split at he
   ·rename_i cI
    obtain⟨lN,hi⟩:=cI
    obtain⟨Jk,Tg⟩:=jT Tf hc
    have a7:v.cells.size=n:=by have:=Jk.1;simp at this;omega
    have tj:=gI es hn
    have xA:es.flatten.length=cells.size:=by have:=hz.1;simpa using this
    have hle:i*n+n≤cells.size:=by
     rw[←xA,tj,←Nat.succ_mul];exact Nat.mul_le_mul_right _ hi
    have b0:=pI a7 hle
    have kH:=lY es i (c.map T.erase) hn hi
    have qY:bL g w (es.set i (c.map T.erase)).flatten (v.cells.zipIdx.foldl (fun (cs:Array Value) (x:Value×Nat)=>cs.setIfInBounds (i*n+x.2) x.1) cells).toList:=by
     rw[b0,kH]
     exact bL.append (bL.append (hz.take _) Jk.erase) (hz.drop _)
    have nJ:cD (es.set i (c.map T.erase)).flatten:=by
     rw[kH]
     intro t ht
     rcases List.mem_append.1 ht with ht|ht
     ·rcases List.mem_append.1 ht with ht|ht
      ·exact ho t (List.mem_of_mem_take ht)
      ·exact rS Tg t ht
     ·exact ho t (List.mem_of_mem_drop ht)
    obtain⟨da,k1,k2,k3,k4,k5⟩:=ih _ fs _ he (fun c' gB=>by
     rcases List.mem_or_eq_of_mem_set gB with h|h
     ·exact hn c' h
     ·rw[h,List.length_map];exact lN) qY nJ
    refine⟨da,?_,k2,k3,k4,by simpa using k5⟩
    simp only[Instr.fill]
    rw[if_neg]
    ·exact k1
    ·simp[a7];omega
   ·cases he
theorem lZ {n:Nat}{z:List T}{zc:Array Value}(hz:bL g w z zc.toList)(hn:z.length=n)(m:Nat):bL g w (List.replicate m z).flatten ((Array.range (m*n)).map (fun i=>zc[i%zc.size]!)).toList:=by
 have J1:zc.size=n:=by have:=hz.1;simp at this;omega
 refine⟨by simp[hn],fun i t v a b=>?_⟩
 have hi:i<m*n:=by
  have:=(List.getElem?_eq_some_iff.1 b).1
  simpa using this
 have jh:0<n:=by
  rcases Nat.eq_zero_or_pos n with e|e
  ·subst e;simp at hi
  ·exact e
 have hdm:i/n<m:=Nat.div_lt_of_lt_mul (by rw[Nat.mul_comm];exact hi)
 have Th:i%n<z.length:=by rw[hn];exact Nat.mod_lt _ jh
 have e1:(List.replicate m z)[i/n]?=some z:=by simp[hdm]
 have:=lS (n:=n) (List.replicate m z) (fun c hc=>by rw[List.eq_of_mem_replicate hc];exact hn) (i/n) (i%n) z _ e1 (List.getElem?_eq_getElem Th)
 rw[show i/n*n+i%n=i by rw[Nat.mul_comm,Nat.div_add_mod]]at this
 rw[this]at a
 simp at a;subst a
 have al:i%zc.size<zc.toList.length:=by rw[J1];simp[J1];exact Nat.mod_lt _ jh
 have e2:zc.toList[i%zc.size]?=some v:=by
  simp[hi]at b
  rw[←b,List.getElem?_eq_getElem al]
  have:i%zc.size<zc.size:=by simpa using al
  simp[this]
 rw[J1]at e2
 exact hz.2 (i%n) _ v (List.getElem?_eq_getElem Th) e2
theorem jV {z:List T}(ho:cD z)(m:Nat):cD (List.replicate m z).flatten:=by
 intro t ht
 obtain⟨c,h1,h2⟩:=List.mem_flatten.1 ht
 rw[List.eq_of_mem_replicate h1]at h2
 exact ho t h2
theorem Ew (w:World):Tr w w hY ju:=Tr.refl w
theorem J5 {ty elem:TypeId}{ei:TypeInfo}{zv:Value}{R:aw}{ps:List (Nat×X)}{pv:List (Nat×Value)}{z:List T}{len:Nat}{fs:List (List T)}(hu:P.underlying ty=some (.slice elem))(hi:P.info? elem=some ei)(hz:ei.zero=some zv)(Eu:fy zv.cells.toList=some z)
  (zq:z.length=ei.size) (a7:len*ei.size≤2^24) (h:SR w0 g H w) (hv:PV g w R ps pv) (he:jR z.length (List.replicate len z) R ps=some fs) :
  cf P w0 g H w (Instr.buildSlice ty len pv.toArray) (.sl .full fs) H:=by
 obtain⟨Cr,DH⟩:=dQ (g:=g) (w:=w) _ _ Eu
 have YO:=lZ Cr zq len
 have Te:=jV DH len
 rw[zq]at he
 obtain⟨da,k1,k2,k3,k4,k5⟩:=Ev hv _ fs ((Array.range (len*ei.size)).map (fun i=>zv.cells[i%zv.cells.size]!)) he (fun c hc=>by rw[List.eq_of_mem_replicate hc];exact zq) YO Te
 have hlen:fs.length=len:=by rw[k5];simp
 obtain⟨le,sr,fr,nf⟩:=h.nf (c:=da) (ty:=elem) (Ew w) rfl
 refine⟨.slice (some ⟨w.heap.size,0,none⟩) len len,_,_,?_,le,sr,?_,fr⟩
 ·have Ey:¬len*ei.size>2^24:=by omega
  by_cases h0:len*ei.size=0
  ·have e0:((Array.range (len*ei.size)).map (fun i=>zv.cells[i%zv.cells.size]!))=((Array.range (len*ei.size)).map (fun i=>(#[]:Array Value)[i%(#[]:Array Value).size]!)):=by
    rw[h0];simp
   rw[e0]at k1
   simp only[Instr.buildSlice,Sem.run_bind,run_underlying hu,Result.andThen_ok,sizeOf,bA hi,Sem.run_pure,Ey,if_false,h0,if_true]
   rw[h0]at k1
   simp at k1
   simp[k1,newRow]
  ·simp only[Instr.buildSlice,Sem.run_bind,run_underlying hu,Result.andThen_ok,sizeOf,bA hi,Sem.run_pure,Ey,if_false,h0,zeroValue,hz]
   simp[k1,newRow]
 ·have:=VR.vK (k:=.full) (r:=w.heap.size) (o:=0) (cap:=fs.length) k4 (k2.mono le) k3 (Nat.le_refl _) rfl (fun j v hj=>by rw[Nat.zero_add];exact nf j v (by simpa using hj))
  rw[hlen]at this;exact this
theorem wrap_i64 {n:Int}(h0:0≤n)(h1:n≤9223372036854775807):IntKind.i64.wrap n=n:=IntWalk.i64_in n (by omega)
theorem run_makeSlice {ty elem:TypeId}{ei:TypeInfo}{zv:Value}{k1 k2:IntKind}{l c:Int}(hu:P.underlying ty=some (.slice elem))(hi:P.info? elem=some ei)(hz:ei.zero=some zv)(h0:0≤l)(Ov:l≤c)(hc:c*ei.bytes≤281474976710656)(gB:c≤9223372036854775807) :
  (Instr.makeSlice ty (.int k1 l) (.int k2 c)).run P w=.ok (.slice (some ⟨w.heap.size,0,none⟩) l.toNat c.toNat)
   (w.alloc (.cells ((Array.range (c.toNat*ei.size)).map (fun i=>(if c.toNat*ei.size=0 then(#[]:Array Value)else zv.cells)[i%(if c.toNat*ei.size=0 then(#[]:Array Value)else zv.cells).size]!)) elem)):=by
 have e1:=wrap_i64 h0 (by omega:l≤9223372036854775807)
 have e2:=wrap_i64 (by omega:0≤c) gB
 have t1:((decide (c<0)||decide ((ei.bytes:Int)*c>2^48))||decide (l<0)||decide (l>c))=false:=by
  have:(ei.bytes:Int)*c=c*ei.bytes:=Int.mul_comm _ _
  simp[this];omega
 simp only[Instr.makeSlice,Sem.run_bind,run_underlying hu,Result.andThen_ok,asInt,asIntOf,Sem.run_pure,bA hi,e1,e2,t1]
 by_cases hn:c.toNat*ei.size=0
 ·simp[sizeOf,bA hi,hn,newRow]
 ·simp[sizeOf,bA hi,hn,zeroValue,hz,newRow]
theorem J6 {ty elem:TypeId}{ei:TypeInfo}{zv:Value}{mu:Bool}{z:List T}{x y t:T}{l c:Nat}{vx vy:Value}{H':af}(hu:P.underlying ty=some (.slice elem))(hi:P.info? elem=some ei)(hz:ei.zero=some zv)(Eu:fy zv.cells.toList=some z)(zq:z.length=ei.size)(jh:ei.size≠0)
  (h:SR w0 g H w) (hx:VR g w x vx) (hy:VR g w y vy) (hl:cw x=some l) (hc:cw y=some c) (Ov:l≤c) (hb:c*ei.bytes≤281474976710656) (Se:c≤9223372036854775807)
  (he:(if mu then(T.aA H.length 0 l z.length,H++[.cells (List.replicate l z).flatten])else if l=0 then(.sl .arg [],H)else(.sl (.own H.length l) (List.replicate l z),H++[.tok l]))=(t,H')) :
  cf P w0 g H w (Instr.makeSlice ty vx vy) t H':=by
 obtain⟨Cr,DH⟩:=dQ (g:=g) (w:=w) _ _ Eu
 obtain⟨k1,n1,rfl,a1,b1⟩:=eM hx hl
 obtain⟨k2,n2,rfl,a2,b2⟩:=eM hy hc
 have cA:=run_makeSlice (P:=P) (w:=w) (k1:=k1) (k2:=k2) hu hi hz a1 (by omega:n1≤n2) (by
  have:(n2.toNat:Int)=n2:=Int.toNat_of_nonneg a2
  rw[←this,b2];omega) (by omega)
 rw[b1,b2]at cA
 have tM:=lZ Cr zq c
 have fW:=jV DH c
 have zr:(List.replicate c z).flatten=(List.replicate l z).flatten++(List.replicate (c-l) z).flatten:=by
  rw[←List.flatten_append,List.replicate_append_replicate];congr 2;omega
 have ad3:(List.replicate l z).flatten.length=l*ei.size:=by rw[gI (n:=ei.size) _ (fun c hc=>by rw[List.eq_of_mem_replicate hc];exact zq),List.length_replicate]
 have oI:(Array.range (c*ei.size)).map (fun i=>(if c*ei.size=0 then(#[]:Array Value)else zv.cells)[i%(if c*ei.size=0 then(#[]:Array Value)else zv.cells).size]!)=(Array.range (c*ei.size)).map (fun i=>zv.cells[i%zv.cells.size]!):=by
  by_cases h0:c*ei.size=0
  ·rw[h0];simp
  ·simp only[h0,if_false]
 rw[oI]at cA
 generalize hA:(Array.range (c*ei.size)).map (fun i=>zv.cells[i%zv.cells.size]!)=A at cA tM
 have a7:A.size=c*ei.size:=by rw[←hA];simp
 have lX:∀(i:Nat) (t:T),(List.replicate l z).flatten[i]?=some t→t.one=true∧∃v,A[i]?=some v∧VR g w t v:=by
  intro i t kD
  have e:(List.replicate c z).flatten[i]?=some t:=by
   rw[zr,List.getElem?_append_left (List.getElem?_eq_some_iff.1 kD).1];exact kD
  obtain⟨v,h1,h2⟩:=tM.gA i t e
  exact⟨fW t (List.mem_of_getElem? e),v,by simpa using h1,h2⟩
 cases mu with
 | true =>
  simp only[if_true,Prod.mk.injEq]at he
  obtain⟨rfl,rfl⟩:=he
  obtain⟨g',le,sr,fr,hφ⟩:=h.iD (c:=A) (ty:=elem) (Ew w) rfl lX
  exact⟨_,_,g',cA,le,sr,.aA (r:=w.heap.size) (o:=0) (off:=0) hφ Ov (by rw[a7,zq];simp),fr⟩
 | false =>
  simp only[Bool.false_eq_true,if_false]at he
  split at he
  ·rename_i y6
   subst y6
   simp only[Prod.mk.injEq]at he
   obtain⟨rfl,rfl⟩:=he
   obtain⟨le,sr,fr,nf⟩:=h.nf (c:=A) (ty:=elem) (Ew w) rfl
   exact⟨_,_,_,cA,le,sr,.sl (n:=0) (fun _ _=>.nilIface) trivial (by simp) (by simp) (by simp) (by simp),fr⟩
  ·rename_i y6
   simp only[Prod.mk.injEq]at he
   obtain⟨rfl,rfl⟩:=he
   obtain⟨le,sr,fr,nf,hp⟩:=h.Ep (c:=A) (ty:=elem) (t:=H.length) (e:=l) (k:=l*ei.size) (H':=H++[.tok l]) (Ew w) rfl (fM _ _) (by rw[a7];exact Nat.mul_le_mul_right _ Ov) (fun J2 _=>h.YJ (Nat.le_refl _))
    (fun b' x e hx=>dg e hx) (by simp) (fun b' x hx _=>jv hx)
   refine⟨_,_,_,cA,le,sr,?_,fr⟩
   have hv:bL g w (List.replicate l z).flatten (A.toList.take (l*ei.size)):=by
    have:=tM.take (l*ei.size)
    rwa[zr,List.take_append_of_le_length (by omega),List.take_of_length_le (by omega)]at this
   have:=VR.vK (k:=.own H.length l) (r:=w.heap.size) (o:=0) (cap:=c) (n:=ei.size) (es:=List.replicate l z) (fun c hc=>by rw[List.eq_of_mem_replicate hc];exact zq) (hv.mono le) (jV DH l) (by simpa using Ov)
    ⟨by rw[hp,a7];simp,by simp;omega⟩ (fun j v hj=>by
     rw[Nat.zero_add]
     rw[List.getElem?_take]at hj
     split at hj
     ·rename_i al;exact nf j v al (by simpa using hj)
     ·cases hj)
   simpa using this
theorem J7 {f:Nat}{lP:List T}{vs:List Value}(h:SR w0 g H w)(hv:bL g w lP vs):cf P w0 g H w (Instr.makeFunc (.func f) #[] vs.toArray) (.fn f lP) H :=
 cf.same h rfl (.fn (by simp[hv.1]) (fun i t v a b=>hv.2 i t v a (by simpa using b)))
end
section
variable {P:Program} {w0 w:World} {g:Ctx} {H:af}
theorem VR.xd {t:T}{v:Value}(h:VR g w t v):VR g w (xd t) v:=by
 cases h with
 | eH h hc hq=>exact .aA h hc hq
 | aA h hc hq=>exact .aA h hc hq
 | int k n=>exact .int k n
 | bool b=>exact .bool b
 | str s=>exact .str s
 | bZ=>exact .bZ
 | ptr h=>exact .ptr h
 | cX cZ h1 h2=>exact .cX cZ h1 h2
 | gX=>exact .gX
 | map h=>exact .map h
 | slnil=>exact .slnil
 | jr a=>exact .jr a
 | sl cZ hk hc hn h1 h2=>exact .sl cZ hk hc hn h1 h2
 | nD=>exact .nD
 | fn hl h=>exact .fn hl h
 | od h=>exact .od h
 | gY=>exact .gY
 | agg hl h1 h2=>exact .agg hl h1 h2
 | bJ hl h2=>exact .bJ hl h2
theorem J8 {ty rt:TypeId}{e:TypeId}{b off len n c:Nat}{vx:Value}(hu:P.underlying ty=some (.slice e))(h:SR w0 g H w)(hx:VR g w (.eH b off len n c) vx) :
  cf P w0 g H w (Builtin.cap_ #[ty] rt #[vx]) (.int .i64 (c:Nat)) H:=by
 cases hx with
 | eH hφ hc hq=>exact cf.same h (v:=.int .i64 c) (by simp[Builtin.cap_,run_underlying hu,goInt]) (.int _ _)
theorem rT (cs:List T)(off n:Nat):∀k,off+k*n≤cs.length→((List.range k).map fun i=>(cs.drop (off+i*n)).take n).flatten=(cs.drop off).take (k*n)
 | 0,_=>by simp
 | k+1,h=>by
  have h':off+k*n≤cs.length:=by rw[Nat.succ_mul]at h;omega
  rw[List.range_succ,List.map_append,List.flatten_append,rT cs off n k h',Nat.succ_mul,List.take_add]
  simp[List.drop_drop]
theorem uo {n k:Nat}{y:T}{vy:Value}{new:List (List T)}(h:SR w0 g H w)(hy:VR g w y vy)(he:iL H n k y=some new) :
  ∃r o ly cap vs,vy=.slice (some ⟨r,o,none⟩) ly cap∧D1 y=some ly∧(∀(j:Nat) (v:Value),vs[j]?=some v→w.cell? ⟨r,o+j,none⟩=some v)∧bL g w new.flatten vs∧vs.length=k*n∧cD new.flatten∧new.flatten.length=k*n:=by
 have key:∀(b off:Nat) (r o q:Nat),g.φ b=some (r,o,q)→(match H[b]? with|some (.cells cs)=>if off+k*n≤cs.length then some ((List.range k).map fun i=>(cs.drop (off+i*n)).take n)else none|_=>none)=some new →
   ∃vs,(∀(j:Nat) (v:Value),vs[j]?=some v→w.cell? ⟨r,o+off+j,none⟩=some v)∧bL g w new.flatten vs∧vs.length=k*n∧cD new.flatten∧new.flatten.length=k*n:=by
  intro b off r o q hφ he
  cases hb:H[b]? with
  | none=>simp[hb]at he
  | some z =>
   cases z<;>simp only[hb]at he<;>(try (cases he;done))
   rename_i cs
   split at he
   ·rename_i hle
    simp only[Option.some.injEq]at he
    have tj:=rT cs off n k hle
    rw[he]at tj
    have hp:po H (k*n) (.ptr b off)=some new.flatten:=by simp[po,hb,hle,tj]
    obtain⟨r',o',vs,e1,e2,e3,e4,e5⟩:=pz h (.ptr hφ) hp
    cases e1
    exact⟨vs,e3,e4,e2,e5,by rw[tj,List.length_take,List.length_drop];omega⟩
   ·cases he
 cases hy<;>simp only[iL]at he<;>(try (cases he;done))
 ·rename_i b off len n' r o q cap hφ hc hq
  obtain⟨vs,a1,a2,a3,a4,a5⟩:=key b off r o q hφ (by
   cases hb:H[b]? with
   | none=>simp[hb]at he
   | some z =>
    cases z<;>simp only[hb]at he ⊢<;>(try (cases he;done))
    split at he
    ·rename_i vL;rw[if_pos vL.2];exact he
    ·cases he)
  exact⟨r,o+off,len,cap,vs,rfl,rfl,a1,a2,a3,a4,a5⟩
 ·rename_i b off len n' r o q cap hφ hc hq
  obtain⟨vs,a1,a2,a3,a4,a5⟩:=key b off r o q hφ (by
   cases hb:H[b]? with
   | none=>simp[hb]at he
   | some z =>
    cases z<;>simp only[hb]at he ⊢<;>(try (cases he;done))
    split at he
    ·rename_i vL;rw[if_pos vL.2];exact he
    ·cases he)
  exact⟨r,o+off,len,cap,vs,rfl,rfl,a1,a2,a3,a4,a5⟩
theorem SR.Ox {b off r o q:Nat}{cs ts:List T}{vs:List Value}(h:SR w0 g H w)(hb:H[b]?=some (.cells cs))(hφ:g.φ b=some (r,o,q))(Ck:off≤cs.length)(hle:o+off+ts.length≤q)(hv:bL g w ts vs)(ho:cD ts) :
  Le g w g (w.setCells r (o+off) vs)∧SR w0 g (H.set b (.cells (cs.take off++ts++cs.drop (off+ts.length)))) (w.setCells r (o+off) vs):=by
 have lx:b<H.length:=(List.getElem?_eq_some_iff.1 hb).1
 obtain⟨h1,h2,h3⟩:=h.eG b _ hb r o q hφ
 have hl:=hv.1
 have hs:∀j,o+off≤j→j<o+off+vs.length→(w.cell? ⟨r,j,none⟩).isSome=true:=fun j a c=>(h2 j (by omega) (by omega)).2.2
 have tr:=Tr.setCells w r (o+off) vs hs
 have hS:∀r' j,xw r (o+off) vs.length r' j→g.κ r' j=.mut b:=by
  rintro r' j⟨rfl,a,c⟩;exact(h2 j (by omega) (by omega)).1
 have le:Le g w g (w.setCells r (o+off) vs):=Le.iM tr (fun _ _ h=>h) (fun _ _ h=>h) (fun _ _ _ h=>h) (fun r' j fI e=>by rw[hS r' j fI]at e;cases e)
 refine⟨le,h.step (fun b'=>b'=b) tr le (fun r' j fI=>.inr (.inl ⟨b,hS r' j fI,rfl⟩)) (fun _ hm=>hm.elim) (fun r' j hr=>h.fresh r' j (by rwa[dR]at hr)) (fun b' x hx=>by rw[List.length_set];exact h.tE b' x hx)
  (fun t e x hx=>by rw[List.length_set];exact h.jF t e x hx) (fun _ _ _=>rfl) (fun _ _ _ _=>⟨id,id⟩) (fun _ _ _ _=>rfl) (fun b' x hx=>?_)⟩
 rcases eZ lx hx with⟨rfl,rfl⟩|⟨bQ,jU⟩
 ·right
  intro r' o' q' lK
  rw[hφ]at lK;cases lK
  have hlen:(cs.take off++ts++cs.drop (off+ts.length)).length=max cs.length (off+ts.length):=by simp;omega
  refine⟨by rw[hlen];omega,fun j a c=>⟨(h2 j a c).1,by rw[World.frozen?_setCells];exact(h2 j a c).2.1,tr.dV r j ?_ (h2 j a c).2.2⟩,fun i t hi=>?_⟩
  ·obtain⟨x,hx⟩:=Option.isSome_iff_exists.1 (h2 j a c).2.2;exact kC hx
  ·have kD:i<max cs.length (off+ts.length):=by rw[←hlen];exact(List.getElem?_eq_some_iff.1 hi).1
   by_cases iP:off≤i∧i<off+ts.length
   ·have ht:ts[i-off]?=some t:=by
     rw[List.append_assoc,List.getElem?_append_right (by simp;omega),List.getElem?_append_left (by simp;omega)]at hi
     rw[←hi];congr 1;simp;omega
    have al:i-off<vs.length:=by omega
    refine⟨ho t (List.mem_of_getElem? ht),vs[i-off],?_,(hv.2 _ t _ ht (List.getElem?_eq_getElem al)).mono le⟩
    have:=cM r vs (o+off) w hs (i-off) _ (List.getElem?_eq_getElem al)
    rwa[show o+off+(i-off)=o+i by omega]at this
   ·have ht:cs[i]?=some t:=by
     by_cases al:i<off
     ·rw[List.append_assoc,List.getElem?_append_left (by simp;omega),List.getElem?_take,if_pos al]at hi;exact hi
     ·rw[List.getElem?_append_right (by simp;omega),List.getElem?_drop]at hi
      rw[←hi];congr 1;simp;omega
    obtain⟨a,v,On,Oo⟩:=h3 i t ht
    refine⟨a,v,?_,Oo.mono le⟩
    rw[cJ r vs (o+off) w r (o+i) (by omega)];exact On
 ·exact .inl ⟨bQ,jU⟩
theorem Cs (w:World)(dT sT ty elem:TypeId){ei:TypeInfo}(b o Oy YP:Nat)(a:Addr)(Oz YQ:Nat)(cs:List Value)
  (hu:P.underlying dT=some (.slice elem)) (hi:P.info? elem=some ei) (hn:cs.length=Nat.min Oz Oy*ei.size)
  (tH:∀(j:Nat) v,cs[j]?=some v→w.cell? (a.add j)=some v) (hc:∀j,j<cs.length→(w.cell? ⟨b,o+j,none⟩).isSome=true) (hf:∀j,j<cs.length→w.frozen? ⟨b,o+j,none⟩=false) (h1:∀v∈cs,v.oneCell'=true) :
  (Builtin.copy_ #[dT,sT] ty #[.slice (some ⟨b,o,none⟩) Oy YP,.slice (some a) Oz YQ]).run P w=.ok (goInt (Nat.min Oz Oy:Nat)) (w.setCells b o cs):=by
 have hl:=run_loadCells_list (P:=P) w a cs tH
 have cO:=run_storeCells_cells (P:=P) b o cs 0 w (by simpa using hc) (by simpa using hf) h1
 rw[hn]at hl
 have hq:(typeInfo elem).run P w=.ok ei w:=bA hi
 simp[Builtin.copy_,run_underlying hu,Builtin.lenOf,Builtin.firstCells,sizeOf,hq,hl,cO]
theorem J9 {dT sT rt elem:TypeId}{ei:TypeInfo}{x y t:T}{vx vy:Value}{H':af}(hu:P.underlying dT=some (.slice elem))(hi:P.info? elem=some ei)
  (h:SR w0 g H w) (hx:VR g w x vx) (hy:VR g w y vy) (he:B8 H ei.size x y=some (t,H')):cf P w0 g H w (Builtin.copy_ #[dT,sT] rt #[vx,vy]) t H':=by
 have key:∀b off len n' r o q cap,g.φ b=some (r,o,q)→len≤cap→o+off+cap*n'=q→vx=.slice (some ⟨r,o+off,none⟩) len cap →
   (∀ly,D1 y=some ly→∀cs new,H[b]?=some (.cells cs)→iL H ei.size (min ly len) y=some new→n'=ei.size∧ei.size≠0∧off≤cs.length →
    t=.int .i64 (min ly len:Nat)→H'=H.set b (.cells (cs.take off++new.flatten++cs.drop (off+(min ly len)*ei.size)))→cf P w0 g H w (Builtin.copy_ #[dT,sT] rt #[vx,vy]) t H'):=by
  rintro b off len n' r o q cap hφ hc hq rfl ly Ka cs new hb hK⟨rfl,jh,Ck⟩ rfl rfl
  obtain⟨r2,o2,ly',vG,vs,rfl,Ti,a1,a2,a3,a4,a5⟩:=uo h hy hK
  rw[Ka]at Ti;cases Ti
  have lx:b<H.length:=(List.getElem?_eq_some_iff.1 hb).1
  obtain⟨h1,h2,h3⟩:=h.eG b _ hb r o q hφ
  have hmul:min ly len*ei.size≤cap*ei.size:=Nat.mul_le_mul_right _ (by omega)
  have cA:=Cs (P:=P) w dT sT rt elem r (o+off) len cap ⟨r2,o2,none⟩ ly vG vs hu hi (by rw[a3]) (fun j v hj=>by rw[du];exact a1 j v hj) (fun j hj=>(h2 _ (by omega) (by omega)).2.2) (fun j hj=>(h2 _ (by omega) (by omega)).2.1) (a2.js a4)
  obtain⟨le,sr⟩:=h.Ox hb hφ Ck (by rw[a5];omega) a2 a4
  rw[a5]at sr
  refine⟨_,_,g,cA,le,sr,by simpa[goInt]using .int _ _,by simp,fun b' y' a _ d=>⟨fN a ?_,d⟩⟩
  rintro rfl;rw[hφ]at d;cases d
 unfold B8 at he
 cases hx<;>simp only[]at he<;>(try (cases he;done))
 all_goals
  rename_i b off len n' r o q cap hφ hc hq
  cases Ka:D1 y with
  | none=>simp[Ka]at he
  | some ly =>
   simp only[Ka]at he
   cases hb:H[b]? with
   | none=>simp[hb]at he
   | some z =>
    cases hK:iL H ei.size (min ly len) y with
    | none=>cases z<;>simp[hb,hK]at he
    | some new =>
     cases z<;>simp only[hb,hK]at he<;>(try (cases he;done))
     split at he
     ·rename_i vL
      simp only[Option.some.injEq,Prod.mk.injEq]at he
      exact key b off len n' r o q cap hφ hc hq rfl ly Ka _ new hb hK vL he.1.symm he.2.symm
     ·cases he
theorem Ez {R:aw}{n:Nat}{ps:List (Nat×X)}{pv:List (Nat×Value)}(hv:PV g w R ps pv):∀(es fs:List (List T)) (cells:Array Value),jS n es R ps=some fs→(∀c∈es,c.length=n)→bL g w es.flatten cells.toList→cD es.flatten →
  ∃da,Instr.fill (fun i=>some (i*n,n)) cells pv=some da∧bL g w fs.flatten da.toList∧cD fs.flatten∧(∀c∈fs,c.length=n)∧fs.length=es.length:=by
 induction hv with
 | nil =>
  intro es fs cells he hn hz ho
  simp[jS]at he;subst he
  exact⟨cells,rfl,hz,ho,hn,rfl⟩
 | @cons i x v ps pv Tf _ ih =>
  intro es fs cells he hn hz ho
  simp only[jS]at he
  cases hc:(x.ev R).cells? with
  | none=>simp[hc]at he
  | some c =>
   simp only[hc]at he
   split at he
   ·rename_i cI
    obtain⟨lN,hi⟩:=cI
    obtain⟨Jk,Tg⟩:=jT Tf hc
    have a7:v.cells.size=n:=by have:=Jk.1;simp at this;omega
    have tj:=gI es hn
    have xA:es.flatten.length=cells.size:=by have:=hz.1;simpa using this
    have hle:i*n+n≤cells.size:=by
     rw[←xA,tj,←Nat.succ_mul];exact Nat.mul_le_mul_right _ hi
    have b0:=pI a7 hle
    have kH:=lY es i c hn hi
    have qY:bL g w (es.set i c).flatten (v.cells.zipIdx.foldl (fun (cs:Array Value) (x:Value×Nat)=>cs.setIfInBounds (i*n+x.2) x.1) cells).toList:=by
     rw[b0,kH]
     exact bL.append (bL.append (hz.take _) Jk) (hz.drop _)
    have nJ:cD (es.set i c).flatten:=by
     rw[kH]
     intro t ht
     rcases List.mem_append.1 ht with ht|ht
     ·rcases List.mem_append.1 ht with ht|ht
      ·exact ho t (List.mem_of_mem_take ht)
      ·exact Tg t ht
     ·exact ho t (List.mem_of_mem_drop ht)
    obtain⟨da,k1,k2,k3,k4,k5⟩:=ih _ fs _ he (fun c' gB=>by
     rcases List.mem_or_eq_of_mem_set gB with h|h
     ·exact hn c' h
     ·rw[h];exact lN) qY nJ
    refine⟨da,?_,k2,k3,k4,by simpa using k5⟩
    simp only[Instr.fill]
    rw[if_neg]
    ·exact k1
    ·simp[a7];omega
   ·cases he
theorem Kb {ty elem:TypeId}{ei:TypeInfo}{zv:Value}{R:aw}{ps:List (Nat×X)}{pv:List (Nat×Value)}{z:List T}{len:Nat}{fs:List (List T)}(hu:P.underlying ty=some (.slice elem))(hi:P.info? elem=some ei)(hz:ei.zero=some zv)(Eu:fy zv.cells.toList=some z)
  (zq:z.length=ei.size) (a7:len*ei.size≤2^24) (h:SR w0 g H w) (hv:PV g w R ps pv) (he:jS z.length (List.replicate len z) R ps=some fs) :
  cf P w0 g H w (Instr.buildSlice ty len pv.toArray) (.aA H.length 0 len z.length) (H++[.cells fs.flatten]):=by
 obtain⟨Cr,DH⟩:=dQ (g:=g) (w:=w) _ _ Eu
 have YO:=lZ Cr zq len
 have Te:=jV DH len
 rw[zq]at he
 obtain⟨da,k1,k2,k3,k4,k5⟩:=Ez hv _ fs ((Array.range (len*ei.size)).map (fun i=>zv.cells[i%zv.cells.size]!)) he (fun c hc=>by rw[List.eq_of_mem_replicate hc];exact zq) YO Te
 have hlen:fs.length=len:=by rw[k5];simp
 have tj:fs.flatten.length=len*ei.size:=by rw[gI fs k4,hlen]
 have tG:da.size=len*ei.size:=by have:=k2.1;simp only[Array.length_toList]at this;omega
 obtain⟨g',le,sr,fr,hφ⟩:=h.iD (c:=da) (ty:=elem) (cs:=fs.flatten) (Ew w) rfl (fun i t hi=>by
  obtain⟨v,a1,a2⟩:=k2.gA i t hi
  exact⟨k3 t (List.mem_of_getElem? hi),v,by simpa using a1,a2⟩)
 refine⟨.slice (some ⟨w.heap.size,0,none⟩) len len,_,g',?_,le,sr,?_,fr⟩
 ·have Ey:¬len*ei.size>2^24:=by omega
  by_cases h0:len*ei.size=0
  ·have e0:((Array.range (len*ei.size)).map (fun i=>zv.cells[i%zv.cells.size]!))=((Array.range (len*ei.size)).map (fun i=>(#[]:Array Value)[i%(#[]:Array Value).size]!)):=by
    rw[h0];simp
   rw[e0]at k1
   simp only[Instr.buildSlice,Sem.run_bind,run_underlying hu,Result.andThen_ok,sizeOf,bA hi,Sem.run_pure,Ey,if_false,h0,if_true]
   rw[h0]at k1
   simp at k1
   simp[k1,newRow]
  ·simp only[Instr.buildSlice,Sem.run_bind,run_underlying hu,Result.andThen_ok,sizeOf,bA hi,Sem.run_pure,Ey,if_false,h0,zeroValue,hz]
   simp[k1,newRow]
 ·rw[zq]
  exact .aA (r:=w.heap.size) (o:=0) (off:=0) hφ (Nat.le_refl _) (by rw[tG];simp)
theorem Kc {sT xT elem rt:TypeId}{ei:TypeInfo}{zv:Value}{z:List T}{kq kn:IntKind}{x t:T}{vx:Value}{k:Nat}{H':af}(hu:P.underlying sT=some (.slice elem))(Ke:P.underlying xT=some (.int kn))(hi:P.info? elem=some ei)(hz:ei.zero=some zv)(Eu:fy zv.cells.toList=some z)
  (hb:ei.bytes≠0) (h:SR w0 g H w) (hx:VR g w x vx) (he:D2 H ei.size ei.bytes z x k=some (t,H')):cf P w0 g H w (Builtin.append_ #[sT,xT] rt #[vx,.int kq k]) t H':=by
 unfold D2 at he
 cases x<;>simp only[]at he<;>(try (cases he;done))
 rename_i b off len n' c
 cases hK:iL H ei.size len (.eH b off len n' c)with
 | none=>simp[hK]at he
 | some es =>
  simp only[hK]at he
  split at he
  ·rename_i vL
   obtain⟨rfl,jh,Tj,lN,zq,iR⟩:=vL
   simp only[Option.some.injEq,Prod.mk.injEq]at he
   obtain⟨rfl,rfl⟩:=he
   obtain⟨r,o,ly,cap,vs,rfl,Ka,a1,a2,a3,a4,a5⟩:=uo h hx hK
   cases Ka
   have oB:cap=c:=by cases hx;rfl
   subst oB
   obtain⟨Cr,DH⟩:=dQ (g:=g) (w:=w) _ _ Eu
   have hold:(Builtin.firstCells ei.size len (.slice (some ⟨r,o,none⟩) len cap)).run P w.drew=.ok vs.toArray w.drew:=by
    have:=run_loadCells_list (P:=P) w.drew ⟨r,o,none⟩ vs (fun j v hj=>by rw[du];exact a1 j v hj)
    rw[a3]at this
    simpa[Builtin.firstCells]using this
   have XL:¬Builtin.nextslicecap (len+k) cap*ei.bytes>2^48:=AM lN iR
   have hr:=iR
   simp only[cC,decide_eq_true_eq]at hr
   have MQ:(len+k)*ei.bytes≤281474976710656:=Nat.le_trans (Nat.mul_le_mul_right _ (by omega)) hr
   have YR:len+k≤281474976710656:=Nat.le_trans (Nat.le_mul_of_pos_right _ (by omega)) MQ
   have Ct:k*ei.bytes≤281474976710656:=Nat.le_trans (Nat.mul_le_mul_right _ (by omega)) MQ
   have cA:=Go.Lib.run_append_grow_zeros (P:=P) w sT xT rt elem ei zv kq kn hu Ke hi hz (some ⟨r,o,none⟩) len cap vs hold k Tj (by omega) lN (by omega) Ct (by omega)
   have J1:zv.cells.toList.length=ei.size:=by have:=Cr.1;omega
   have Tk:zv.cells.size=ei.size:=by simpa using J1
   have Et:bL g w (es.flatten++(List.replicate k z).flatten) (vs++(Builtin.zeroCells zv.cells k).toList):=by
    refine bL.append a2 ?_
    have:=lZ Cr zq k
    simpa[Builtin.zeroCells,Tk]using this
   have dJ:=grownCap_ge w (len+k) cap elem
   generalize grownCap w (len+k) cap elem=nc at cA dJ
   have Tm:cD (es.flatten++(List.replicate k z).flatten):=fun t ht=>by
    rcases List.mem_append.1 ht with ht|ht
    ·exact a4 t ht
    ·exact jV DH k t ht
   have a7:(vs.toArray++Builtin.zeroCells zv.cells k++Builtin.zeroCells zv.cells (nc-(len+k))).size=nc*ei.size:=by
    simp only[Array.size_append,lV,List.size_toArray,a3,Tk]
    rw[←Nat.add_mul,←Nat.add_mul];congr 1;omega
   obtain⟨g',le,sr,fr,hφ⟩:=h.iD (c:=vs.toArray++Builtin.zeroCells zv.cells k++Builtin.zeroCells zv.cells (nc-(len+k))) (ty:=elem) (cs:=es.flatten++(List.replicate k z).flatten) (qZ w) rfl (fun i t hi=>by
    obtain⟨v,b1,b2⟩:=Et.gA i t hi
    refine⟨Tm t (List.mem_of_getElem? hi),v,?_,b2⟩
    rw[List.getElem?_toArray]at b1
    have al:=(List.getElem?_eq_some_iff.1 b1).1
    have e:(vs.toArray++Builtin.zeroCells zv.cells k++Builtin.zeroCells zv.cells (nc-(len+k))).toList=(vs++(Builtin.zeroCells zv.cells k).toList)++(Builtin.zeroCells zv.cells (nc-(len+k))).toList:=by simp
    rw[←Array.getElem?_toList,e,List.getElem?_append_left al];exact b1)
   refine⟨_,_,g',cA,le,sr,?_,fr⟩
   exact .aA (r:=w.heap.size) (o:=0) (off:=0) hφ dJ (by rw[a7];simp)
  ·cases he
end
section
variable {P:Program} {w0 w:World} {g:Ctx} {H:af}
theorem tN {params results:Array TypeId}(tS e:TypeId)(hp:params[0]?=some tS)(ht:P.underlying tS=some (.slice e))(size:Nat)(hz:(Go.sizeOf e).run P w=.ok size w)
  (a b:Addr) (la ca lb cb:Nat) (bQ:a.block≠b.block) (tA tB:TypeId) (kA kB:Nat)
  (YS:w.shape? a.block=some (tA,kA)) (XI:w.shape? b.block=some (tB,kB)) (YT:kB≠0)
  (hfa:w.frozen? a=false) (hfe:w.frozen? { block:=a.block,off:=kA }=false) :
  (Extern.SlicesOverlaps.overlaps params results #[.slice (some a) la ca,.slice (some b) lb cb]).run P w=.ok (.bool false) w:=by
 have XL:(a.block != b.block)=true:=by simpa using bQ
 have OA:(a.block==b.block)=false:=by simpa using bQ
 conv=>lhs;arg 2;whnf
 simp only[hp]
 by_cases h0:la=0∨lb=0∨size=0
 ·simp[run_underlying ht,hz,h0]
 ·cases kB with
  | zero=>exact absurd rfl YT
  | succ kB =>
   simp[run_underlying ht,hz,h0,XL,OA,frozen,noView,viewAt,mayBeOne,stringish,shape,Sem.run,YS,XI,hfa,hfe]
theorem vM {params results:Array TypeId}(tS e:TypeId)(hp:params[0]?=some tS)(ht:P.underlying tS=some (.slice e))(size:Nat)(hz:(Go.sizeOf e).run P w=.ok size w)
  (a b:Addr) (la ca lb cb:Nat) (bQ:a.block=b.block) (hd:la≠0→lb≠0→size≠0→¬(a.off<b.off+lb*size∧b.off<a.off+la*size)) :
  (Extern.SlicesOverlaps.overlaps params results #[.slice (some a) la ca,.slice (some b) lb cb]).run P w=.ok (.bool false) w:=by
 have XL:(a.block != b.block)=false:=by simpa using bQ
 have OA:(a.block==b.block)=true:=by simpa using bQ
 conv=>lhs;arg 2;whnf
 simp only[hp]
 by_cases h0:la=0∨lb=0∨size=0
 ·simp[run_underlying ht,hz,h0]
 ·have h1:=hd (fun h=>h0 (.inl h)) (fun h=>h0 (.inr (.inl h))) (fun h=>h0 (.inr (.inr h)))
  simp[run_underlying ht,hz,h0,XL,OA]
  intro al
  have:¬b.off<a.off+la*size:=fun h=>h1 ⟨al,h⟩
  omega
theorem oJ {params results:Array TypeId}(tS e:TypeId)(hp:params[0]?=some tS)(ht:P.underlying tS=some (.slice e))(size:Nat)(hz:(Go.sizeOf e).run P w=.ok size w)
  (a b:Addr) (la ca lb cb:Nat) (h0:la=0∨size=0) :
  (Extern.SlicesOverlaps.overlaps params results #[.slice (some a) la ca,.slice (some b) lb cb]).run P w=.ok (.bool false) w:=by
 have h0:la=0∨lb=0∨size=0:=by rcases h0 with h|h;exact .inl h;exact .inr (.inr h)
 conv=>lhs;arg 2;whnf
 simp only[hp]
 simp[run_underlying ht,hz,h0]
theorem xB {r j:Nat}(h:(w.cell? ⟨r,j,none⟩).isSome=true):∃t k,w.shape? r=some (t,k)∧k≠0:=by
 unfold World.cell? at h
 unfold World.shape?
 cases hr:w.heap[r]? with
 | none=>simp[hr]at h
 | some x =>
  cases x<;>simp[hr]at h ⊢
  rename_i c t f
  exact⟨_,_,⟨rfl,rfl⟩,by omega⟩
theorem Kf {params results:Array TypeId}{tS e:TypeId}{ei:TypeInfo}{x y t:T}{vx vy:Value}{H':af}(hp:params[0]?=some tS)(ht:P.underlying tS=some (.slice e))(hi:P.info? e=some ei)
  (h:SR w0 g H w) (hx:VR g w x vx) (hy:VR g w y vy) (he:B9 H ei.size x y=some (t,H')):cf P w0 g H w (Extern.SlicesOverlaps.overlaps params results #[vx,vy]) t H':=by
 have hz:(Go.sizeOf e).run P w=.ok ei.size w:=by simp[sizeOf,bA hi]
 unfold B9 at he
 cases hx<;>(try (simp only[reduceCtorEq]at he;done))<;>(try (cases he;done))
 rename_i bv Kg lv n1 r' o' q' vG lK gB MP
 cases hy<;>(try (simp only[reduceCtorEq]at he;done))<;>(try (cases he;done))
 rename_i b off len n2 r o q c hφ hc hq
 cases XM:H[bv]? with
 | none=>simp[XM]at he
 | some zv =>
  cases hb:H[b]? with
  | none=>cases zv<;>simp[XM,hb]at he
  | some z =>
   cases zv<;>cases z<;>simp only[XM,hb]at he<;>(try (cases he;done))
   rename_i csv cs
   split at he
   ·rename_i vL
    obtain⟨bQ,rfl,DI,OB⟩:=vL
    simp only[Option.some.injEq,Prod.mk.injEq]at he
    obtain⟨rfl,rfl⟩:=he
    subst DI
    obtain⟨a1,a2,a3⟩:=h.eG _ _ XM r' o' q' lK
    obtain⟨b1,b2,b3⟩:=h.eG _ _ hb r o q hφ
    by_cases hr:r'=r
    ·subst hr
     refine cf.same h (vM tS e hp ht _ hz _ _ _ _ _ _ rfl fun hl DJ hs hh=>?_) (.bool _)
     obtain⟨h1,h2⟩:=hh
     simp only at h1 h2
     have m1:lv*ei.size≤vG*ei.size:=Nat.mul_le_mul_right _ gB
     have m2:len*ei.size≤c*ei.size:=Nat.mul_le_mul_right _ hc
     have p1:0<lv*ei.size:=Nat.mul_pos (by omega) (by omega)
     have p2:0<len*ei.size:=Nat.mul_pos (by omega) (by omega)
     have k1:=(a2 (max (o'+Kg) (o+off)) (by omega) (by omega)).1
     have k2:=(b2 (max (o'+Kg) (o+off)) (by omega) (by omega)).1
     rw[k1]at k2;cases k2;exact bQ rfl
    ·by_cases Tn:lv=0
     ·subst Tn
      refine cf.same h ?_ (.bool _)
      exact oJ tS e hp ht _ hz _ _ _ _ _ _ (.inl rfl)
     ·by_cases hs:ei.size=0
      ·refine cf.same h ?_ (.bool _)
       exact oJ tS e hp ht _ hz _ _ _ _ _ _ (.inr hs)
      ·have m1:lv*ei.size≤vG*ei.size:=Nat.mul_le_mul_right _ gB
       have p1:0<lv*ei.size:=Nat.mul_pos (by omega) (by omega)
       have tM:=a2 (o'+Kg) (by omega) (by omega)
       have hcb:=b2 o (Nat.le_refl _) (by omega)
       have jl:w0.heap.size≤r':=by
        rcases Nat.lt_or_ge r' w0.heap.size with al|dJ
        ·have:=h.Ch r' (o'+Kg) al;rw[tM.1]at this;cases this
        ·exact dJ
       obtain⟨tA,kA,YS,_⟩:=xB tM.2.2
       obtain⟨tB,kB,XI,YT⟩:=xB hcb.2.2
       exact cf.same h (tN tS e hp ht _ hz _ _ _ _ _ _ hr tA tB kA kB YS XI YT (h.qV r' _ jl) (h.qV r' _ jl)) (.bool _)
   ·cases he
end
end Go.Rmp
end

section
namespace Go.Rmp
open Go.ChangeMaps (setBlock)
section
variable {P:Program} {w0 w:World} {g:Ctx} {H:af}
theorem SR.To {w':World}(h:SR w0 g H w)(tr:Tr w w' hY ju)(hz:w'.heap.size=w.heap.size):SR w0 g H w'∧Le g w g w':=by
 have le:Le g w g w':=Le.iM tr (fun _ _ h=>h) (fun _ _ h=>h) (fun _ _ _ h=>h) (fun _ _ hs=>hs.elim)
 refine⟨?_,le⟩
 exact h.step (fun _=>False) tr le (fun _ _ hs=>hs.elim) (fun _ hm=>hm.elim) (fun r o hr=>h.fresh r o (by omega)) h.tE h.jF (fun _ _ _=>rfl) (fun _ _ _ _=>⟨id,id⟩) (fun _ _ _ _=>rfl) (fun b x hx=>.inl ⟨id,hx⟩)
theorem OC {b:Nat}{vm:Value}{es:List (T×T)}(h:SR w0 g H w)(hm:VR g w (.map b) vm)(jg:hO H (.map b)=some es) :
  ∃r o q,vm=.map (some r)∧g.φ b=some (r,o,q)∧g.κ r 0=.mut b∧b<H.length∧∃ay clock,w.heap[r]?=some (.map ay clock)∧eI g w es ay∧fK ay clock:=by
 cases hm with
 | @map _ r o q hφ =>
  simp only[hO]at jg
  cases hb:H[b]? with
  | none=>simp[hb]at jg
  | some y =>
   have lx:=(List.getElem?_eq_some_iff.1 hb).1
   cases y<;>simp[hb]at jg
   ·subst jg
    obtain⟨h1,ay,c,h2,h3,h4⟩:=h.eG b _ hb r o q hφ
    exact⟨r,o,q,rfl,hφ,h1,lx,ay,c,h2,h3,h4⟩
   ·subst jg
    obtain⟨r2,o',q',lK,h1,ay,c,h2,h3,h4,_⟩:=h.eG b _ hb
    rw[hφ]at lK;cases lK
    exact⟨r,o,q,rfl,hφ,h1,lx,ay,c,h2,h3,h4⟩
theorem Kh {ty key elem:TypeId}{b:Nat}{vm:Value}{es:List (T×T)}(hu:P.underlying ty=some (.map key elem))(h:SR w0 g H w)(hm:VR g w (.map b) vm)(jg:hO H (.map b)=some es) :
  cf P w0 g H w (Instr.range ty vm) (.ptr H.length 0) (H.set b (.cY es (List.range es.length) H.length none)++[.vD b]):=by
 obtain⟨r,o,q,rfl,hφ,hk,lx,ay,c,h2,h3,h4⟩:=OC h hm jg
 have YU:fL (.mapIter (some r) c #[] c)=true:=rfl
 have xy:=Tr.alloc w (.mapIter (some r) c #[] c) (.inl YU)
 have bQ:∀r j ow,g.κ r j=ow→ow≠.free→r≠w.heap.size:=by rintro r j ow e hn rfl;exact hn (e▸h.fresh _ j (Nat.le_refl _))
 have YV:=h.JV (b:=H.length) (Nat.le_refl _)
 have YW:=bQ r 0 _ hk (by simp)
 have le:Le g w ((g.row w.heap.size fun _=>.mut b).at H.length (w.heap.size,0,0)) (w.alloc (.mapIter (some r) c #[] c)):=Le.iM xy
  (fun b' x hx=>by simp only[Ctx.at,Ctx.row];split;rename_i e;subst e;rw[YV]at hx;simp at hx;exact hx)
  (fun r o hk=>by simp only[Ctx.row,Ctx.at];rw[if_neg (bQ r o _ hk (by simp))];exact hk) (fun _ _ _ h=>h) (fun _ _ hs=>hs.elim)
 have al:r<w.heap.size:=(Array.getElem?_eq_some_iff.1 h2).1
 refine⟨_,_,_,by simp[Instr.range,run_underlying hu,getObj,Sem.run,h2,newObj],le,?_,.ptr (r:=w.heap.size) (o:=0) (q:=0) (by simp[Ctx.at]),by simp,fun b' x a _ d=>?_⟩
 ·refine h.step (fun b'=>b'=b∨b'=H.length) xy le (fun _ _ hs=>hs.elim) (fun _ hm=>hm.elim) (fun r o hr=>?_) (fun b' x hx=>?_) (fun t e x hx=>by have:=h.jF t e x hx;simp;omega) (fun b' _ iB=>?_) (fun r j b' iB=>?_) (fun _ _ _ _=>rfl) (fun b' x hx=>?_)
  ·simp at hr
   simp only[Ctx.row,Ctx.at];rw[if_neg (by omega)];exact h.fresh r o (by omega)
  ·simp only[Ctx.at,Ctx.row]at hx
   split at hx
   ·rename_i e;subst e;simp
   ·have:=h.tE b' x hx;simp;omega
  ·simp only[Ctx.at,Ctx.row];rw[if_neg (fun e=>iB (.inr e))]
  ·constructor<;>intro e<;>simp only[Ctx.row,Ctx.at]<;>rw[if_neg (bQ r j _ e (by simp))]<;>exact e
  ·by_cases e:b'=H.length
   ·subst e
    rw[List.getElem?_append_right (by simp)]at hx
    simp at hx;subst hx
    exact .inr trivial
   ·have iB:b'<H.length:=by
     have:=(List.getElem?_eq_some_iff.1 hx).1
     simp at this;omega
    rw[List.getElem?_append_left (by simpa using iB)]at hx
    rcases eZ lx hx with⟨rfl,rfl⟩|⟨hn,jU⟩
    ·refine .inr ⟨r,o,q,le.φ _ _ hφ,by simp only[Ctx.row,Ctx.at];rw[if_neg YW];exact hk,ay,c,?_,h3.mono le,h4,w.heap.size,0,#[],by simp[Ctx.at],by simp[Ctx.row,Ctx.at],World.alloc_heap_new w _,List.nodup_range,fun i=>?_,fun c hc=>by cases hc⟩
     ·show(w.heap.push _)[r]?=_
      rw[Array.getElem?_push,if_neg (by omega)];exact h2
     ·rw[List.mem_range,←h3.1]
      exact⟨fun hi=>⟨ay[i],Array.getElem?_eq_getElem hi,by simp⟩,fun ⟨m,hm,_⟩=>(Array.getElem?_eq_some_iff.1 hm).1⟩
    ·exact .inl ⟨fun hh=>hh.elim hn e,jU⟩
 ·have hl:=(List.getElem?_eq_some_iff.1 a).1
  refine⟨?_,by simp only[Ctx.at,Ctx.row];rw[if_neg (by omega)];exact d⟩
  rw[List.getElem?_append_left (by simpa using hl)]
  exact fN a (by rintro rfl;rw[hφ]at d;cases d)
theorem Ki {ty:TypeId}{b bi:Nat}{v:Value}{es:List (T×T)}{ix:List Nat}{cur:Option Nat}(h:SR w0 g H w)(hx:VR g w (.ptr bi 0) v)(hb:H[b]?=some (.cY es ix bi cur)) :
  ∃t H',ov H b bi es ix t H'∧cf P w0 g H w (Instr.next v false ty) t H':=by
 have lx:b<H.length:=(List.getElem?_eq_some_iff.1 hb).1
 obtain⟨r,o,q,hφ,h1,ay,c,h2,h3,h4,ri,q',seen,h5,h6,h7,h8,h9,aC⟩:=h.eG b _ hb
 cases hx with
 | @ptr _ _ r2 o2 q2 AO =>
  rw[h5]at AO;cases AO
  have ar:∀y,Fr g H g (H.set b y):=fun y=>⟨by simp,fun b' x a _ d=>⟨fN a (by rintro rfl;rw[hφ]at d;cases d),d⟩⟩
  rcases run_next_at (P:=P) w ty ri r c c seen ay c h7 h2 h4.1 (Nat.le_refl _)with⟨hz,cA⟩|⟨e,he,w1,Sf,cA⟩
  ·have xu:ix=[]:=by
    refine List.eq_nil_iff_forall_not_mem.2 fun i hi=>?_
    obtain⟨m,hm,hn⟩:=(h9 i).1 hi
    have:m∈leftOf ay seen:=by
     simp only[leftOf,Array.mem_filter]
     exact⟨Array.mem_of_getElem? hm,by simpa using hn⟩
    rw[Array.eq_empty_of_size_eq_zero hz]at this
    simp at this
   refine⟨_,_,.inl ⟨xu,rfl,rfl⟩,.tuple #[.bool false],w,g,by simpa using cA,.refl _ _,?_,.bJ rfl (fun i t v a b=>?_),ar _⟩
   ·refine h.step (fun b'=>b'=b) (Tr.refl w) (.refl _ _) (fun _ _ hs=>hs.elim) (fun _ hm=>hm.elim) h.fresh (fun b' x hx=>by rw[List.length_set];exact h.tE b' x hx) (fun t e x hx=>by rw[List.length_set];exact h.jF t e x hx) (fun _ _ _=>rfl) (fun _ _ _ _=>⟨id,id⟩) (fun _ _ _ _=>rfl) (fun b' x hx=>?_)
    rcases eZ lx hx with⟨rfl,rfl⟩|⟨hn,jU⟩
    ·refine .inr fun r' o' q' lK=>?_
     rw[hφ]at lK;cases lK
     exact⟨h1,ay,c,h2,h3,h4⟩
    ·exact .inl ⟨hn,jU⟩
   ·cases i with
    | zero=>simp at a b;subst a;subst b;exact .bool _
    | succ i=>simp at a
  ·have EA:e∈ay∧e.born∉seen:=by
    have:e∈leftOf ay seen:=by simpa using he
    simp only[leftOf,Array.mem_filter]at this
    exact⟨this.1,by simpa using this.2⟩
   obtain⟨i,hi,tO⟩:=Array.getElem_of_mem EA.1
   have gJ:ay[i]?=some e:=by rw[Array.getElem?_eq_getElem hi,tO]
   have l3:i<es.length:=by rw[←h3.1];exact hi
   have xu:i∈ix:=(h9 i).2 ⟨e,gJ,EA.2⟩
   have gl:=h3.2 i es[i] e (List.getElem?_eq_getElem l3) gJ
   have trd:Tr w w1 hY ju:=by rcases Sf with rfl|rfl;exact Tr.refl _;exact Tr.drew _
   obtain⟨OD,et⟩:=h.To trd (by rcases Sf with rfl|rfl<;>rfl)
   have XN:w1.heap[ri]?=some (.mapIter (some r) c seen c):=by rcases Sf with rfl|rfl<;>exact h7
   have Kj:w1.heap[r]?=some (.map ay c):=by rcases Sf with rfl|rfl<;>exact h2
   have tr:Tr w1 (World.cn w1 ri (.mapIter (some r) c (seen.push e.born) c)) hY (fun r'=>r'=ri):=Tr.zo w1 ri rfl rfl XN
   have le:Le g w1 g (World.cn w1 ri (.mapIter (some r) c (seen.push e.born) c)):=Le.iM tr (fun _ _ h=>h) (fun _ _ h=>h) (fun _ _ _ h=>h) (fun _ _ hs=>hs.elim)
   have hrr:r≠ri:=by rintro rfl;rw[Kj]at XN;cases XN
   refine⟨_,_,.inr ⟨i,es[i],xu,List.getElem?_eq_getElem l3,rfl,rfl⟩,.tuple #[.bool true,e.key,e.val],_,g,by simpa[setBlock,World.cn]using cA,et.trans le,?_,.bJ rfl (fun i t v a b=>?_),ar _⟩
   ·show SR w0 g _ (World.cn w1 ri (.mapIter (some r) c (seen.push e.born) c))
    refine OD.step (fun b'=>b'=b) tr le (fun _ _ hs=>hs.elim) (fun r' hm=>⟨b,by rw[hm];exact h6,rfl⟩) (fun r' j pt=>OD.fresh r' j (by simpa[World.cn]using pt)) (fun b' x hx=>by rw[List.length_set];exact h.tE b' x hx) (fun t e x hx=>by rw[List.length_set];exact h.jF t e x hx) (fun _ _ _=>rfl) (fun _ _ _ _=>⟨id,id⟩) (fun _ _ _ _=>rfl) (fun b' x hx=>?_)
    rcases eZ lx hx with⟨rfl,rfl⟩|⟨hn,jU⟩
    ·refine .inr ⟨r,o,q,hφ,h1,ay,c,?_,h3.mono (et.trans le),h4,ri,q',seen.push e.born,h5,h6,rN _ _ (Array.getElem?_eq_some_iff.1 XN).1,h8.erase _,fun j=>?_,fun c' gB=>?_⟩
     ·rw[rM _ _ hrr];exact Kj
     ·rw[h8.mem_erase_iff,h9 j]
      constructor
      ·rintro⟨Tp,m,hm,hn⟩
       refine⟨m,hm,fun iP=>?_⟩
       rcases Array.mem_push.1 iP with iP|iP
       ·exact hn iP
       ·apply Tp
        have hj:=(Array.getElem?_eq_some_iff.1 hm).1
        have fh:=h4.2
        have e1:(ay.toList.map (·.born))[j]?=some m.born:=by simp[hm]
        have e2:(ay.toList.map (·.born))[i]?=some m.born:=by simp[gJ,iP]
        have Sg:j<(ay.toList.map (·.born)).length:=by simpa using hj
        exact(List.getElem?_inj Sg fh).1 (e1.trans e2.symm)
      ·rintro⟨m,hm,hn⟩
       refine⟨fun Tp=>?_,m,hm,fun iP=>hn (Array.mem_push.2 (.inl iP))⟩
       subst Tp
       rw[gJ]at hm;cases hm
       exact hn (Array.mem_push.2 (.inr rfl))
     ·cases gB
      exact⟨e,gJ,by simp⟩
    ·exact .inl ⟨hn,jU⟩
   ·have On:=gl.1.mono (et.trans le)
    have Oo:=gl.2.mono (et.trans le)
    match i,a,b with
    | 0,a,b=>simp at a b;subst a;subst b;exact .bool _
    | 1,a,b=>simp at a b;subst a;subst b;exact On
    | 2,a,b=>simp at a b;subst a;subst b;exact Oo
    | i+3,a,b=>simp at a
theorem Kk {b bi c:Nat}{v:Value}{es:List (T×T)}{ix:List Nat}{e:T×T}(h:SR w0 g H w)(hx:VR g w (.ptr bi 0) v)(hb:H[b]?=some (.cY es ix bi (some c)))(he:es[c]?=some e) :
  cf P w0 g H w (Instr.entry v) (.bJ [e.1,e.2]) H:=by
 obtain⟨r,o,q,hφ,h1,ay,cl,h2,h3,h4,ri,q',seen,h5,h6,h7,h8,h9,aC⟩:=h.eG b _ hb
 cases hx with
 | @ptr _ _ r2 o2 q2 AO =>
  rw[h5]at AO;cases AO
  obtain⟨m,hm,hs⟩:=aC c rfl
  have gl:=h3.2 c e m he hm
  have pJ:m∈ay.toList:=by have:=Array.mem_of_getElem? hm;simpa using this
  have hf:ay.find? (·.born==m.born)=some m:=by rw[←Array.find?_toList];exact find_born m ay.toList h4.2 pJ
  refine cf.same h (v:=.tuple #[m.key,m.val]) ?_ (.bJ rfl fun i t v a b=>?_)
  ·simp[Instr.entry,getObj,Sem.run,h7,h2,hs,hf]
  ·match i,a,b with
   | 0,a,b=>simp at a b;subst a;subst b;exact gl.1
   | 1,a,b=>simp at a b;subst a;subst b;exact gl.2
   | i+2,a,b=>simp at a
theorem Km {ty rt elem:TypeId}{ei:TypeInfo}{zv:Value}{z:List T}{v:Value}{b off len:Nat}{cs:List T}(hu:P.underlying ty=some (.slice elem))(hi:P.info? elem=some ei)(hz:ei.zero=some zv)(Eu:fy zv.cells.toList=some z)
  (h:SR w0 g H w) (hx:VR g w (.aA b off len ei.size) v) (hb:H[b]?=some (.cells cs)) (xA:z.length=ei.size) (hle:off+len*ei.size≤cs.length) :
  cf P w0 g H w (Builtin.clear_ #[ty] rt #[v]) (.bJ []) (H.set b (.cells (cs.take off++(List.replicate len z).flatten++cs.drop (off+len*ei.size)))):=by
 cases hx with
 | @aA _ _ _ _ r o q cap hφ hc hq =>
  obtain⟨h1,h2,h3⟩:=h.eG b _ hb r o q hφ
  obtain⟨Cr,DH⟩:=dQ (g:=g) (w:=w) _ _ Eu
  have gl:=lZ Cr xA len
  have Si:=jV DH len
  have hlen:(List.replicate len z).flatten.length=len*ei.size:=by simp[List.length_flatten,xA]
  have J1:zv.cells.size=ei.size:=by have:=Cr.1;simp at this;omega
  have OE:bL g w (List.replicate len z).flatten (Builtin.zeroCells zv.cells len).toList:=by
   simpa[Builtin.zeroCells,J1]using gl
  obtain⟨le,sr⟩:=h.store hb hφ (by rw[hlen];exact hle) OE Si
  rw[hlen]at sr
  refine⟨.tuple #[],_,g,?_,le,sr,.bJ rfl (by simp),by simp,fun b' y' a _ d=>⟨fN a (by rintro rfl;rw[hφ]at d;cases d),d⟩⟩
  have hl:=OE.1
  rw[hlen]at hl
  cases len with
  | zero =>
   have e:(Builtin.zeroCells zv.cells 0).toList=[]:=List.eq_nil_of_length_eq_zero (by rw[←hl];simp)
   rw[e]
   simp[Builtin.clear_,run_underlying hu,World.setCells]
  | succ len =>
   have cA:=run_storeCells_cells (P:=P) r (o+off) (Builtin.zeroCells zv.cells (len+1)).toList 0 w (fun j hj=>(h2 _ (by omega) (by omega)).2.2) (fun j hj=>(h2 _ (by omega) (by omega)).2.1) (OE.js Si)
   have hzr:(zeroValue elem).run P w=.ok zv w:=by simp[zeroValue,bA hi,hz]
   simp only[Nat.add_zero]at cA
   simp[Builtin.clear_,run_underlying hu,hzr,cA]
theorem SR.shrink {b:Nat}{cs:List T}(k:Nat)(h:SR w0 g H w)(hb:H[b]?=some (.cells cs))(hφ:∃x,g.φ b=some x):SR w0 g (H.set b (.cells (cs.take k))) w∧Fr g H g (H.set b (.cells (cs.take k))):=by
 have lx:b<H.length:=(List.getElem?_eq_some_iff.1 hb).1
 obtain⟨y,hy⟩:=hφ
 refine⟨?_,by simp,fun b' x a _ d=>⟨fN a (by rintro rfl;rw[hy]at d;cases d),d⟩⟩
 refine h.step (fun b'=>b'=b) (Tr.refl w) (.refl _ _) (fun _ _ hs=>hs.elim) (fun _ hm=>hm.elim) h.fresh (fun b' x hx=>by rw[List.length_set];exact h.tE b' x hx) (fun t e x hx=>by rw[List.length_set];exact h.jF t e x hx) (fun _ _ _=>rfl) (fun _ _ _ _=>⟨id,id⟩) (fun _ _ _ _=>rfl) (fun b' x hx=>?_)
 rcases eZ lx hx with⟨rfl,rfl⟩|⟨hn,jU⟩
 ·refine .inr fun r o q hφ=>?_
  obtain⟨h1,h2,h3⟩:=h.eG b' _ hb r o q hφ
  refine⟨by simp;omega,h2,fun i t hi=>h3 i t ?_⟩
  rw[List.getElem?_take]at hi
  split at hi
  ·exact hi
  ·cases hi
 ·exact .inl ⟨hn,jU⟩
end
end Go.Rmp
end

section
namespace Go.Rmp
def aO:Operand→Option X
 | .tmp t=>some (.r t)
 | .const v=>(nH v).map .c
 | .func f=>some (.c (.fn f []))
 | .global _=>none
def gm:List Operand→Option (List X)
 | []=>some []
 | x :: xs=>match aO x,gm xs with
  | some y,some ys=>some (y :: ys)
  | _,_=>none
def kJ:Option Operand→Option (Option X)
 | none=>some none
 | some x=>(aO x).map some
def nK:List (Nat×Operand)→Option (List (Nat×X))
 | []=>some []
 | (i,x) :: xs=>match aO x,nK xs with
  | some y,some ys=>some ((i,y) :: ys)
  | _,_=>none
def ty1:TypeDesc→Option xc
 | .int _=>some .int
 | .string=>some .str
 | .bool=>some .bool
 | _=>none
def kinds (P:Program):List Field→Option (List xc)
 | []=>some []
 | f :: fs=>match (P.underlying f.type).bind ty1,kinds P fs with
  | some k,some ks=>some (k :: ks)
  | _,_=>none
def vN (P:Program)(ty:TypeId):Option KT :=
 match P.underlying ty with
 | some (.struct fs)=>(kinds P fs.toList).map .st
 | some d=>(ty1 d).map .sc
 | none=>none
def zeroOf (P:Program)(ty:TypeId):Option (List T) :=
 match P.info? ty with
 | some i=>match i.zero with
  | some zv=>fy zv.cells.toList
  | none=>none
 | none=>none
def isEq:BinOp→Option Bool
 | .eql=>some false
 | .neq=>some true
 | _=>none
def cls:TypeDesc→Option JA
 | .pointer _=>some .ptr
 | .slice _=>some .slice
 | .map _ _=>some .map
 | .func _ _ _=>some .func
 | _=>none
def EB (P:Program)(op:BinOp)(ty:TypeId)(x y:X):Option Bo :=
 match P.underlying ty with
 | some (.int _)|some .string=>some (.bin op x y)
 | some .bool=>(isEq op).map fun n=>.beq n x y
 | some (.struct fs)=>match isEq op,kinds P fs.toList with
  | some n,some ks=>if flat P fs.toList 0 ks&&!P.stoodInHeld ty&&!P.eqGuardType P.depth ty then some (.eqs n ks x y)else none
  | _,_=>none
 | some d=>match isEq op,cls d with
  | some n,some c=>some (.om n c x y)
  | _,_=>none
 | none=>none
def uq (P:Program)(ty:TypeId)(x:X):Option Bo :=
 match P.underlying ty,P.info? ty with
 | some d,some i=>some (.ld (if eJ d then i.size else 1) (eJ d) x)
 | _,_=>none
def nL (P:Program)(ty:TypeId)(x:X)(f:Nat)(ad:Bool):Option Bo :=
 match P.underlying ty with
 | some (.struct fs)=>match fs[f]? with
  | some f=>match P.underlying f.type,P.info? f.type with
   | some d,some i=>if ad then(if i.size=0 then none else some (.gW f.offset x))else some (.SP f.offset i.size (eJ d) x)
   | _,_=>none
  | none=>none
 | _=>none
def zs (P:Program)(ty:TypeId)(x i:X)(ad:Bool):Option Bo :=
 match P.underlying ty,ad with
 | some (.slice e),true=>(P.info? e).map fun ei=>.ff ei.size x i
 | some (.array n e),true=>(P.info? e).map fun ei=>.N6 n ei.size x i
 | some .string,false=>some (.SQ x i)
 | some (.array n e),false=>match P.info? e,P.underlying e with
  | some ei,some d=>some (.XG n ei.size (eJ d) x i)
  | _,_=>none
 | _,_=>none
def pK (P:Program)(ty:TypeId)(x:X)(lo hi mx:Option X):Option Bo :=
 match P.underlying ty with
 | some .string=>if mx.isSome then none else some (.SS x lo hi)
 | some (.slice e)=>match P.info? e with
  | some ei=>if mx.isSome&&hi.isNone then none else some (.fH ei.size x lo hi mx)
  | none=>none
 | _=>none
def ur (P:Program)(src dst:TypeId)(x:X):Option Bo :=
 match P.underlying src,P.underlying dst with
 | some (.int _),some (.int k)=>some (.hJ k x)
 | some .string,some .string=>none
 | some (.slice e),some .string=>match P.underlying e with
  | some (.int .u8)=>some (.B5 x)
  | _=>none
 | _,_=>none
def EC:TypeDesc→Bool
 | .int _=>false
 | _=>true
def mG (P:Program)(mu:Bool)(jt:List TypeId)(as:List X):Option Bo :=
 match jt,as with
 | [sT,xT],[x,y]=>match P.underlying sT,P.underlying xT with
  | some (.slice e),some d=>match P.info? e with
   | some ei=>match ei.zero with
    | some zv=>if EC d&&zv.cells.size==ei.size&&ei.bytes != 0 then some (.app ei.size ei.bytes mu x y)else none
    | none=>none
   | none=>none
  | _,_=>none
 | _,_=>none
def xC (P:Program)(jt:List TypeId)(as:List X):Option Bo :=
 match jt,as with
 | [sT,xT],[x,k]=>match P.underlying sT,P.underlying xT with
  | some (.slice e),some (.int _)=>match P.info? e,zeroOf P e with
   | some ei,some z=>if ei.bytes != 0 then some (.SU ei.size ei.bytes z x k)else none
   | _,_=>none
  | _,_=>none
 | _,_=>none
def jW (P:Program)(mu:Bool)(b:Builtin)(jt:List TypeId)(as:List X):Option Bo :=
 match b,jt,as with
 | .append,jt,as=>match xC P jt as with
  | some b=>some b
  | none=>mG P mu jt as
 | .cap,[t],[x]=>match P.underlying t with
  | some (.slice _)=>some (.cap x)
  | _=>none
 | .copy,[dT,_],[x,y]=>match P.underlying dT with
  | some (.slice e)=>(P.info? e).map fun ei=>.B6 ei.size x y
  | _=>none
 | .len,[t],[x]=>match P.underlying t with
  | some .string=>some (.len .str x)
  | some (.slice _)=>some (.len .sl x)
  | some (.map _ _)=>some (.len .map x)
  | _=>none
 | .clear,[t],[x]=>match P.underlying t with
  | some (.slice e)=>match P.info? e,zeroOf P e with
   | some ei,some z=>some (.RX ei.size z x)
   | _,_=>none
  | _=>none
 | .min,_,[x,y]=>some (.mn x y)
 | .max,_,[x,y]=>some (.mx x y)
 | .delete,[t,_],[m,k]=>match P.underlying t with
  | some (.map key _)=>match vN P key with
   | some kt=>if nI P key kt then some (.del kt m k)else none
   | none=>none
  | _=>none
 | _,_,_=>none
def zt (P:Program)(ty:TypeId)(m k:X):Option (Nat×KT×T) :=
 match P.underlying ty with
 | some (.map key e)=>match vN P key,P.info? e with
  | some kt,some ei=>match ei.zero with
   | some zv=>match nH zv with
    | some z=>if nI P key kt then some (e,kt,z)else none
    | none=>none
   | none=>none
  | _,_=>none
 | _=>none
def xD (P:Program)(fs:List Field):Bool:=fs.all fun f=>(P.info? f.type).isSome
def pL (P:Program)(ty:TypeId)(ps:List (Nat×X)):Option Bo :=
 match P.underlying ty,zeroOf P ty with
 | some (.struct fs),some z=>if xD P fs.toList&&ps.all (fun p=>p.1<fs.size)then
   some (.build z (ps.map fun p=>((((placesOf P fs.toList)[p.1]?).getD (0,0)).1,(((placesOf P fs.toList)[p.1]?).getD (0,0)).2,p.2)))else none
 | _,_=>none
def Cu (P:Program)(mu:Bool)(ty:TypeId)(n:Nat)(ps:List (Nat×X)):Option Bo :=
 match P.underlying ty with
 | some (.slice e)=>match P.info? e,zeroOf P e with
  | some ei,some z=>if z.length==ei.size&&decide (n*ei.size≤16777216)then some (if mu then .RY n z ps else .nE n z ps)else none
  | _,_=>none
 | _=>none
def Cv (P:Program)(mu:Bool)(ty:TypeId)(l c:X):Option Bo :=
 match P.underlying ty with
 | some (.slice e)=>match P.info? e,zeroOf P e with
  | some ei,some z=>if z.length==ei.size&&ei.size != 0 then some (.YE mu ei.bytes z l c)else none
  | _,_=>none
 | _=>none
def MR (n:String):Bool:=(Extern.allGenericRows.lookup n).isNone&&(Extern.allTypedRows.lookup n).isNone&&(Extern.allRows.lookup n).isNone
def AP (P:Program)(f:FuncId):Option Nat :=
 match P.funcs[f]? with
 | some fn=>match fn.params[0]? with
  | some t=>match P.underlying t with
   | some (.slice e)=>match P.info? e with
    | some ei=>if fn.name != "runtime.NumGoroutine"&&fn.body.isNone&&(Extern.findNext fn).isNone&&fn.origin=="slices.overlaps"&&MR fn.name then some ei.size else none
    | none=>none
   | _=>none
  | none=>none
 | none=>none
def bM (P:Program)(mu:Bool):Op→Option Bo
 | .move x | .assign x=>(aO x).map .au
 | .pick c a b=>match aO c,aO a,aO b with
  | some c,some a,some b=>some (.pick c a b)
  | _,_,_=>none
 | .binOp op ty x y _=>match aO x,aO y with
  | some x,some y=>EB P op ty x y
  | _,_=>none
 | .unOp op _ x=>(aO x).map (.un op)
 | .convert s d x=>(aO x).bind (ur P s d)
 | .alloc ty=>(zeroOf P ty).map .alloc
 | .box _ x=>(aO x).map .box
 | .build ty ps=>(nK ps.toList).bind (pL P ty)
 | .buildSlice ty n ps=>(nK ps.toList).bind (Cu P mu ty n)
 | .load ty x=>(aO x).bind (uq P ty)
 | .store ty a v=>match P.info? ty,aO a,aO v with
  | some i,some a,some v=>some (.st i.size a v)
  | _,_,_=>none
 | .fieldAddr ty x f=>(aO x).bind fun x=>nL P ty x f true
 | .field ty x f=>(aO x).bind fun x=>nL P ty x f false
 | .indexAddr ty x i=>match aO x,aO i with
  | some x,some i=>zs P ty x i true
  | _,_=>none
 | .index ty x i=>match aO x,aO i with
  | some x,some i=>zs P ty x i false
  | _,_=>none
 | .slice ty x lo hi mx=>match aO x,kJ lo,kJ hi,kJ mx with
  | some x,some lo,some hi,some mx=>pK P ty x lo hi mx
  | _,_,_,_=>none
 | .makeMap _ none=>some .Az
 | .lookup ty m k ok=>match aO m,aO k with
  | some m,some k=>(zt P ty m k).map fun (_,kt,z)=>.oq kt z ok m k
  | _,_=>none
 | .mapUpdate ty m k v | .insert ty m k v=>match aO m,aO k,aO v with
  | some m,some k,some v=>(zt P ty m k).map fun (_,kt,_)=>.AA kt m k v
  | _,_,_=>none
 | .makeSlice ty l c=>match aO l,aO c with
  | some l,some c=>Cv P mu ty l c
  | _,_=>none
 | .makeFunc (.func f) first lP=>if first.size=0 then(gm lP.toList).map (.JB f)else none
 | .extract x i=>(aO x).map (.ext i)
 | .nilCheck x=>(aO x).map .m9
 | .range ty m=>match P.underlying ty with
  | some (.map _ _)=>(aO m).map .N7
  | _=>none
 | .next it false=>(aO it).map .qU
 | .entry it=>(aO it).map .N8
 | .call { callee:=.value (.func f),args,.. }=>match AP P f,gm args.toList with
  | some n,some [x,y]=>some (.RW n x y)
  | _,_=>none
 | .call { callee:=.builtin b,args,argTypes }=>(gm args.toList).bind (jW P mu b argTypes.toList)
 | _=>none
def Kn (P:Program)(w0:World)(g:Ctx)(H:af)(w:World)(s:Sem Next)(t:T)(H':af):Prop :=
 ∃nx v w' g',s.run P w=.ok nx w'∧(nx=.value v∨(nx=.skip∧v=undef))∧Le g w g' w'∧SR w0 g' H' w'∧VR g' w' t v∧Fr g H g' H'
theorem cf.oh {P:Program}{w0 w:World}{g:Ctx}{H H':af}{s:Sem Value}{t:T}(h:cf P w0 g H w s t H'):Kn P w0 g H w (do pure (.value (←s))) t H':=by
 obtain⟨v,w',g',h1,h2⟩:=h
 exact⟨.value v,v,w',g',by simp[h1],.inl rfl,h2⟩
theorem iS {g:Ctx}{w:World}:VR g w b7 undef:=.bJ rfl (by simp)
section
variable {P:Program} {w0 w:World} {g:Ctx} {H:af} {R:aw} {ρ:Operand→Value}
def RV (g:Ctx)(w:World)(R:aw)(ρ:Operand→Value)(xs:List Operand):Prop:=∀x∈xs,∀y,aO x=some y→VR g w (y.ev R) (ρ x)
theorem gn:∀(xs:List Operand) (ys:List X),gm xs=some ys→RV g w R ρ xs→bL g w (ys.map (X.ev R)) (xs.map ρ)
 | [],ys,h,_=>by simp[gm]at h;subst h;exact bL.nil
 | x :: xs,ys,h,hv=>by
  simp only[gm]at h
  cases h1:aO x with
  | none=>simp[h1]at h
  | some y =>
   cases h2:gm xs with
   | none=>simp[h1,h2]at h
   | some ys' =>
    simp[h1,h2]at h;subst h
    exact bL.cons (hv x (by simp) y h1) (gn xs ys' h2 (fun z hz=>hv z (by simp[hz])))
theorem pO:∀(ps:List (Nat×Operand)) (qs:List (Nat×X)),nK ps=some qs→RV g w R ρ (ps.map (·.2))→PV g w R qs (ps.map fun p=>(p.1,ρ p.2))
 | [],qs,h,_=>by simp[nK]at h;subst h;exact .nil
 | (i,x) :: ps,qs,h,hv=>by
  simp only[nK]at h
  cases h1:aO x with
  | none=>simp[h1]at h
  | some y =>
   cases h2:nK ps with
   | none=>simp[h1,h2]at h
   | some qs' =>
    simp[h1,h2]at h;subst h
    exact .cons (hv x (by simp) y h1) (pO ps qs' h2 (fun z hz=>hv z (by simp at hz ⊢;exact .inr hz)))
end
section
variable {P:Program} {w0 w:World} {g:Ctx} {H H':af} {R:aw} {ρ:Operand→Value} {t:T}
theorem Ko {op:BinOp}{ty:TypeId}{ox oy:Operand}{x y:X}{b:Bo}(hc:EB P op ty x y=some b)(h:SR w0 g H w)(hx:VR g w (x.ev R) (ρ ox))(hy:VR g w (y.ev R) (ρ oy))(he:aq R H b=some (t,H')) :
  Kn P w0 g H w (do pure (Next.value (←(do eqGuard op ty ox oy (ρ ox) (ρ oy);binOp op ty (ρ ox) (ρ oy))))) t H':=by
 refine cf.oh ?_
 unfold EB at hc
 cases hu:P.underlying ty with
 | none=>simp[hu]at hc
 | some d =>
  rw[hu]at hc
  have heq:∀n,isEq op=some n→op=if n then .neq else .eql:=by
   intro n hn;cases op<;>simp[isEq]at hn<;>subst hn<;>rfl
  have bin:b=.bin op x y→cf P w0 g H w (do eqGuard op ty ox oy (ρ ox) (ρ oy);binOp op ty (ρ ox) (ρ oy)) t H':=by
   rintro rfl
   simp only[aq,Option.map_eq_some_iff,Prod.mk.injEq]at he
   obtain⟨t',h1,rfl,rfl⟩:=he
   exact JF h hx hy h1
  have ref:(∃n c,isEq op=some n∧cls d=some c∧b=.om n c x y)→cf P w0 g H w (do eqGuard op ty ox oy (ρ ox) (ρ oy);binOp op ty (ρ ox) (ρ oy)) t H':=by
   rintro⟨n,c,h1,h2,rfl⟩
   simp only[aq,Option.map_eq_some_iff,Prod.mk.injEq]at he
   obtain⟨r,h3,rfl,rfl⟩:=he
   rw[heq n h1]
   exact JH hu (by cases d<;>simp[cls]at h2<;>subst h2<;>rfl) h hx hy h3
  have pP:(match isEq op,cls d with|some n,some c=>some (Bo.om n c x y)|_,_=>none)=some b→(∃n c,isEq op=some n∧cls d=some c∧b=.om n c x y):=by
   intro hh
   cases h1:isEq op with
   | none=>simp[h1]at hh
   | some n =>
    cases h2:cls d with
    | none=>simp[h1,h2]at hh
    | some c=>simp[h1,h2]at hh;exact⟨n,c,rfl,rfl,hh.symm⟩
  cases d with
  | int k=>simp at hc;exact bin hc.symm
  | string=>simp at hc;exact bin hc.symm
  | bool =>
   simp only[Option.map_eq_some_iff]at hc
   obtain⟨n,h1,rfl⟩:=hc
   simp only[aq]at he
   rw[heq n h1]
   generalize x.ev R=tx at hx he
   generalize y.ev R=OF at hy he
   cases tx<;>cases OF<;>simp at he
   obtain⟨rfl,rfl⟩:=he
   exact JG hu h hx hy
  | struct fs =>
   cases h1:isEq op with
   | none=>simp[h1]at hc
   | some n =>
    cases h2:kinds P fs.toList with
    | none=>simp[h1,h2]at hc
    | some ks =>
     simp only[h1,h2]at hc
     split at hc
     ·rename_i cI
      simp only[Bool.and_eq_true,Bool.not_eq_true']at cI
      simp at hc;subst hc
      simp only[aq]at he
      rw[heq n h1]
      generalize x.ev R=tx at hx he
      generalize y.ev R=OF at hy he
      cases tx<;>cases OF<;>(try simp only[reduceCtorEq]at he)
      split at he
      ·rename_i hk
       simp only[Option.map_eq_some_iff,Prod.mk.injEq]at he
       obtain⟨r,h3,rfl,rfl⟩:=he
       exact JI hu cI.1.1 cI.1.2 cI.2 h hx hy hk h3
      ·cases he
     ·cases hc
  | pointer _=>exact ref (pP hc)
  | slice _=>exact ref (pP hc)
  | map _ _=>exact ref (pP hc)
  | func _ _ _=>exact ref (pP hc)
  | invalid=>exact ref (pP hc)
  | float _=>exact ref (pP hc)
  | complex _=>exact ref (pP hc)
  | unsafePointer=>exact ref (pP hc)
  | array _ _=>exact ref (pP hc)
  | chan _ _=>exact ref (pP hc)
  | interface _=>exact ref (pP hc)
  | tuple _=>exact ref (pP hc)
  | named _ _=>exact ref (pP hc)
theorem ED {ty:TypeId}{v:Value}{x:X}{b:Bo}(hc:uq P ty x=some b)(h:SR w0 g H w)(hx:VR g w (x.ev R) v)(he:aq R H b=some (t,H')):Kn P w0 g H w (do pure (Next.value (←Instr.loadAt ty v))) t H':=by
 refine cf.oh ?_
 unfold uq at hc
 cases hu:P.underlying ty with
 | none=>simp[hu]at hc
 | some d =>
  cases hi:P.info? ty with
  | none=>simp[hu,hi]at hc
  | some i =>
   simp only[hu,hi,Option.some.injEq]at hc
   subst hc
   simp only[aq]at he
   cases hl:po H (if eJ d then i.size else 1) (x.ev R)with
   | none=>simp[hl]at he
   | some cs =>
    simp only[hl,Option.map_eq_some_iff,Prod.mk.injEq]at he
    obtain⟨t',h1,rfl,rfl⟩:=he
    exact Oe hu hi rfl (fun e=>by rw[if_pos e]) h hx hl h1
theorem uu {ty:TypeId}{v:Value}{x:X}{f:Nat}{ad:Bool}{b:Bo}(hc:nL P ty x f ad=some b)(h:SR w0 g H w)(hx:VR g w (x.ev R) v)(he:aq R H b=some (t,H')) :
  cf P w0 g H w (if ad then Instr.fieldAt ty v f else Instr.field ty v f) t H':=by
 unfold nL at hc
 cases hu:P.underlying ty with
 | none=>simp[hu]at hc
 | some d =>
  cases d<;>simp only[hu]at hc<;>(try (cases hc;done))
  rename_i fs
  cases hf:fs[f]? with
  | none=>simp[hf]at hc
  | some fl =>
   simp only[hf]at hc
   cases hd:P.underlying fl.type with
   | none=>simp[hd]at hc
   | some d =>
    cases hi:P.info? fl.type with
    | none=>simp[hd,hi]at hc
    | some i =>
     simp only[hd,hi]at hc
     cases ad with
     | true =>
      simp only[if_true]at hc
      split at hc
      ·cases hc
      ·rename_i hz
       simp at hc;subst hc
       simp only[aq]at he
       simp only[Option.map_eq_some_iff,Prod.mk.injEq]at he
       obtain⟨t',h1,rfl,rfl⟩:=he
       exact JM hu hf hi hz h hx h1
     | false =>
      simp only[Bool.false_eq_true,if_false,Option.some.injEq]at hc
      subst hc
      simp only[aq]at he
      generalize x.ev R=tx at hx he
      cases tx<;>(try simp only[reduceCtorEq]at he)
      rename_i cs
      split at he
      ·rename_i hle
       simp only[Option.map_eq_some_iff,Prod.mk.injEq]at he
       obtain⟨t',h1,rfl,rfl⟩:=he
       exact JN hu hf hd hi rfl h hx hle h1
      ·cases he
theorem AQ {ty:TypeId}{v vi:Value}{x i:X}{ad:Bool}{b:Bo}(hc:zs P ty x i ad=some b)(h:SR w0 g H w)(hx:VR g w (x.ev R) v)(hi:VR g w (i.ev R) vi)(he:aq R H b=some (t,H')) :
  cf P w0 g H w (if ad then Instr.indexAt ty v vi else Instr.index ty v vi) t H':=by
 unfold zs at hc
 cases hu:P.underlying ty with
 | none=>simp[hu]at hc
 | some d =>
  cases d<;>cases ad<;>simp only[hu]at hc<;>(try (cases hc;done))
  ·-- string
   simp at hc;subst hc
   simp only[aq]at he
   generalize x.ev R=tx at hx he
   cases tx<;>(try simp only[reduceCtorEq]at he)
   cases hn:cw (i.ev R)with
   | none=>simp[hn]at he
   | some n =>
    simp only[hn,Option.map_eq_some_iff,Prod.mk.injEq]at he
    obtain⟨c,h1,rfl,rfl⟩:=he
    exact JQ hu h hx hi hn h1
  ·-- slice
   rename_i e
   cases tO:P.info? e with
   | none=>simp[tO]at hc
   | some ei =>
    simp[tO]at hc;subst hc
    simp only[aq]at he
    simp only[Option.bind_eq_some_iff,Option.map_eq_some_iff,Prod.mk.injEq]at he
    obtain⟨n,h1,t',h2,rfl,rfl⟩:=he
    exact JO hu tO h hx hi h1 h2
  ·-- Kq value
   rename_i n e
   cases tO:P.info? e with
   | none=>simp[tO]at hc
   | some ei =>
    cases OG:P.underlying e with
    | none=>simp[tO,OG]at hc
    | some d =>
     simp[tO,OG]at hc;subst hc
     simp only[aq]at he
     generalize x.ev R=tx at hx he
     cases tx<;>(try simp only[reduceCtorEq]at he)
     cases hn:cw (i.ev R)with
     | none=>simp[hn]at he
     | some m =>
      simp only[hn]at he
      split at he
      ·rename_i jm
       simp only[Option.map_eq_some_iff,Prod.mk.injEq]at he
       obtain⟨t',h1,rfl,rfl⟩:=he
       exact JR hu OG tO rfl h hx hi hn jm.1 jm.2 h1
      ·cases he
  ·-- Kq address
   rename_i n e
   cases tO:P.info? e with
   | none=>simp[tO]at hc
   | some ei =>
    simp[tO]at hc;subst hc
    simp only[aq]at he
    generalize x.ev R=tx at hx he
    cases tx<;>(try simp only[reduceCtorEq]at he)
    cases hn:cw (i.ev R)with
    | none=>simp[hn]at he
    | some m =>
     simp only[hn]at he
     split at he
     ·rename_i al
      simp at he
      obtain⟨rfl,rfl⟩:=he
      exact JP hu tO h hx hi hn al
     ·cases he
theorem pQ {x:Option Operand}{y:Option X}(h:kJ x=some y)(hv:RV g w R ρ x.toList):OV g w R y (x.map ρ):=by
 cases x with
 | none=>simp[kJ]at h;subst h;trivial
 | some x =>
  simp only[kJ,Option.map_eq_some_iff]at h
  obtain⟨y',h1,rfl⟩:=h
  exact hv x (by simp) y' h1
theorem Cw {ty:TypeId}{v:Value}{x:X}{lo hi mx:Option X}{lQ oe OH:Option Value}{b:Bo}(hc:pK P ty x lo hi mx=some b)(h:SR w0 g H w)(hx:VR g w (x.ev R) v)(pq:OV g w R lo lQ)(AR:OV g w R hi oe)(Sj:OV g w R mx OH)
  (he:aq R H b=some (t,H')):Kn P w0 g H w (do pure (Next.value (←Instr.sliceAt ty v lQ oe OH))) t H':=by
 refine cf.oh ?_
 unfold pK at hc
 cases hu:P.underlying ty with
 | none=>simp[hu]at hc
 | some d =>
  cases d<;>simp only[hu]at hc<;>(try (cases hc;done))
  ·-- string
   cases mx with
   | some _=>simp at hc
   | none =>
    cases OH with
    | some _=>exact Sj.elim
    | none =>
     simp at hc;subst hc
     simp only[aq]at he
     generalize x.ev R=tx at hx he
     cases tx<;>(try simp only[reduceCtorEq]at he)
     rename_i s
     cases hl:fX R 0 lo with
     | none=>simp[hl]at he
     | some l =>
      cases hh:fX R s.size hi with
      | none=>simp[hl,hh]at he
      | some r =>
       simp only[hl,hh]at he
       split at he
       ·rename_i jm
        simp at he
        obtain⟨rfl,rfl⟩:=he
        exact JS hu h hx pq AR hl hh jm.1 jm.2
       ·cases he
  ·-- slice
   rename_i e
   cases tO:P.info? e with
   | none=>simp[tO]at hc
   | some ei =>
    simp only[tO]at hc
    split at hc
    ·cases hc
    ·rename_i hmh
     simp at hc;subst hc
     simp only[aq]at he
     generalize x.ev R=tx at hx he
     cases tx<;>(try simp only[reduceCtorEq]at he)
     ·rename_i k es
      cases hl:fX R 0 lo with
      | none=>simp[hl]at he
      | some l =>
       cases hh:fX R es.length hi with
       | none=>simp[hl,hh]at he
       | some r =>
        simp only[hl,hh]at he
        cases mx with
        | none =>
         cases OH with
         | some _=>exact Sj.elim
         | none =>
          simp only at he
          split at he
          ·rename_i jm
           simp at he
           obtain⟨rfl,rfl⟩:=he
           exact JT hu tO h hx pq AR hl hh jm.1 jm.2.1 jm.2.2
          ·cases he
        | some m =>
         cases OH with
         | none=>exact Sj.elim
         | some vm =>
          cases hi with
          | none=>simp at hmh
          | some hi =>
           cases oe with
           | none=>exact AR.elim
           | some vh =>
            simp only at he
            cases hm:cw (m.ev R)with
            | none=>simp[hm]at he
            | some m' =>
             simp only[hm]at he
             split at he
             ·rename_i jm
              simp only[Option.some.injEq,Prod.mk.injEq]at he
              obtain⟨rfl,rfl⟩:=he
              exact Eg hu tO h hx pq AR Sj hl hh hm jm.1 jm.2.1 jm.2.2.1 jm.2.2.2
             ·cases he
     ·rename_i bb off len n'
      cases hl:fX R 0 lo with
      | none=>simp[hl]at he
      | some l =>
       cases hh:fX R len hi with
       | none=>simp[hl,hh]at he
       | some r =>
        simp only[hl,hh]at he
        cases mx with
        | some _=>simp at he
        | none =>
         cases OH with
         | some _=>exact Sj.elim
         | none =>
          simp only at he
          split at he
          ·rename_i jm
           obtain⟨rfl,h1,h2⟩:=jm
           simp only[Option.some.injEq,Prod.mk.injEq]at he
           obtain⟨rfl,rfl⟩:=he
           exact Eh hu tO h hx pq AR hl hh h1 h2
          ·cases he
     ·rename_i bb off len n' cc
      cases hl:fX R 0 lo with
      | none=>simp[hl]at he
      | some l =>
       cases hh:fX R len hi with
       | none=>simp[hl,hh]at he
       | some r =>
        simp only[hl,hh]at he
        cases mx with
        | some _=>simp at he
        | none =>
         cases OH with
         | some _=>exact Sj.elim
         | none =>
          simp only at he
          split at he
          ·rename_i jm
           obtain⟨rfl,h1,h2⟩:=jm
           simp only[Option.some.injEq,Prod.mk.injEq]at he
           obtain⟨rfl,rfl⟩:=he
           exact Ei hu tO h hx pq AR hl hh h1 h2
          ·cases he
theorem EE {src dst:TypeId}{v:Value}{x:X}{b:Bo}(hc:ur P src dst x=some b)(h:SR w0 g H w)(hx:VR g w (x.ev R) v)(he:aq R H b=some (t,H')):Kn P w0 g H w (do pure (Next.value (←convert src dst v))) t H':=by
 refine cf.oh ?_
 unfold ur at hc
 cases hs:P.underlying src with
 | none=>simp[hs]at hc
 | some ds =>
  cases hd:P.underlying dst with
  | none=>simp[hs,hd]at hc
  | some dd =>
   rw[hs,hd]at hc
   cases ds<;>cases dd<;>simp only[reduceCtorEq]at hc
   ·rename_i k0 k
    simp at hc;subst hc
    simp only[aq]at he
    generalize x.ev R=tx at hx he
    cases tx<;>simp at he
    obtain⟨rfl,rfl⟩:=he
    exact JJ hs hd h hx
   ·rename_i e
    cases hu:P.underlying e with
    | none=>simp[hu]at hc
    | some d =>
     have Tq:d=.int .u8∧b=.B5 x:=by
      rw[hu]at hc
      cases d with
      | int k=>cases k<;>simp at hc;exact⟨rfl,hc.symm⟩
      | _=>simp at hc
     obtain⟨rfl,rfl⟩:=Tq
     simp only[aq]at he
     cases jg:bq H 1 (x.ev R)with
     | none=>simp[jg]at he
     | some es =>
      have ML:∀s,x.ev R≠.str s:=by
       intro s e;simp only[e]at he;split at he<;>cases he
      have DG:(bytesOf es).map (fun l=>(T.str ⟨l.toArray⟩,H))=some (t,H'):=by
       simp only[jg]at he
       generalize x.ev R=tx at he ML
       cases tx<;>first|exact he|exact absurd rfl (ML _)
      simp only[Option.map_eq_some_iff,Prod.mk.injEq]at DG
      obtain⟨l,h1,rfl,rfl⟩:=DG
      exact JL hs hu hd h hx jg ML h1
end
end Go.Rmp
end
