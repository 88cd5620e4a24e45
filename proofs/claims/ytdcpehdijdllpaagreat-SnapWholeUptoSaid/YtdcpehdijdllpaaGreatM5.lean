/- Part of a proof of a law of this seat: the machine of plain values, its simulation, and the contracts of the functions that the law reaches. Conditions: none beyond the given row. -/
import Derived.Test.YtdcpehdijdllpaaGreatM4
import Derived.Test.YtdcpehdijdllpaaGreatRows
import Derived.WalkKit
import Derived.ProofKit
import Derived.OpenShut
import Derived.JoinedCond
import Derived.ChangeBears
open Int renaming reduceLT → q6, reduceLE → q7, reduceBEq → q9, reduceBNe → j1, reduceEq → j2
open Nat renaming reduceAdd → j3, reduceLeDiff → j4, reduceLT → j5, reduceEqDiff → j6
set_option linter.unusedSimpArgs false
set_option linter.unusedVariables false
set_option linter.unnecessarySimpa false
set_option maxHeartbeats 4000000
section
namespace Go.Proofs.YtdcpehdijdllpaaGreat.St
open Go.Rmp Go.Proofs.YtdcpehdijdllpaaGreat.Ir
set_option maxRecDepth 10000
structure RD (H:af)(c:Nat)(st:Option (List Nat)):Prop where
 at_:∃k rest e,H[c]?=some (.cells [.sl k (rest.map eB),.int .i64 e])∧rest.length≤4294967296∧dG rest∧(∀l,st=some l→e=0∧rest=l)∧(st=none→e≠0)
theorem RD.ext {H H':af}{c:Nat}{st:Option (List Nat)}(h:RD H c st)(hx:Ext H H'):RD H' c st:=by
 obtain⟨k,rest,e,h1,h2⟩:=h.at_
 exact⟨k,rest,e,hx.get h1,h2⟩
theorem RD.ok {H:af}{c:Nat}{l:List Nat}(h:RD H c (some l)):∃k,H[c]?=some (.cells [.sl k (l.map eB),.int .i64 0])∧l.length≤4294967296∧dG l:=by
 obtain⟨k,rest,e,h1,h2,h3,h4,_⟩:=h.at_
 obtain⟨rfl,rfl⟩:=h4 l rfl
 exact⟨k,h1,h2,h3⟩
theorem RD.bad {H:af}{c:Nat}(h:RD H c none):∃k rest e,H[c]?=some (.cells [.sl k (rest.map eB),.int .i64 e])∧rest.length≤4294967296∧dG rest∧e≠0:=by
 obtain⟨k,rest,e,h1,h2,h3,_,h5⟩:=h.at_
 exact⟨k,rest,e,h1,h2,h3,h5 rfl⟩
theorem RD.WB {H:af}{c:Nat}{k:SK}{l:List Nat}(h:H[c]?=some (.cells [.sl k (l.map eB),.int .i64 0]))(hl:l.length≤4294967296)(hb:dG l):RD H c (some l) :=
 ⟨k,l,0,h,hl,hb,fun l' e=>⟨rfl,Option.some.inj e⟩,fun e=>by cases e⟩
theorem RD.WC {H:af}{c:Nat}{k:SK}{l:List Nat}{e:Int}(h:H[c]?=some (.cells [.sl k (l.map eB),.int .i64 e]))(hl:l.length≤4294967296)(hb:dG l)(he:e≠0):RD H c none :=
 ⟨k,l,e,h,hl,hb,fun l' e=>(by cases e),fun _=>he⟩
theorem He {x:X}{lo hi:Option X}{R:av}{Hx:af}{k:SK}{l:List Nat}{a b:Nat}(hx:x.ev R=.sl k (l.map eB))(ha:fH R 0 lo=some a)(hb:fH R l.length hi=some b)(h1:a≤b)(h2:b≤l.length) :
  ar R Hx (.fX 1 x lo hi none)=some (.sl (k.cut l.length a b) (((l.take b).drop a).map eB),Hx):=by
 have cJ:=G4 l
 simp -implicitDefEqProofs only[ar,hx,ha,List.length_map,hb]
 rw[if_pos ⟨h1,h2,cJ⟩,←List.map_take,←List.map_drop]
theorem rT {k:SK}{l:List Nat}{n:Nat}(h:n≤l.length):∀R Hx a b,(X.r a).ev R=.sl k (l.map eB)→(X.r b).ev R=.int .i64 (n:Nat)→ar R Hx (.fX 1 (.r a) none (some (.r b)) none)=some (.sl (k.cut l.length 0 n) ((l.take n).map eB),Hx):=fun R Hx a b ha hb=>by
 have:=He (Hx:=Hx) (lo:=none) (hi:=some (.r b)) (a:=0) (b:=n) ha rfl (by simp -implicitDefEqProofs only[fH,hb,aa]) (Nat.zero_le _) h
 simpa using this
theorem rU {k:SK}{l:List Nat}{n:Nat}(h:n≤l.length):∀R Hx a b,(X.r a).ev R=.sl k (l.map eB)→(X.r b).ev R=.int .i64 (n:Nat)→ar R Hx (.fX 1 (.r a) (some (.r b)) none none)=some (.sl (k.cut l.length n l.length) ((l.drop n).map eB),Hx):=fun R Hx a b ha hb=>by
 have:=He (Hx:=Hx) (lo:=some (.r b)) (hi:=none) (a:=n) (b:=l.length) ha (by simp -implicitDefEqProofs only[fH,hb,aa]) rfl h (Nat.le_refl _)
 simpa using this
theorem CC {k:SK}{l:List Nat}(h:4≤l.length):∀R Hx a,(X.r a).ev R=.sl k (l.map eB)→ar R Hx (.fX 1 (.r a) (some (.c (.int .i64 4))) none none)=some (.sl (k.cut l.length 4 l.length) ((l.drop 4).map eB),Hx):=fun R Hx a ha=>by
 have:=He (Hx:=Hx) (lo:=some (.c (.int .i64 4))) (hi:=none) (a:=4) (b:=l.length) ha rfl rfl h (Nat.le_refl _)
 simpa using this
theorem KW {k:SK}{l:List Nat}{n:Nat}(h:4+n≤l.length):∀R Hx a b,(X.r a).ev R=.sl k (l.map eB)→(X.r b).ev R=.int .i64 ((4+n:Nat):Int)→ar R Hx (.fX 1 (.r a) (some (.c (.int .i64 4))) (some (.r b)) none)=some (.sl (k.cut l.length 4 (4+n)) (((l.drop 4).take n).map eB),Hx):=fun R Hx a b ha hb=>by
 have:=He (Hx:=Hx) (lo:=some (.c (.int .i64 4))) (hi:=some (.r b)) (a:=4) (b:=4+n) ha rfl (by simp -implicitDefEqProofs only[fH,hb,aa]) (by omega) h
 have e:(l.take (4+n)).drop 4=(l.drop 4).take n:=by rw[List.drop_take];congr 1;omega
 rw[e]at this
 exact this
theorem aa3 {v:Nat}(h:v*256<18446744073709551616):IntKind.u64.wrap ((v:Int)*2^(min (8:Int).toNat IntKind.u64.bits))=((v*256:Nat):Int):=by
 have e:(v:Int)*2^(min (8:Int).toNat IntKind.u64.bits)=((v*256:Nat):Int):=by
  show(v:Int)*256=_
  simp
 rw[e,gP h]
theorem or8 {v c:Nat}(h:v*256<18446744073709551616)(hc:c<256):IntKind.u64.wrap ((BitVec.ofInt IntKind.u64.bits ((v*256:Nat):Int) ||| BitVec.ofInt IntKind.u64.bits (c:Int)).toNat:Nat)=((v*256+c:Nat):Int):=by
 have e:(BitVec.ofInt IntKind.u64.bits ((v*256:Nat):Int) ||| BitVec.ofInt IntKind.u64.bits (c:Int)).toNat=v*256 ||| c:=UP 64 _ _ h (by omega)
 have e2:v*256 ||| c=v*256+c:=by
  rw[Nat.mul_comm]
  exact(Nat.two_pow_add_eq_or_of_lt (i:=8) (by omega) v).symm
 rw[e,e2,gP (by omega)]
theorem Hf (l:List Nat)(c:Nat):oA 0 (l++[c])=oA 0 l*256+c:=by simp[oA]
def WD (H:af)(c n:Nat)(l:List Nat):Out→af→Prop:=fun o H'=>match pN n l with
 | none=>o=.val (.bJ [.int .u64 0,.bool false])∧RD H' c none∧bm (fun b=>b=c) H H'
 | some (v,_)=>o=.val (.bJ [.int .u64 v,.bool true])∧H'=H
theorem Mv {H:af}{c:Nat}(h:RD H c none)(n:Nat):W env (.call 115 [.ptr c 0,.int .i64 n]) H (fun o H'=>o=.val (.bJ [.int .u64 0,.bool false])∧H'=H):=by
 obtain⟨k,rest,e,h1,h2,h3,h4⟩:=h.bad
 have e1:(e==0)=false:=by simpa using h4
 have e2:(e != 0)=true:=by simpa using h4
 refine W.bU rfl rfl rfl ?_
 simp -implicitDefEqProofs only[xA,op,ef,cl,sq,reduceIte,q6,q7,q9,j1,j2,j3,j4,j5,j6,S1,h1,e1,e2]
theorem A3 {H:af}{c:Nat}{l:List Nat}(h:RD H c (some l))(n:Nat)(hn:n≤8):W env (.call 115 [.ptr c 0,.int .i64 n]) H (WD H c n l):=by
 obtain⟨k,h1,h2,h3⟩:=h.ok
 have lc:=aY h1
 refine W.bU rfl rfl rfl ?_
 unfold WD pN
 by_cases hs:l.length<n
 ·have ft:decide ((l.length:Int)<(n:Int))=true:=by simp;omega
  rw[if_pos hs]
  simp -implicitDefEqProofs only[xA,op,ef,cl,sq,reduceIte,q6,q7,q9,j1,j2,j3,j4,j5,j6,S1,h1,List.length_map,hs,ft,lc,S2]
  exact⟨RD.WC (bX lc) h2 h3 (by decide),bm.set (F:=fun b=>b=c) (bm.refl _ _) (.inl rfl) _⟩
 ·rw[if_neg hs]
  have ft:decide ((l.length:Int)<(n:Int))=false:=by simp;omega
  have Ck:=rT (k:=k) (l:=l) (n:=n) (by omega)
  obtain⟨lt,aw⟩:∃lt,lt=l.take n:=⟨_,rfl⟩
  have afH:lt.length=n:=by rw[aw,List.length_take];omega
  have U5:dG lt:=by rw[aw];exact h3.take n
  rw[←aw]at Ck ⊢
  simp -implicitDefEqProofs only[xA,op,ef,cl,sq,reduceIte,q6,q7,q9,j1,j2,j3,j4,j5,j6,S1,h1,List.length_map,hs,ft,↓Ck]
  refine W.eZ 0 [(36,_),(37,_)] (fun (i:Nat) R H'=>H'=H∧R 6=.int .u64 (oA 0 (lt.take i):Nat)∧R 38=.int .i64 i∧i≤lt.length) (fun i=>lt.length-i) 0
   (fun R H'=>H'=H∧R 6=.int .u64 (oA 0 lt:Nat)) ⟨rfl,rfl,rfl,Nat.zero_le _⟩ ?_ ?_
  ·rintro i R H1⟨rfl,g6,g38,hi⟩
   by_cases BD:i<lt.length
   rotate_left
   ·have lu:i=lt.length:=by omega
    rw[lu,List.take_length]at g6
    simp -implicitDefEqProofs only[aq,ah,op,ef,cl,sq,reduceIte,q6,q7,q9,j1,j2,j3,j4,j5,j6,S1,List.length_map,g6,g38,BD,cS]
   obtain⟨x,hx⟩:=cw BD
   have U6:=U5 x (List.mem_of_getElem? hx)
   have ix:=gC (e:=eB) (n:=1) (fun _=>rfl) (by decide) (k:=k.cut l.length 0 n) hx
   have mR:=aC (show i<9223372036854775807 by omega)
   have kO:oA 0 (lt.take i)*256<18446744073709551616:=by
    have h5:=vF (lt.take i) 0 (U5.take i)
    have h6:(lt.take i).length≤7:=by rw[List.length_take];omega
    have h7:256^(lt.take i).length≤256^7:=Nat.pow_le_pow_right (by decide) h6
    have h8:(256:Nat)^7=72057594037927936:=by decide
    omega
   have wx:=gP (n:=x) (by omega)
   have a1:=aa3 kO
   have a2:=or8 kO U6
   have n8:¬((8:Int)<0):=by decide
   simp -implicitDefEqProofs only[aq,ah,op,ef,cl,sq,reduceIte,q6,q7,q9,j1,j2,j3,j4,j5,j6,S1,List.length_map,g6,g38,BD,aa,ix,eB,eY,n8,a1,wx,a2,mR]
   exact⟨i+1,by omega,by rw[fW hx,Hf],rfl,BD⟩
  rintro R H1⟨rfl,g6⟩
  simp -implicitDefEqProofs only[aq,ah,op,ef,cl,sq,reduceIte,q6,q7,q9,j1,j2,j3,j4,j5,j6,S1,g6]
def QP (c:Nat)(t:T)(st:Option (List Nat))(H:af):Out→af→Prop:=fun o H'=>o=.val t∧RD H' c st∧bm (fun b=>b=c) H H'
def eD (n:Nat):Option (List Nat)→Nat×Option (List Nat)
 | none=>(0,none)
 | some l=>match pN n l with
  | none=>(0,none)
  | some (v,r)=>(v,some r)
theorem Hg {n:Nat}{st:Option (List Nat)}(hb:∀l,st=some l→dG l):(eD n st).1<256^n:=by
 have hp:0<256^n:=Nat.pow_pos (by decide)
 cases st with
 | none=>exact hp
 | some l =>
  unfold eD
  simp only
  cases h:pN n l with
  | none=>exact hp
  | some x=>exact(jr (hb l rfl) h).2.1
theorem rV {H:af}{c:Nat}{st:Option (List Nat)}(h:RD H c st)(n:Nat)(hn:n≤8):W env (.call 89 [.ptr c 0,.int .i64 n]) H (QP c (.int .u64 (eD n st).1) (eD n st).2 H):=by
 refine W.bU rfl rfl rfl ?_
 simp -implicitDefEqProofs only[OC,op,ef,cl,sq,reduceIte,q6,q7,q9,j1,j2,j3,j4,j5,j6,S1]
 cases st with
 | none =>
  refine ae _ _ _ _ _ _ _ _ (Mv h n) ?_
  rintro u H1⟨hu,rfl⟩
  cases hu
  simp -implicitDefEqProofs only[op,ef,cl,sq,reduceIte,q6,q7,q9,j1,j2,j3,j4,j5,j6,S1]
  exact⟨rfl,h,bm.refl _ _⟩
 | some l =>
  obtain⟨k,h1,h2,h3⟩:=h.ok
  have lc:=aY h1
  refine ae _ _ _ _ _ _ _ _ (A3 h n hn) ?_
  intro u H1 hq
  unfold WD at hq
  cases hp:pN n l with
  | none =>
   have es:eD n (some l)=(0,none):=by simp -implicitDefEqProofs only[eD,hp]
   rw[hp]at hq
   rw[es]
   obtain⟨hu,hr,hk⟩:=hq
   cases hu
   simp -implicitDefEqProofs only[op,ef,cl,sq,reduceIte,q6,q7,q9,j1,j2,j3,j4,j5,j6,S1]
   exact⟨rfl,hr,hk⟩
  | some x =>
   obtain⟨v,r⟩:=x
   have es:eD n (some l)=(v,some r):=by simp -implicitDefEqProofs only[eD,hp]
   rw[hp]at hq
   rw[es]
   obtain⟨hu,rfl⟩:=hq
   cases hu
   have HR:n≤l.length:=by
    unfold pN at hp;split at hp
    ·cases hp
    ·omega
   have hr:r=l.drop n:=by
    unfold pN at hp;rw[if_neg (by omega)]at hp
    simp -implicitDefEqProofs only[Option.some.injEq,Prod.mk.injEq]at hp;exact hp.2.symm
   have Ck:=rU (k:=k) HR
   simp -implicitDefEqProofs only[op,ef,cl,sq,reduceIte,q6,q7,q9,j1,j2,j3,j4,j5,j6,S1,h1,lc,↓Ck,S2]
   subst hr
   refine⟨rfl,RD.WB (k:=k.cut l.length n l.length) (bX lc) (by rw[List.length_drop];omega) (h3.drop n),bm.set (F:=fun b=>b=c) (bm.refl _ _) (.inl rfl) _⟩
theorem RD.byt {H:af}{c:Nat}{st:Option (List Nat)}(h:RD H c st):∀l,st=some l→dG l:=fun l e=>by subst e;obtain⟨_,_,_,h⟩:=h.ok;exact h
theorem aa4 {H:af}{c:Nat}{st:Option (List Nat)}(h:RD H c st):W env (.call 49 [.ptr c 0]) H (QP c (.int .u32 (eD 4 st).1) (eD 4 st).2 H):=by
 have aw:(eD 4 st).1<4294967296:=Hg (n:=4) h.byt
 have wv:=wrap32 aw
 refine W.bU rfl rfl rfl ?_
 simp -implicitDefEqProofs only[Oc,op,ef,cl,sq,reduceIte,q6,q7,q9,j1,j2,j3,j4,j5,j6,S1]
 refine ae _ _ _ _ _ _ _ _ (rV h 4 (by decide)) ?_
 rintro u H1⟨hu,hr,hk⟩
 cases hu
 simp -implicitDefEqProofs only[op,ef,cl,sq,reduceIte,q6,q7,q9,j1,j2,j3,j4,j5,j6,S1,wv]
 exact⟨rfl,hr,hk⟩
theorem aa5 {H:af}{c:Nat}{st:Option (List Nat)}(h:RD H c st):W env (.call 50 [.ptr c 0]) H (QP c (.int .u8 (eD 1 st).1) (eD 1 st).2 H):=by
 have aw:(eD 1 st).1<256:=Hg (n:=1) h.byt
 have wv:=xB aw
 refine W.bU rfl rfl rfl ?_
 simp -implicitDefEqProofs only[Od,op,ef,cl,sq,reduceIte,q6,q7,q9,j1,j2,j3,j4,j5,j6,S1]
 refine ae _ _ _ _ _ _ _ _ (rV h 1 (by decide)) ?_
 rintro u H1⟨hu,hr,hk⟩
 cases hu
 simp -implicitDefEqProofs only[op,ef,cl,sq,reduceIte,q6,q7,q9,j1,j2,j3,j4,j5,j6,S1,wv]
 exact⟨rfl,hr,hk⟩
theorem PA {H:af}{c:Nat}{st:Option (List Nat)}(h:RD H c st):W env (.call 51 [.ptr c 0]) H (QP c (.int .u64 (eD 8 st).1) (eD 8 st).2 H):=by
 refine W.bU rfl rfl rfl ?_
 simp -implicitDefEqProofs only[Oe,op,ef,cl,sq,reduceIte,q6,q7,q9,j1,j2,j3,j4,j5,j6,S1]
 refine ae _ _ _ _ _ _ _ _ (rV h 8 (by decide)) ?_
 rintro u H1⟨hu,hr,hk⟩
 cases hu
 simp -implicitDefEqProofs only[op,ef,cl,sq,reduceIte,q6,q7,q9,j1,j2,j3,j4,j5,j6,S1]
 exact⟨rfl,hr,hk⟩
def pC (m:Nat)(l:List Nat):Option (Nat×List Nat):=match pN 4 l with
 | none=>none
 | some (v,r)=>if m<v then none else some (v,r)
def WE (H:af)(c m:Nat)(l:List Nat):Out→af→Prop:=fun o H'=>match pC m l with
 | none=>o=.val (.bJ [.int .i64 0,.bool false])∧RD H' c none∧bm (fun b=>b=c) H H'
 | some (v,_)=>o=.val (.bJ [.int .i64 v,.bool true])∧H'=H
theorem xY {H:af}{c:Nat}(h:RD H c none)(m:Nat)(hm:m<9223372036854775808):W env (.call 90 [.ptr c 0,.int .i64 m]) H (fun o H'=>o=.val (.bJ [.int .i64 0,.bool false])∧H'=H):=by
 refine W.bU rfl rfl rfl ?_
 simp -implicitDefEqProofs only[J2,op,ef,cl,sq,reduceIte,q6,q7,q9,j1,j2,j3,j4,j5,j6,S1]
 refine ae _ _ _ _ _ _ _ _ (Mv h 4) ?_
 rintro u H1⟨hu,rfl⟩
 cases hu
 have w0:IntKind.i64.wrap 0=0:=rfl
 simp -implicitDefEqProofs only[op,ef,cl,sq,reduceIte,q6,q7,q9,j1,j2,j3,j4,j5,j6,S1,w0]
theorem uz {H:af}{c:Nat}{l:List Nat}(h:RD H c (some l))(m:Nat)(hm:m<9223372036854775808):W env (.call 90 [.ptr c 0,.int .i64 m]) H (WE H c m l):=by
 obtain⟨k,h1,h2,h3⟩:=h.ok
 have lc:=aY h1
 refine W.bU rfl rfl rfl ?_
 simp -implicitDefEqProofs only[J2,op,ef,cl,sq,reduceIte,q6,q7,q9,j1,j2,j3,j4,j5,j6,S1]
 refine ae _ _ _ _ _ _ _ _ (A3 h 4 (by decide)) ?_
 intro u H1 hq
 unfold WD at hq
 unfold WE pC
 cases hp:pN 4 l with
 | none =>
  rw[hp]at hq
  obtain⟨hu,hr,hk⟩:=hq
  cases hu
  have w0:IntKind.i64.wrap 0=0:=rfl
  simp -implicitDefEqProofs only[op,ef,cl,sq,reduceIte,q6,q7,q9,j1,j2,j3,j4,j5,j6,S1,w0]
  exact⟨hr,hk⟩
 | some x =>
  obtain⟨v,r⟩:=x
  rw[hp]at hq
  obtain⟨hu,rfl⟩:=hq
  cases hu
  have hv:=(jr h3 hp).2.1
  have hv:v<4294967296:=hv
  have e0:(if (0:Int)>(m:Int)then(0:Int)else(m:Int))=(m:Int):=if_neg (by omega)
  have wm:=gP (n:=m) (by omega)
  by_cases hb:m<v
  ·have e1:decide ((v:Int)>(m:Int))=true:=by simp;omega
   simp -implicitDefEqProofs only[op,ef,cl,sq,reduceIte,q6,q7,q9,j1,j2,j3,j4,j5,j6,S1,e0,wm,e1,h1,lc,S2,hb]
   exact⟨RD.WC (bX lc) h2 h3 (by decide),bm.set (F:=fun b=>b=c) (bm.refl _ _) (.inl rfl) _⟩
  ·have e1:decide ((v:Int)>(m:Int))=false:=by simp;omega
   have wv:IntKind.i64.wrap (v:Int)=(v:Int):=wrap64 (by omega)
   simp -implicitDefEqProofs only[op,ef,cl,sq,reduceIte,q6,q7,q9,j1,j2,j3,j4,j5,j6,S1,e0,wm,e1,hb,wv]
theorem nq:∀l:List Nat,bytesOf (l.map eB)=some (l.map UInt8.ofNat)
 | []=>rfl
 | x :: l=>by
  show(bytesOf (l.map eB)).map (UInt8.ofNat ((x:Int)).toNat :: ·)=_
  rw[nq l];rfl
theorem PB {k:SK}{l:List Nat}:∀R Hx a,(X.r a).ev R=.sl k (l.map eB)→ar R Hx (.uC (.r a))=some (.str (vG l),Hx):=fun R Hx a ha=>by
 have cJ:=G4 l
 simp -implicitDefEqProofs only[ar,ha,bA,cJ,if_true,nq]
 rfl
theorem Bs.uC {H:af}{t:T}{l:List Nat}(h:Bs H t l):∀R a,(X.r a).ev R=t→ar R H (.uC (.r a))=some (.str (vG l),H):=fun R a ha=>by
 have he:=h.QN
 rcases h with⟨k,rfl⟩|⟨c,off,l',rfl,_⟩
 ·exact PB R H a ha
 ·simp -implicitDefEqProofs only[ar,ha,he,nq,Option.map_some];rfl
theorem KX {k:SK}{a b c:Nat}(e:k.cut a b c=.nil):k=.nil:=by
 cases k<;>simp -implicitDefEqProofs only[SK.cut]at e
 ·rfl
 ·cases e
 ·split at e<;>cases e
 ·split at e<;>cases e
theorem zt {k k':SK}{es Lw:List (List T)}(h:T.sl k es=.sl k' Lw):k=k'∧es=Lw:=by injection h with h1 h2;exact⟨h1,h2⟩
theorem Bs.take {H:af}{t:T}{l:List Nat}(h:Bs H t l)(hk:lP t l){n:Nat}(hn:n≤l.length):∃t',(∀R Hx a b,(X.r a).ev R=t→(X.r b).ev R=.int .i64 (n:Nat)→ar R Hx (.fX 1 (.r a) none (some (.r b)) none)=some (t',Hx))∧Bs H t' (l.take n)∧lP t' (l.take n):=by
 rcases h with⟨k,rfl⟩|⟨c,off,l',rfl,h2,h4,h3⟩
 ·refine⟨_,rT hn,Bs.sl _ _ _,fun k' e kW=>?_⟩
  obtain⟨e1,_⟩:=zt e
  rw[←e1]at kW
  have:=hk k rfl (KX kW)
  rw[this];simp
 ·have aw:(l.take n).length=n:=by rw[List.length_take];omega
  refine⟨.ax c off n 1,fun R Hx a b ha hb=>?_,.inr ⟨c,off,l',by rw[aw],h2,by rw[aw];omega,?_⟩,fun k' e=>by cases e⟩
  ·simp -implicitDefEqProofs only[ar,ha,fH,hb,aa]
   rw[if_pos ⟨trivial,Nat.zero_le _,hn⟩]
   by_cases h0:0=n
   ·rw[if_pos h0,if_pos trivial,←h0]
   ·rw[if_neg h0];simp
  ·rw[aw,←h3,List.take_take,Nat.min_eq_left hn]
theorem Bs.drop {H:af}{t:T}{l:List Nat}(h:Bs H t l)(hk:lP t l){n:Nat}(hn:n≤l.length):∃t',(∀R Hx a b,(X.r a).ev R=t→(X.r b).ev R=.int .i64 (n:Nat)→ar R Hx (.fX 1 (.r a) (some (.r b)) none none)=some (t',Hx))∧Bs H t' (l.drop n):=by
 rcases h with⟨k,rfl⟩|⟨c,off,l',rfl,h2,h4,h3⟩
 ·exact⟨_,rU hn,Bs.sl _ _ _⟩
 ·have aw:(l.drop n).length=l.length-n:=List.length_drop
  have hd:(l'.drop (off+n)).take (l.length-n)=l.drop n:=by
   have:=congrArg (List.drop n) h3
   rw[List.drop_take,List.drop_drop]at this
   exact this
  by_cases h0:n=l.length
  ·have KY:l.drop n=[]:=List.drop_eq_nil_of_le (by omega)
   by_cases h00:n=0
   ·refine⟨.ax c off 0 1,fun R Hx a b ha hb=>?_,.inr ⟨c,off,l',by rw[KY];rfl,h2,by rw[KY];simp;omega,by rw[KY];rfl⟩⟩
    simp -implicitDefEqProofs only[ar,ha,fH,hb,aa]
    rw[if_pos ⟨trivial,hn,Nat.le_refl _⟩,if_pos h0,if_pos h00]
   ·refine⟨.sl .arg [],fun R Hx a b ha hb=>?_,.inl ⟨.arg,by rw[KY];rfl⟩⟩
    simp -implicitDefEqProofs only[ar,ha,fH,hb,aa]
    rw[if_pos ⟨trivial,hn,Nat.le_refl _⟩,if_pos h0,if_neg h00]
  ·refine⟨.ax c (off+n*1) (l.length-n) 1,fun R Hx a b ha hb=>?_,.inr ⟨c,off+n*1,l',by rw[aw],h2,by rw[aw];omega,by rw[aw,Nat.mul_one];exact hd⟩⟩
   simp -implicitDefEqProofs only[ar,ha,fH,hb,aa]
   rw[if_pos ⟨trivial,hn,Nat.le_refl _⟩,if_neg h0]
theorem A4 {n v:Nat}{l r:List Nat}(h:pN n l=some (v,r)):n≤l.length∧r=l.drop n:=by
 unfold pN at h
 split at h
 ·cases h
 ·simp -implicitDefEqProofs only[Option.some.injEq,Prod.mk.injEq]at h
  exact⟨by omega,h.2.symm⟩
theorem mr {m v:Nat}{l r:List Nat}(h:pC m l=some (v,r)):pN 4 l=some (v,r)∧v≤m:=by
 unfold pC at h
 cases hp:pN 4 l with
 | none=>rw[hp]at h;cases h
 | some x =>
  obtain⟨v',r'⟩:=x
  rw[hp]at h
  simp only at h
  split at h
  ·cases h
  ·simp -implicitDefEqProofs only[Option.some.injEq,Prod.mk.injEq]at h
   obtain⟨rfl,rfl⟩:=h
   exact⟨rfl,by omega⟩
def wq (m:Nat):Option (List Nat)→Nat×Option (List Nat)
 | none=>(0,none)
 | some l=>match pC m l with
  | none=>(0,none)
  | some (v,r)=>(v,some r)
def gk (m:Nat):Option (List Nat)→ByteArray×Option (List Nat)
 | none=>(⟨#[]⟩,none)
 | some l=>match pT m l with
  | none=>(⟨#[]⟩,none)
  | some (v,r)=>(v,some r)
theorem vO {H:af}{c:Nat}{st:Option (List Nat)}(h:RD H c st)(m:Nat)(hm:m<9223372036854775808):W env (.call 53 [.ptr c 0,.int .i64 m]) H (QP c (.int .i64 (wq m st).1) (wq m st).2 H):=by
 refine W.bU rfl rfl rfl ?_
 simp -implicitDefEqProofs only[Og,op,ef,cl,sq,reduceIte,q6,q7,q9,j1,j2,j3,j4,j5,j6,S1]
 cases st with
 | none =>
  refine ae _ _ _ _ _ _ _ _ (xY h m hm) ?_
  rintro u H1⟨hu,rfl⟩
  cases hu
  simp -implicitDefEqProofs only[op,ef,cl,sq,reduceIte,q6,q7,q9,j1,j2,j3,j4,j5,j6,S1]
  exact⟨rfl,h,bm.refl _ _⟩
 | some l =>
  obtain⟨k,h1,h2,h3⟩:=h.ok
  have lc:=aY h1
  refine ae _ _ _ _ _ _ _ _ (uz h m hm) ?_
  intro u H1 hq
  unfold WE at hq
  cases hp:pC m l with
  | none =>
   have es:wq m (some l)=(0,none):=by simp -implicitDefEqProofs only[wq,hp]
   rw[hp]at hq
   rw[es]
   obtain⟨hu,hr,hk⟩:=hq
   cases hu
   simp -implicitDefEqProofs only[op,ef,cl,sq,reduceIte,q6,q7,q9,j1,j2,j3,j4,j5,j6,S1]
   exact⟨rfl,hr,hk⟩
  | some x =>
   obtain⟨v,r⟩:=x
   have es:wq m (some l)=(v,some r):=by simp -implicitDefEqProofs only[wq,hp]
   rw[hp]at hq
   rw[es]
   obtain⟨hu,rfl⟩:=hq
   cases hu
   obtain⟨pz,_⟩:=mr hp
   obtain⟨HR,rfl⟩:=A4 pz
   have Ck:=CC (k:=k) HR
   simp -implicitDefEqProofs only[op,ef,cl,sq,reduceIte,q6,q7,q9,j1,j2,j3,j4,j5,j6,S1,h1,lc,↓Ck,S2]
   exact⟨rfl,RD.WB (k:=k.cut l.length 4 l.length) (bX lc) (by rw[List.length_drop];omega) (h3.drop 4),bm.set (F:=fun b=>b=c) (bm.refl _ _) (.inl rfl) _⟩
theorem Mw {H:af}{c:Nat}{st:Option (List Nat)}(h:RD H c st):W env (.call 54 [.ptr c 0]) H (fun o H'=>H'=H∧∃e:Int,o=.val (.int .i64 e)∧(e=0↔st≠none)):=by
 refine W.bU rfl rfl rfl ?_
 cases st with
 | none =>
  obtain⟨k,rest,e,h1,h2,h3,h4⟩:=h.bad
  simp -implicitDefEqProofs only[JZ,op,ef,cl,sq,reduceIte,q6,q7,q9,j1,j2,j3,j4,j5,j6,S1,h1]
  exact⟨e,rfl,by simp[h4]⟩
 | some l =>
  obtain⟨k,h1,h2,h3⟩:=h.ok
  simp -implicitDefEqProofs only[JZ,op,ef,cl,sq,reduceIte,q6,q7,q9,j1,j2,j3,j4,j5,j6,S1,h1]
  exact⟨0,rfl,by simp⟩
theorem U7 {H:af}{c:Nat}{st:Option (List Nat)}(h:RD H c st):W env (.call 57 [.ptr c 0]) H (fun o H'=>H'=H∧∃e:Int,o=.val (.int .i64 e)∧(e=0↔st=some [])):=by
 refine W.bU rfl rfl rfl ?_
 cases st with
 | none =>
  obtain⟨k,rest,e,h1,h2,h3,h4⟩:=h.bad
  have e1:(e==0)=false:=by simpa using h4
  simp -implicitDefEqProofs only[Fv,op,ef,cl,sq,reduceIte,q6,q7,q9,j1,j2,j3,j4,j5,j6,S1,h1,e1]
  exact⟨e,rfl,by simp[h4]⟩
 | some l =>
  obtain⟨k,h1,h2,h3⟩:=h.ok
  by_cases hl:l=[]
  ·subst hl
   simp -implicitDefEqProofs only[Fv,op,ef,cl,sq,reduceIte,q6,q7,q9,j1,j2,j3,j4,j5,j6,S1,h1,List.map_nil,List.length_nil]
   exact⟨0,rfl,by simp⟩
  ·have yR:0<l.length:=List.length_pos_iff.2 hl
   have e1:decide ((l.length:Int)>0)=true:=by simp;exact yR
   simp -implicitDefEqProofs only[Fv,op,ef,cl,sq,reduceIte,q6,q7,q9,j1,j2,j3,j4,j5,j6,S1,h1,List.length_map,e1]
   exact⟨5,rfl,by simp[hl]⟩
theorem oF {H:af}{c:Nat}{st:Option (List Nat)}(h:RD H c st)(m:Nat)(hm:m<9223372036854775808):W env (.call 55 [.ptr c 0,.int .i64 m]) H (QP c (.str (gk m st).1) (gk m st).2 H):=by
 refine W.bU rfl rfl rfl ?_
 simp -implicitDefEqProofs only[Oh,op,ef,cl,sq,reduceIte,q6,q7,q9,j1,j2,j3,j4,j5,j6,S1]
 cases st with
 | none =>
  refine ae _ _ _ _ _ _ _ _ (xY h m hm) ?_
  rintro u H1⟨hu,rfl⟩
  cases hu
  simp -implicitDefEqProofs only[op,ef,cl,sq,reduceIte,q6,q7,q9,j1,j2,j3,j4,j5,j6,S1]
  exact⟨rfl,h,bm.refl _ _⟩
 | some l =>
  obtain⟨k,h1,h2,h3⟩:=h.ok
  have lc:=aY h1
  refine ae _ _ _ _ _ _ _ _ (uz h m hm) ?_
  intro u H1 hq
  unfold WE at hq
  cases hp:pC m l with
  | none =>
   have es:gk m (some l)=(⟨#[]⟩,none):=by
    have:pT m l=none:=by
     unfold pT
     unfold pC at hp
     cases h4:pN 4 l with
     | none=>rfl
     | some x =>
      obtain⟨v,r⟩:=x
      rw[h4]at hp
      simp only at hp ⊢
      split at hp
      ·rename_i hc;rw[if_pos hc]
      ·cases hp
    simp -implicitDefEqProofs only[gk,this]
   rw[hp]at hq
   rw[es]
   obtain⟨hu,hr,hk⟩:=hq
   cases hu
   simp -implicitDefEqProofs only[op,ef,cl,sq,reduceIte,q6,q7,q9,j1,j2,j3,j4,j5,j6,S1]
   exact⟨rfl,hr,hk⟩
  | some x =>
   obtain⟨v,r⟩:=x
   rw[hp]at hq
   obtain⟨hu,rfl⟩:=hq
   cases hu
   obtain⟨pz,hvm⟩:=mr hp
   have hv4:v<4294967296:=(jr h3 pz).2.1
   obtain⟨HR,hr⟩:=A4 pz
   have w4:IntKind.i64.wrap ((l.length:Int)-4)=((l.length-4:Nat):Int):=by rw[wrap64 (by omega)];omega
   have ept:pT m l=if r.length<v then none else some (vG (r.take v),r.drop v):=by
    unfold pT;rw[pz];simp only;rw[if_neg (by omega)]
   have hrl:r.length=l.length-4:=by rw[hr,List.length_drop]
   by_cases JM:r.length<v
   ·have es:gk m (some l)=(⟨#[]⟩,none):=by simp -implicitDefEqProofs only[gk,ept,JM,if_true]
    have e1:decide (((l.length-4:Nat):Int)<(v:Int))=true:=by simp;omega
    rw[es]
    simp -implicitDefEqProofs only[op,ef,cl,sq,reduceIte,q6,q7,q9,j1,j2,j3,j4,j5,j6,S1,h1,lc,List.length_map,w4,e1,S2]
    exact⟨rfl,RD.WC (bX lc) h2 h3 (by decide),bm.set (F:=fun b=>b=c) (bm.refl _ _) (.inl rfl) _⟩
   ·have es:gk m (some l)=(vG (r.take v),some (r.drop v)):=by simp -implicitDefEqProofs only[gk,ept,JM,if_false]
    have e1:decide (((l.length-4:Nat):Int)<(v:Int))=false:=by simp;omega
    have w5:IntKind.i64.wrap (4+(v:Int))=((4+v:Nat):Int):=by rw[wrap64 (by omega)];omega
    have Ck:=KW (k:=k) (l:=l) (n:=v) (by omega)
    have QQ:=rU (k:=k) (l:=l) (n:=4+v) (by omega)
    have hd:r.drop v=l.drop (4+v):=by rw[hr,List.drop_drop]
    rw[es]
    rw[←hr]at Ck
    have sL:=PB (k:=k.cut l.length 4 (4+v)) (l:=r.take v)
    rw[←hd]at QQ
    simp -implicitDefEqProofs only[op,ef,cl,sq,reduceIte,q6,q7,q9,j1,j2,j3,j4,j5,j6,S1,h1,lc,List.length_map,w4,e1,w5,↓Ck,↓QQ,↓sL,S2]
    exact⟨rfl,RD.WB (k:=k.cut l.length (4+v) l.length) (bX lc) (by rw[hd,List.length_drop];omega) (by rw[hd];exact h3.drop _),bm.set (F:=fun b=>b=c) (bm.refl _ _) (.inl rfl) _⟩
theorem PC {t:T}{l:List Nat}{H:af}(ht:Bs H t l)(hk:lP t l)(hl:l.length≤4294967296)(hb:dG l):W env (.call 48 [t]) H (fun o H'=>Ext H H'∧∃c,H.length≤c∧o=.val (.ptr c 0)∧RD H' c (some l)):=by
 refine W.bU rfl rfl rfl ?_
 simp -implicitDefEqProofs only[Ob,op,ef,cl,sq,reduceIte,q6,q7,q9,j1,j2,j3,j4,j5,j6,S1]
 refine ae _ _ _ _ _ _ _ _ (G7 ht hk hl) ?_
 rintro u H1⟨gz,k',hu⟩
 cases hu
 have gz:Ext H H1:=gz
 simp -implicitDefEqProofs only[op,ef,cl,sq,reduceIte,q6,q7,q9,j1,j2,j3,j4,j5,j6,S1]
 exact⟨gz.app _,H1.length,gz.len,rfl,RD.WB (aO rfl) hl hb⟩
def Da (c m:Nat)(l:List Nat):Option (List ByteArray×List Nat):=match pC c l with
 | none=>none
 | some (n,r)=>pM (pT m) r n
def pF (c m:Nat):Option (List Nat)→List ByteArray×Option (List Nat)
 | none=>([],none)
 | some l=>match Da c m l with
  | none=>([],none)
  | some (v,r)=>(v,some r)
def stM {α:Type}(p:List Nat→Option (α×List Nat))(n:Nat):Option (List Nat)→List α×Option (List Nat)
 | none=>([],none)
 | some l=>match pM p l n with
  | none=>([],none)
  | some (v,r)=>(v,some r)
def xZ {α:Type}(p:List Nat→Option (α×List Nat))(H:af)(c n:Nat)(st:Option (List Nat))(i:Nat)(xs:List α):Prop :=
 (∃l r,st=some l∧pM p l i=some (xs,r)∧RD H c (some r))∨(RD H c none∧∀l,st=some l→pM p l n=none)
theorem RD.lt {H:af}{c:Nat}{st:Option (List Nat)}(h:RD H c st):c<H.length:=by
 obtain⟨k,rest,e,h1,_⟩:=h.at_;exact aY h1
theorem xy.jv {n0:Nat}{H H':af}{k:SK}(h:xy n0 H k H'):bm (fun c=>∃e,k=.own c e) H H':=⟨h.len,fun c hc hn=>by
 obtain⟨x,hx⟩:=cw hc
 rw[hx];exact h.get c x hx fun e he=>hn ⟨e,he⟩⟩
theorem mO.jv {n0:Nat}{H H':af}{k:SK}(h:mO n0 H k){F:Nat→Prop}(hf:bm F H H')(hF:∀t,n0≤t→¬F t):mO n0 H' k:=by
 rcases h with h|h|⟨t,e,h,h1,h2⟩
 ·exact .inl h
 ·exact .inr (.inl h)
 ·exact .inr (.inr ⟨t,e,h,h1,hf.get h2 (hF t h1)⟩)
theorem mO.own {n0:Nat}{H:af}{k:SK}(h:mO n0 H k){t e:Nat}(hk:k=.own t e):n0≤t:=by
 rcases h with h|h|⟨t',e',h,h1,h2⟩
 ·rw[h]at hk;cases hk
 ·rw[h]at hk;cases hk
 ·rw[h]at hk;cases hk;exact h1
def RTQ (c:Nat)(xs:List ByteArray)(st:Option (List Nat))(H:af):Out→af→Prop:=fun o H'=>∃kk,iD kk xs∧o=.val (.sl kk (xs.map eS))∧RD H' c st∧bm (fun b=>b=c) H H'
set_option maxHeartbeats 1000000 in
theorem CD {H:af}{c:Nat}{st:Option (List Nat)}(h:RD H c st)(cm m:Nat)(Qo:cm≤8000000)(hm:m<9223372036854775808):W env (.call 56 [.ptr c 0,.int .i64 cm,.int .i64 m]) H (RTQ c (pF cm m st).1 (pF cm m st).2 H):=by
 obtain⟨k0,rest,e0,d0,ya,M4,_,_⟩:=h.at_
 have lc:=aY d0
 refine W.bU rfl rfl rfl ?_
 simp -implicitDefEqProofs only[Oi,op,ef,cl,sq,reduceIte,q6,q7,q9,j1,j2,j3,j4,j5,j6,S1,d0]
 refine ae _ _ _ _ _ _ _ _ (vO h cm (by omega)) ?_
 rintro u H1⟨hu,hr,hf⟩
 cases hu
 obtain⟨n,hn⟩:∃n,n=(wq cm st).1:=⟨_,rfl⟩
 obtain⟨kD,CE⟩:∃kD,kD=(wq cm st).2:=⟨_,rfl⟩
 have Qt:n≤cm∧(kD=none→n=0)∧pF cm m st=stM (pT m) n kD:=by
  rw[hn,CE]
  cases st with
  | none=>exact⟨Nat.zero_le _,fun _=>rfl,rfl⟩
  | some l =>
   cases hp:pC cm l with
   | none =>
    have:wq cm (some l)=(0,none):=by simp -implicitDefEqProofs only[wq,hp]
    rw[this]
    exact⟨Nat.zero_le _,fun _=>rfl,by simp -implicitDefEqProofs only[pF,Da,hp,stM]⟩
   | some x =>
    obtain⟨v,r⟩:=x
    have:wq cm (some l)=(v,some r):=by simp -implicitDefEqProofs only[wq,hp]
    rw[this]
    exact⟨(mr hp).2,(fun h=>by cases h),by simp -implicitDefEqProofs only[pF,Da,hp,stM];cases pM (pT m) r v<;>rfl⟩
 rw[←hn]
 rw[←CE]at hr
 obtain⟨hn1,Jf,rf⟩:=Qt
 have Tw:c<H1.length:=hr.lt
 have U8:xZ (pT m) H1 c n kD 0 []:=by
  cases kD with
  | none=>exact .inr ⟨hr,fun l h=>by cases h⟩
  | some l=>exact .inl ⟨l,l,rfl,rfl,hr⟩
 simp -implicitDefEqProofs only[op,ef,cl,sq,reduceIte,q6,q7,q9,j1,j2,j3,j4,j5,j6,S1]
 refine W.eZ 0 [(0,_),(2,_),(7,_),(17,_)] (fun (i:Nat) R H'=>At H' (fun H'=>∃kk xs,R 9=.sl kk (xs.map eS)∧mO H1.length H' kk∧iD kk xs∧xs.length=i∧xZ (pT m) H' c n kD i xs∧bm (fun b=>b=c) H1 H')∧R 18=.int .i64 i∧i≤n) (fun i=>n-i) 0
  (fun R H'=>At H' (fun H'=>∃kk xs,R 9=.sl kk (xs.map eS)∧iD kk xs∧xZ (pT m) H' c n kD n xs∧bm (fun b=>b=c) H1 H')) ⟨.i ⟨.nil,[],rfl,l4 _ _,fun _=>rfl,rfl,U8,bm.refl _ _⟩,rfl,Nat.zero_le _⟩ ?_ ?_
 ·rintro i R H2⟨⟨kk,xs,g9,ob,pq,DX,sJ,ea⟩,g18,hi⟩
  by_cases aw:i<n
  rotate_left
  ·have lu:i=n:=by omega
   subst lu
   simp -implicitDefEqProofs only[aq,ah,op,ef,cl,sq,reduceIte,q6,q7,q9,j1,j2,j3,j4,j5,j6,S1,g9,g18,aw,cS]
   exact .i ⟨kk,xs,rfl,pq,sJ,ea⟩
  have mR:=aC (show i<9223372036854775807 by omega)
  obtain⟨jw,U9,bV⟩:∃jw,RD H2 c jw∧∀H3,RD H3 c (gk m jw).2→xZ (pT m) H3 c n kD (i+1) (xs++[(gk m jw).1])∧((gk m jw).2=none→RD H3 c none∧∀l,kD=some l→pM (pT m) l n=none):=by
   rcases sJ with⟨l,r,e1,e2,e3⟩|⟨e1,e2⟩
   ·refine⟨some r,e3,fun H3 yd=>?_⟩
    cases hp:pT m r with
    | none =>
     have es:gk m (some r)=(⟨#[]⟩,none):=by simp -implicitDefEqProofs only[gk,hp]
     have gI:∀l,kD=some l→pM (pT m) l n=none:=fun l' e'=>by
      rw[e1]at e';cases e'
      exact AW (by rw[jc e2,hp]) (show i+1≤n by omega)
     rw[es]at yd ⊢
     exact⟨.inr ⟨yd,gI⟩,fun _=>⟨yd,gI⟩⟩
    | some y =>
     obtain⟨s,r'⟩:=y
     have es:gk m (some r)=(s,some r'):=by simp -implicitDefEqProofs only[gk,hp]
     rw[es]at yd ⊢
     exact⟨.inl ⟨l,r',e1,by rw[jc e2,hp],yd⟩,fun h=>by cases h⟩
   ·refine⟨none,e1,fun H3 yd=>⟨.inr ⟨yd,e2⟩,fun _=>⟨yd,e2⟩⟩⟩
  have yh:c<H2.length:=U9.lt
  simp -implicitDefEqProofs only[aq,ah,op,ef,cl,sq,reduceIte,q6,q7,q9,j1,j2,j3,j4,j5,j6,S1,g9,g18,aw]
  refine ae _ _ _ _ _ _ _ _ (oF U9 m hm) ?_
  rintro u H3⟨hu,yd,py⟩
  cases hu
  have aa7:=mO.jv ob py (fun t ht=>by omega)
  have cJ:=all_map (enc:=eS) (n:=1) (fun _=>rfl) xs
  obtain⟨k4,H4,ha,hk4,CP⟩:=lJ (bytes:=16) (xs.map eS) [eS (gk m jw).1] aa7 (Nat.le_trans ea.1 py.1) (by simp) (iY (by simp -implicitDefEqProofs only[List.length_map,List.length_cons,List.length_nil];omega))
  have BA:gX H3 16 kk (xs.map eS) [[.str (gk m jw).1]]=some (.sl k4 ((xs++[(gk m jw).1]).map eS),H4):=by rw[List.map_append];exact ha
  have mQ:iD k4 (xs++[(gk m jw).1]):=fun e=>absurd e (vt ha (by simp))
  have hF:bm (fun c=>∃e,kk=.own c e) H3 H4:=xy.jv CP
  have hcn:¬ ∃e,kk=.own c e:=fun ⟨e,he⟩=>by have:=mO.own ob he;omega
  have WG:RD H4 c (gk m jw).2:=by
   obtain⟨k,rest,e,h1,h2⟩:=yd.at_
   exact⟨k,rest,e,hF.get h1 hcn,h2⟩
  have yg:bm (fun b=>b=c) H1 H4:=(ea.trans py fun b hb=>.inl hb).trans hF fun b ⟨e,he⟩=>.inr (mO.own ob he)
  obtain⟨pz,um⟩:=bV H4 WG
  obtain⟨k5,acP,e5,d5,Hi,hb5,ho5,WH⟩:=WG.at_
  by_cases pD:(gk m jw).2=none
  ·obtain⟨kO,kQ⟩:=um pD
   have e5n:e5≠0:=WH pD
   have e1:(e5 != 0)=true:=by simpa using e5n
   simp -implicitDefEqProofs only[op,ef,cl,sq,reduceIte,q6,q7,q9,j1,j2,j3,j4,j5,j6,S1,g9,cJ,BA,d5,e1,cS]
   exact .i ⟨k4,xs++[(gk m jw).1],rfl,mQ,.inr ⟨kO,kQ⟩,yg⟩
  ·have e50:e5=0:=by
    cases hs:(gk m jw).2 with
    | none=>exact absurd hs pD
    | some l=>exact(ho5 l hs).1
   subst e50
   have e1:((0:Int) != 0)=false:=rfl
   simp -implicitDefEqProofs only[op,ef,cl,sq,reduceIte,q6,q7,q9,j1,j2,j3,j4,j5,j6,S1,g9,g18,cJ,BA,d5,e1,mR]
   exact⟨i+1,by omega,.i ⟨k4,xs++[(gk m jw).1],rfl,hk4,mQ,by simp[DX],pz,yg⟩,rfl,aw⟩
 rintro R H2⟨kk,xs,g9,pq,sJ,ea⟩
 have KZ:=hf.trans ea fun b hb=>.inl hb
 rw[rf]
 rcases sJ with⟨l,r,e1,e2,e3⟩|⟨e1,e2⟩
 ·obtain⟨k2,d2,_,_⟩:=e3.ok
  have er:stM (pT m) n kD=(xs,some r):=by rw[e1];simp -implicitDefEqProofs only[stM,e2]
  rw[er]
  simp -implicitDefEqProofs only[aq,ah,op,ef,cl,sq,reduceIte,q6,q7,q9,j1,j2,j3,j4,j5,j6,S1,g9,d2]
  exact⟨kk,pq,rfl,e3,KZ⟩
 ·obtain⟨k2,fq,e5,d2,hl2,kQ,WH⟩:=e1.bad
  have Va:stM (pT m) n kD=([],none):=by
   cases kD with
   | none=>rfl
   | some l=>simp -implicitDefEqProofs only[stM,e2 l rfl]
  rw[Va]
  have MP:(e5 != 0)=true:=by simpa using WH
  have yh:=aY d2
  simp -implicitDefEqProofs only[aq,ah,op,ef,cl,sq,reduceIte,q6,q7,q9,j1,j2,j3,j4,j5,j6,S1,d2,MP,yh,S2]
  exact⟨.nil,fun _=>rfl,rfl,RD.WC (bX yh) ya M4 WH,KZ.set (.inl rfl) _⟩
def sD (l:List Nat):Option (Nm×List Nat):=match pT 65535 l with
 | none=>none
 | some (k,r)=>match pN 8 r with
  | none=>none
  | some (v,r')=>some ((k,v),r')
def A5 (xs:List Nm):List (ByteArray×T):=xs.foldl (fun es x=>cu es x.1 (.int .u64 x.2)) []
def A6 (xs:List Nm)(k:ByteArray):Nat:=xs.foldl (fun v x=>if x.1=k then x.2 else v) 0
theorem x0 (xs:List Nm)(x:Nm):A5 (xs++[x])=cu (A5 xs) x.1 (.int .u64 x.2):=by simp[A5]
theorem Hj (xs:List Nm)(x:Nm)(k:ByteArray):A6 (xs++[x]) k=if x.1=k then x.2 else A6 xs k:=by simp[A6]
def nx {α:Type}(p:List Nat→Option (α×List Nat)):Option (List Nat)→Option (List Nat)
 | none=>none
 | some l=>match p l with
  | none=>none
  | some (_,r)=>some r
def K0 {α:Type}(p:List Nat→Option (α×List Nat))(n:Nat):Option (List Nat)→Option (List α×List Nat)
 | none=>none
 | some l=>pM p l n
theorem aa8 (st:Option (List Nat)):nx sD st=(eD 8 (gk 65535 st).2).2∧∀l x r,st=some l→sD l=some (x,r)→(gk 65535 st).1=x.1∧(eD 8 (gk 65535 st).2).1=x.2:=by
 cases st with
 | none=>exact⟨rfl,fun l x r h=>by cases h⟩
 | some l =>
  cases h1:pT 65535 l with
  | none =>
   have e:gk 65535 (some l)=(⟨#[]⟩,none):=by simp -implicitDefEqProofs only[gk,h1]
   have e2:sD l=none:=by simp -implicitDefEqProofs only[sD,h1]
   rw[e]
   exact⟨by simp -implicitDefEqProofs only[nx,e2];rfl,fun l' x r h h'=>by cases h;rw[e2]at h';cases h'⟩
  | some y =>
   obtain⟨k,r⟩:=y
   have e:gk 65535 (some l)=(k,some r):=by simp -implicitDefEqProofs only[gk,h1]
   rw[e]
   cases h2:pN 8 r with
   | none =>
    have e2:sD l=none:=by simp -implicitDefEqProofs only[sD,h1,h2]
    have e3:eD 8 (some r)=(0,none):=by simp -implicitDefEqProofs only[eD,h2]
    exact⟨by simp -implicitDefEqProofs only[nx,e2,e3],fun l' x r h h'=>by cases h;rw[e2]at h';cases h'⟩
   | some z =>
    obtain⟨v,r'⟩:=z
    have e2:sD l=some ((k,v),r'):=by simp -implicitDefEqProofs only[sD,h1,h2]
    have e3:eD 8 (some r)=(v,some r'):=by simp -implicitDefEqProofs only[eD,h2]
    refine⟨by simp -implicitDefEqProofs only[nx,e2,e3],fun l' x r h h'=>?_⟩
    cases h
    rw[e2]at h'
    simp -implicitDefEqProofs only[Option.some.injEq,Prod.mk.injEq]at h'
    obtain⟨rfl,rfl⟩:=h'
    exact⟨rfl,by rw[e3]⟩
def sE {α:Type}(p:List Nat→Option (α×List Nat))(st:Option (List Nat)):Option (List α×List Nat):=match st with
 | none=>none
 | some l=>match pC 2147483647 l with
  | none=>none
  | some (n,r)=>pM p r n
theorem Hk {α:Type}(p:List Nat→Option (α×List Nat))(st:Option (List Nat)):∃n kD,n=(wq 2147483647 st).1∧kD=(wq 2147483647 st).2∧n≤2147483647∧(kD=none→n=0)∧sE p st=K0 p n kD:=by
 cases st with
 | none=>exact⟨0,none,rfl,rfl,by decide,fun _=>rfl,rfl⟩
 | some l =>
  cases hp:pC 2147483647 l with
  | none =>
   have:wq 2147483647 (some l)=(0,none):=by simp -implicitDefEqProofs only[wq,hp]
   rw[this]
   exact⟨0,none,rfl,rfl,by decide,fun _=>rfl,by simp -implicitDefEqProofs only[sE,hp,K0]⟩
  | some x =>
   obtain⟨v,r⟩:=x
   have:wq 2147483647 (some l)=(v,some r):=by simp -implicitDefEqProofs only[wq,hp]
   rw[this]
   exact⟨v,some r,rfl,rfl,(mr hp).2,(fun h=>by cases h),by simp -implicitDefEqProofs only[sE,hp,K0]⟩
theorem xZ.step {α:Type}{p:List Nat→Option (α×List Nat)}{H:af}{c n i:Nat}{kD:Option (List Nat)}{xs:List α}(h:xZ p H c n kD i xs)(hi:i<n):∃jw,RD H c jw∧∀H3 Vb x,RD H3 c Vb→(∀l,jw=some l→Vb=nx p (some l)∧∀y r,p l=some (y,r)→x=y)→(jw=none→Vb=none)→xZ p H3 c n kD (i+1) (xs++[x]):=by
 rcases h with⟨l,r,e1,e2,e3⟩|⟨e1,e2⟩
 ·refine⟨some r,e3,fun H3 Vb x yd hs _=>?_⟩
  obtain⟨h1,h2⟩:=hs r rfl
  unfold nx at h1
  cases hp:p r with
  | none =>
   simp -implicitDefEqProofs only[hp]at h1
   subst h1
   exact .inr ⟨yd,fun l' e'=>by
    rw[e1]at e';cases e'
    exact AW (by rw[jc e2,hp]) (show i+1≤n by omega)⟩
  | some y =>
   obtain⟨y,r'⟩:=y
   simp -implicitDefEqProofs only[hp]at h1
   have:=h2 y r' hp
   subst h1;subst this
   exact .inl ⟨l,r',e1,by rw[jc e2,hp],yd⟩
 ·refine⟨none,e1,fun H3 Vb x yd _ hn=>?_⟩
  have:=hn rfl
  subst this
  exact .inr ⟨yd,e2⟩
theorem xZ.wf {α:Type}{p:List Nat→Option (α×List Nat)}{H:af}{c n i:Nat}{kD:Option (List Nat)}{xs:List α}(h:xZ p H c n kD i xs):∃jw,RD H c jw∧(jw=none→∀l,kD=some l→pM p l n=none):=by
 rcases h with⟨l,r,e1,e2,e3⟩|⟨e1,e2⟩
 ·exact⟨some r,e3,fun h=>by cases h⟩
 ·exact⟨none,e1,fun _=>e2⟩
theorem xZ.end_ {α:Type}{p:List Nat→Option (α×List Nat)}{H:af}{c n:Nat}{st kD:Option (List Nat)}{xs:List α}(h:xZ p H c n kD n xs)(hp:sE p st=K0 p n kD):(∃r,sE p st=some (xs,r)∧RD H c (some r))∨(sE p st=none∧RD H c none):=by
 rw[hp]
 rcases h with⟨l,r,e1,e2,e3⟩|⟨e1,e2⟩
 ·exact .inl ⟨r,by rw[e1];exact e2,e3⟩
 ·refine .inr ⟨?_,e1⟩
  cases kD with
  | none=>rfl
  | some l=>exact e2 l rfl
def PD (c:Nat)(st:Option (List Nat))(H:af):Out→af→Prop:=fun o H'=>∃kk xs mb,o=.val (.bJ [.sl kk (xs.map eW),.map mb])∧H'[mb]?=some (.map (bh T.str (A5 xs)))∧H.length≤mb∧bm (fun b=>b=c) H H'∧((∃r,sE sD st=some (xs,r)∧RD H' c (some r))∨(sE sD st=none∧RD H' c none))
set_option maxHeartbeats 1000000 in
theorem CF {H:af}{c:Nat}{st:Option (List Nat)}(h:RD H c st):W env (.call 52 [.ptr c 0]) H (PD c st H):=by
 have lc:=h.lt
 obtain⟨H1,wh⟩:∃H1,H1=H++[B.map []]:=⟨_,rfl⟩
 have gz:Ext H H1:=⟨_,wh⟩
 have CX:=h.ext gz
 have d1:H1[H.length]?=some (.map (bh T.str (A5 []))):=by rw[wh];exact aO rfl
 have l1:H1.length=H.length+1:=by rw[wh];simp
 refine W.bU rfl rfl rfl ?_
 simp -implicitDefEqProofs only[Of,op,ef,cl,sq,reduceIte,q6,q7,q9,j1,j2,j3,j4,j5,j6,S1]
 rw[←wh]
 refine ae _ _ _ _ _ _ _ _ (vO CX 2147483647 (by decide)) ?_
 rintro u H2⟨hu,hr,hf⟩
 cases hu
 obtain⟨n,kD,hn,CE,Qt,jC,hpc⟩:=Hk sD st
 rw[←hn]
 rw[←CE]at hr
 have d2:=hf.get d1 (by omega)
 have KZ:bm (fun b=>b=c) H H2:=(aB gz).trans hf fun b hb=>.inl hb
 have M6:c<H2.length:=hr.lt
 have hl2:H1.length≤H2.length:=hf.1
 have U8:xZ sD H2 c n kD 0 []:=by
  cases kD with
  | none=>exact .inr ⟨hr,fun l h=>by cases h⟩
  | some l=>exact .inl ⟨l,l,rfl,rfl,hr⟩
 simp -implicitDefEqProofs only[op,ef,cl,sq,reduceIte,q6,q7,q9,j1,j2,j3,j4,j5,j6,S1]
 refine W.eZ 0 [(0,_),(5,_)] (fun (i:Nat) R H'=>At H' (fun H'=>∃kk xs,R 4=.sl kk (xs.map eW)∧mO H2.length H' kk∧xs.length=i∧H'[H.length]?=some (.map (bh T.str (A5 xs)))∧xZ sD H' c n kD i xs∧bm (fun b=>b=c) H H'∧H2.length≤H'.length)∧R 6=.int .i64 ((n-i:Nat):Int)∧i≤n) (fun i=>n-i) 0
  (fun R H'=>At H' (fun H'=>∃kk xs,R 4=.sl kk (xs.map eW)∧H'[H.length]?=some (.map (bh T.str (A5 xs)))∧xZ sD H' c n kD n xs∧bm (fun b=>b=c) H H')) ⟨.i ⟨.nil,[],rfl,l4 _ _,rfl,d2,U8,KZ,Nat.le_refl _⟩,rfl,Nat.zero_le _⟩ ?_ ?_
 ·rintro i R H3⟨⟨kk,xs,g4,ob,DX,d3,sJ,py,hl3⟩,g6,hi⟩
  by_cases aw:i<n
  rotate_left
  ·have lu:i=n:=by omega
   subst lu
   have e:decide (((i-i:Nat):Int)>0)=false:=by simp
   simp -implicitDefEqProofs only[aq,ah,op,ef,cl,sq,reduceIte,q6,q7,q9,j1,j2,j3,j4,j5,j6,S1,g4,g6,e,cS]
   exact .i ⟨kk,xs,rfl,d3,sJ,py⟩
  obtain⟨stw,Vc,pD⟩:=sJ.wf
  have e:decide (((n-i:Nat):Int)>0)=true:=by simp;omega
  simp -implicitDefEqProofs only[aq,ah,op,ef,cl,sq,reduceIte,q6,q7,q9,j1,j2,j3,j4,j5,j6,S1,g4,g6,e]
  refine ae _ _ _ _ _ _ _ _ (Mw Vc) ?_
  rintro u H3'⟨rfl,er,hu,Mx⟩
  cases hu
  by_cases hw:stw=none
  ·have Hl:¬er=0:=fun h0=>(Mx.1 h0) hw
   have e1:(er==0)=false:=by simpa using Hl
   simp -implicitDefEqProofs only[op,ef,cl,sq,reduceIte,q6,q7,q9,j1,j2,j3,j4,j5,j6,S1,e1,g4,cS]
   refine .i ⟨kk,xs,rfl,d3,.inr ⟨by rw[←hw];exact Vc,pD hw⟩,py⟩
  have Hl:er=0:=Mx.2 hw
  subst Hl
  obtain⟨jw,uY,bV⟩:=sJ.step aw
  have yh:c<H3'.length:=uY.lt
  have e1:((0:Int)==0)=true:=rfl
  simp -implicitDefEqProofs only[op,ef,cl,sq,reduceIte,q6,q7,q9,j1,j2,j3,j4,j5,j6,S1,e1]
  refine ae _ _ _ _ _ _ _ _ (oF uY 65535 (by decide)) ?_
  rintro u H4⟨hu,WG,yg⟩
  cases hu
  simp -implicitDefEqProofs only[op,ef,cl,sq,reduceIte,q6,q7,q9,j1,j2,j3,j4,j5,j6,S1]
  refine ae _ _ _ _ _ _ _ _ (PA WG) ?_
  rintro u H5⟨hu,hr5,Ud⟩
  cases hu
  obtain⟨s1,s2⟩:=aa8 jw
  obtain⟨x,hx⟩:∃x:Nm,x=((gk 65535 jw).1,(eD 8 (gk 65535 jw).2).1):=⟨_,rfl⟩
  have x1:(gk 65535 jw).1=x.1:=by rw[hx]
  have x2:(eD 8 (gk 65535 jw).2).1=x.2:=by rw[hx]
  rw[x1,x2]
  have Ve:=yg.trans Ud fun b hb=>.inl hb
  obtain⟨H6,KG⟩:∃H6,H6=H5++[B.cells (eW x)]:=⟨_,rfl⟩
  have sy:Ext H5 H6:=⟨_,KG⟩
  have d6:H6[H5.length]?=some (.cells (eW x)):=by rw[KG];exact aO rfl
  have Hm:bm (fun b=>b=c) H3' H6:=Ve.ext sy
  have K1:=mO.jv ob Hm (fun t ht=>by omega)
  have l5:H3'.length≤H5.length:=Ve.1
  have m6:=Hm.get d3 (by omega)
  have cJ:=all_map (enc:=eW) (n:=2) (fun _=>rfl) xs
  obtain⟨k7,H7,ha,hk7,Kw⟩:=lJ (bytes:=24) (xs.map eW) [eW x] K1 (Nat.le_trans hl3 Hm.1) (by simp) (iY (by simp -implicitDefEqProofs only[List.length_map,List.length_cons,List.length_nil];omega))
  have BA:gX H6 24 kk (xs.map eW) [[.str x.1,.int .u64 x.2]]=some (.sl k7 ((xs++[x]).map eW),H7):=by rw[List.map_append];exact ha
  have m7:=Kw.cells K1 m6 (by simp)
  have d7:=Kw.cells K1 d6 (by simp)
  have l7:=aY m7
  obtain⟨H8,G9⟩:∃H8,H8=H7.set H.length (.map (bh T.str (A5 (xs++[x])))):=⟨_,rfl⟩
  have Vf:=G9
  rw[x0]at Vf
  have hF7:bm (fun b=>b=c) H H7:=(py.trans Hm fun b hb=>.inl hb).trans (xy.jv Kw) fun b ⟨e,he⟩=>.inr (by have:=mO.own ob he;omega)
  have hF8:bm (fun b=>b=c) H H8:=by rw[G9];exact hF7.set (.inr (Nat.le_refl _)) _
  have r8:RD H8 c (eD 8 (gk 65535 jw).2).2:=by
   obtain⟨k,rest,e,h1,h2⟩:=(hr5.ext sy).at_
   have h3:=Kw.cells K1 h1 (by simp)
   exact⟨k,rest,e,by rw[G9,bj (by omega)];exact h3,h2⟩
  have abc:mO H2.length H8 k7:=by rw[G9];exact hk7.set m7 (by simp) _
  have pm8:=bV H8 (eD 8 (gk 65535 jw).2).2 x r8 (fun l hl=>⟨by rw[←s1,hl],fun y r hy=>by
   obtain⟨y1,y2⟩:=s2 l y r hl hy
   rw[hx,y1,y2]⟩) (fun hl=>by rw[hl];rfl)
  have wd:IntKind.i64.wrap (((n-i:Nat):Int)-1)=((n-(i+1):Nat):Int):=by rw[wrap64 (by omega)];omega
  simp -implicitDefEqProofs only[eW]at KG d6 d7
  simp -implicitDefEqProofs only[op,ef,cl,sq,reduceIte,q6,q7,q9,j1,j2,j3,j4,j5,j6,S1,S2]
  rw[←KG]
  simp -implicitDefEqProofs only[op,ef,cl,sq,reduceIte,q6,q7,q9,j1,j2,j3,j4,j5,j6,S1,g4,g6,d6,d7,cJ,BA,m7,l7,wd]
  rw[←Vf]
  exact⟨i+1,by omega,.i ⟨k7,xs++[x],rfl,abc,by simp[DX],by rw[G9];exact bX l7,pm8,hF8,by rw[G9,List.length_set];have:=Kw.len;have:=Hm.1;omega⟩,rfl,aw⟩
 rintro R H3⟨kk,xs,g4,d3,sJ,py⟩
 simp -implicitDefEqProofs only[aq,ah,op,ef,cl,sq,reduceIte,q6,q7,q9,j1,j2,j3,j4,j5,j6,S1,g4]
 exact⟨kk,xs,H.length,rfl,d3,Nat.le_refl _,py,sJ.end_ hpc⟩
def qg (l:List Nat):Option (Kd×List Nat):=match pT 65535 l with
 | none=>none
 | some (k,r1)=>match pN 8 r1 with
  | none=>none
  | some (v,r2)=>match pT 65535 r2 with
   | none=>none
   | some (w,r3)=>match Da 1024 65535 r3 with
    | none=>none
    | some (ks,r4)=>some (⟨k,v,w,.arg,ks,-1⟩,r4)
def WI (st:Option (List Nat)):=gk 65535 st
def WJ (st:Option (List Nat)):=eD 8 (WI st).2
def Vg (st:Option (List Nat)):=gk 65535 (WJ st).2
def K3 (st:Option (List Nat)):=pF 1024 65535 (Vg st).2
theorem Vh (st:Option (List Nat)):nx qg st=(K3 st).2∧(st=none→(K3 st).2=none)∧∀l x r,st=some l→qg l=some (x,r)→(WI st).1=x.key∧(WJ st).1=x.id∧(Vg st).1=x.value∧(K3 st).1=x.keys∧x.kk=.arg∧x.bg=-1:=by
 have n1:eD 8 none=(0,none):=rfl
 have n2:gk 65535 none=(⟨#[]⟩,none):=rfl
 have n3:pF 1024 65535 none=([],none):=rfl
 cases st with
 | none=>exact⟨rfl,fun _=>rfl,fun l x r h=>by cases h⟩
 | some l =>
  unfold K3 Vg WJ WI
  cases h1:pT 65535 l with
  | none =>
   have e:gk 65535 (some l)=(⟨#[]⟩,none):=by simp -implicitDefEqProofs only[gk,h1]
   have e2:qg l=none:=by simp -implicitDefEqProofs only[qg,h1]
   rw[e]
   exact⟨by simp -implicitDefEqProofs only[nx,e2,n1,n2,n3],(fun h=>by cases h),fun l' x r h h'=>by cases h;rw[e2]at h';cases h'⟩
  | some y =>
   obtain⟨k,r1⟩:=y
   have e:gk 65535 (some l)=(k,some r1):=by simp -implicitDefEqProofs only[gk,h1]
   rw[e]
   cases h2:pN 8 r1 with
   | none =>
    have e2:qg l=none:=by simp -implicitDefEqProofs only[qg,h1,h2]
    have e3:eD 8 (some r1)=(0,none):=by simp -implicitDefEqProofs only[eD,h2]
    exact⟨by simp -implicitDefEqProofs only[nx,e2,e3,n1,n2,n3],(fun h=>by cases h),fun l' x r h h'=>by cases h;rw[e2]at h';cases h'⟩
   | some z =>
    obtain⟨v,r2⟩:=z
    have e3:eD 8 (some r1)=(v,some r2):=by simp -implicitDefEqProofs only[eD,h2]
    simp -implicitDefEqProofs only[e3]
    cases h3:pT 65535 r2 with
    | none =>
     have e2:qg l=none:=by simp -implicitDefEqProofs only[qg,h1,h2,h3]
     have e4:gk 65535 (some r2)=(⟨#[]⟩,none):=by simp -implicitDefEqProofs only[gk,h3]
     exact⟨by simp -implicitDefEqProofs only[nx,e2,e4,n3],(fun h=>by cases h),fun l' x r h h'=>by cases h;rw[e2]at h';cases h'⟩
    | some w =>
     obtain⟨w,r3⟩:=w
     have e4:gk 65535 (some r2)=(w,some r3):=by simp -implicitDefEqProofs only[gk,h3]
     simp -implicitDefEqProofs only[e4]
     cases h4:Da 1024 65535 r3 with
     | none =>
      have e2:qg l=none:=by simp -implicitDefEqProofs only[qg,h1,h2,h3,h4]
      have e5:pF 1024 65535 (some r3)=([],none):=by simp -implicitDefEqProofs only[pF,h4]
      exact⟨by simp -implicitDefEqProofs only[nx,e2,e5],(fun h=>by cases h),fun l' x r h h'=>by cases h;rw[e2]at h';cases h'⟩
     | some q =>
      obtain⟨ks,r4⟩:=q
      have e2:qg l=some (⟨k,v,w,.arg,ks,-1⟩,r4):=by simp -implicitDefEqProofs only[qg,h1,h2,h3,h4]
      have e5:pF 1024 65535 (some r3)=(ks,some r4):=by simp -implicitDefEqProofs only[pF,h4]
      refine⟨by simp -implicitDefEqProofs only[nx,e2,e5],(fun h=>by cases h),fun l' x r h h'=>?_⟩
      cases h
      rw[e2]at h'
      simp -implicitDefEqProofs only[Option.some.injEq,Prod.mk.injEq]at h'
      obtain⟨rfl,rfl⟩:=h'
      simp -implicitDefEqProofs only[e5]
      exact⟨trivial,trivial,trivial,trivial,trivial,trivial⟩
def pY (now:Int)(L:List Nm)(x:Kd):Kd:={ x with bg:=if x.id<A6 L x.key then now else -1 }
def pH (l:List Nat):Option (Nat×List Nat):=match pN 4 l with
 | none=>none
 | some (f,r1)=>match pN 1 r1 with
  | none=>none
  | some (k,r2)=>match pN 8 r2 with
   | none=>none
   | some (g,r3)=>if f=1918987632∧k=1∧1≤g∧g≤9223372036854775807 then some (g,r3)else none
def pR (l:List Nat):Option (Nat×List Nm×List Kd):=match pH l with
 | none=>none
 | some (g,r3)=>match sE sD (some r3)with
  | none=>none
  | some (L,r4)=>match sE qg (some r4)with
   | none=>none
   | some (K,r5)=>if r5=[]then some (g,L,K)else none
theorem stH (l:List Nat):if (eD 4 (some l)).1=1918987632∧(eD 1 (eD 4 (some l)).2).1=1∧1≤(eD 8 (eD 1 (eD 4 (some l)).2).2).1∧(eD 8 (eD 1 (eD 4 (some l)).2).2).1≤9223372036854775807 then ∃r,pH l=some ((eD 8 (eD 1 (eD 4 (some l)).2).2).1,r)∧(eD 8 (eD 1 (eD 4 (some l)).2).2).2=some r else pH l=none:=by
 have n1:eD 8 none=(0,none):=rfl
 have n2:eD 1 none=(0,none):=rfl
 cases h1:pN 4 l with
 | none =>
  have e:eD 4 (some l)=(0,none):=by simp -implicitDefEqProofs only[eD,h1]
  rw[e,if_neg (fun h=>by have:=h.1;cases this)]
  simp -implicitDefEqProofs only[pH,h1]
 | some x =>
  obtain⟨f,r1⟩:=x
  have e:eD 4 (some l)=(f,some r1):=by simp -implicitDefEqProofs only[eD,h1]
  rw[e]
  simp only
  cases h2:pN 1 r1 with
  | none =>
   have e2:eD 1 (some r1)=(0,none):=by simp -implicitDefEqProofs only[eD,h2]
   rw[e2,if_neg (fun h=>by have:=h.2.1;cases this)]
   simp -implicitDefEqProofs only[pH,h1,h2]
  | some y =>
   obtain⟨k,r2⟩:=y
   have e2:eD 1 (some r1)=(k,some r2):=by simp -implicitDefEqProofs only[eD,h2]
   rw[e2]
   simp only
   cases h3:pN 8 r2 with
   | none =>
    have e3:eD 8 (some r2)=(0,none):=by simp -implicitDefEqProofs only[eD,h3]
    rw[e3,if_neg (fun h=>by have:=h.2.2.1;simp at this)]
    simp -implicitDefEqProofs only[pH,h1,h2,h3]
   | some z =>
    obtain⟨g,r3⟩:=z
    have e3:eD 8 (some r2)=(g,some r3):=by simp -implicitDefEqProofs only[eD,h3]
    rw[e3]
    simp only
    by_cases hc:f=1918987632∧k=1∧1≤g∧g≤9223372036854775807
    ·rw[if_pos hc]
     exact⟨r3,by simp -implicitDefEqProofs only[pH,h1,h2,h3];rw[if_pos hc],rfl⟩
    ·rw[if_neg hc]
     simp -implicitDefEqProofs only[pH,h1,h2,h3];rw[if_neg hc]
theorem A7 (xs:List Nm)(k:ByteArray):(ai (A5 xs) k=none∧A6 xs k=0)∨ai (A5 xs) k=some (.int .u64 (A6 xs k)):=by
 have h:∀n,n≤xs.length→(ai (A5 (xs.take n)) k=none∧A6 (xs.take n) k=0)∨ai (A5 (xs.take n)) k=some (.int .u64 (A6 (xs.take n) k)):=by
  intro n
  induction n with
  | zero=>exact fun _=>.inl ⟨rfl,rfl⟩
  | succ n ih =>
   intro hn
   obtain⟨x,hx⟩:=cw (l:=xs) (i:=n) (by omega)
   rw[fW hx,x0,Hj,br]
   by_cases e:k=x.1
   ·rw[if_pos e,if_pos e.symm];exact .inr rfl
   ·rw[if_neg e,if_neg (fun h=>e h.symm)];exact ih (by omega)
 have:=h xs.length (Nat.le_refl _)
 rwa[List.take_length]at this
theorem PE {l r:List Nat}{x:Kd}(h:qg l=some (x,r)):x.kk=.arg∧x.keys.length≤1024:=by
 have hs:=(Vh (some l)).2.2 l x r rfl h
 refine⟨hs.2.2.2.2.1,?_⟩
 rw[←hs.2.2.2.1]
 unfold K3
 generalize (Vg (some l)).2=st
 cases st with
 | none=>exact Nat.zero_le _
 | some r3 =>
  unfold pF
  simp only
  cases h4:Da 1024 65535 r3 with
  | none=>exact Nat.zero_le _
  | some q =>
   obtain⟨ks,r4⟩:=q
   simp only
   unfold Da at h4
   cases h5:pC 1024 r3 with
   | none=>rw[h5]at h4;cases h4
   | some y =>
    obtain⟨n,r5⟩:=y
    rw[h5]at h4
    rw[vH h4]
    exact(mr h5).2
theorem PF {α:Type}{p:List Nat→Option (α×List Nat)}{Q:α→Prop}(hQ:∀l x r,p l=some (x,r)→Q x){l r:List Nat}:∀{n:Nat} {xs:List α},pM p l n=some (xs,r)→∀x∈xs,Q x
 | n,xs,h=>by
  induction n generalizing xs r with
  | zero=>simp -implicitDefEqProofs only[pM,Option.some.injEq,Prod.mk.injEq]at h;rw[←h.1];intro x hx;cases hx
  | succ n ih =>
   cases h1:pM p l n with
   | none=>simp -implicitDefEqProofs only[pM,h1]at h;cases h
   | some y =>
    obtain⟨ys,r1⟩:=y
    rw[jc h1]at h
    cases h2:p r1 with
    | none=>rw[h2]at h;cases h
    | some z =>
     obtain⟨z,r2⟩:=z
     rw[h2]at h
     simp -implicitDefEqProofs only[Option.some.injEq,Prod.mk.injEq]at h
     rw[←h.1]
     intro x hx
     rcases List.mem_append.1 hx with hx|hx
     ·exact ih _ h1 x hx
     ·simp at hx;subst hx;exact hQ _ _ _ h2
theorem K4 {α:Type}{p:List Nat→Option (α×List Nat)}{Q:α→Prop}(hQ:∀l x r,p l=some (x,r)→Q x){st:Option (List Nat)}{xs:List α}{r:List Nat}(h:sE p st=some (xs,r)):∀x∈xs,Q x:=by
 unfold sE at h
 cases st with
 | none=>cases h
 | some l =>
  simp only at h
  cases h1:pC 2147483647 l with
  | none=>rw[h1]at h;cases h
  | some y =>
   obtain⟨n,r1⟩:=y
   rw[h1]at h
   exact PF hQ h
def js (l:List Nat):Prop:=4≤l.length∧dC 4 (iM (l.take (l.length-4)))=l.drop (l.length-4)
def Ho (l : List Nat)(now : Int)(H : af) : Out → af → Prop := fun o H' =>
  (¬bq now ∧ o = .val (.bJ [.int .i64 0, .bR, .int .i64 1]) ∧ Ext H H') ∨
  (bq now ∧ ¬js l ∧ o = .val (.bJ [.int .i64 0, .bR, .int .i64 90]) ∧ Ext H H') ∨
  (bq now ∧ js l ∧ pR (l.take (l.length - 4)) = none ∧ o = .val (.bJ [.int .i64 0, .bR, .int .i64 2]) ∧ Ext H H') ∨
  (bq now ∧ js l ∧ ∃g L K, pR (l.take (l.length - 4)) = some (g, L, K) ∧
    ((dv (K.map (pY now L)) L ∧ ∃b F, o = .val (.bJ [.int .i64 g, .ptr b.s 0, .int .i64 0]) ∧ mj H H' b (dF (K.map (pY now L)) L) F K.length) ∨
     (¬dv (K.map (pY now L)) L ∧ o = .val (.bJ [.int .i64 0, .bR, .int .i64 2]) ∧ Ext H H')))
theorem uA {H0 H H':af}{c:Nat}(hx:Ext H0 H)(hf:bm (fun b=>b=c) H H')(hc:H0.length≤c):Ext H0 H' :=
 gg ((aB (F:=fun _=>False) hx).trans hf fun b hb=>.inr (by omega))
theorem A8 {l m:List Nat}(hl:dG l)(hm:dG m):vG l=vG m↔l=m:=⟨fun h=>by rw[←GW hl,←GW hm,h],fun h=>by rw[h]⟩
set_option maxHeartbeats 8000000 in
theorem A9 {t:T}{l:List Nat}{H:af}(Vi:Bs H t l)(hk:lP t l)(hb:dG l)(hl:l.length≤4294967296)(now:Int)(C7:js l→∀g L K,pR (l.take (l.length-4))=some (g,L,K)→K.length≤8000000∧L.length≤8000000) :
  W env (.call 17 [t,.int .i64 now]) H (Ho l now H):=by
 have hle:=Vi.len
 refine W.bU rfl rfl rfl ?_
 by_cases ht:¬bq now
 ·have hd:now<0∨(¬now<0∧now>1099511627776):=by unfold bq at ht;omega
  rcases hd with h1|⟨h1,h2⟩
  ·simp -implicitDefEqProofs only[Ca,op,ef,cl,sq,reduceIte,q6,q7,q9,j1,j2,j3,j4,j5,j6,S1,h1]
   exact .inl ⟨ht,rfl,Ext.rfl'⟩
  ·simp -implicitDefEqProofs only[Ca,op,ef,cl,sq,reduceIte,q6,q7,q9,j1,j2,j3,j4,j5,j6,S1,h1,h2]
   exact .inl ⟨ht,rfl,Ext.rfl'⟩
 have ht:bq now:=Classical.not_not.1 ht
 have t1:¬now<0:=by unfold bq at ht;omega
 have t2:¬now>1099511627776:=by unfold bq at ht;omega
 by_cases hlen:l.length<4
 ·have w4:IntKind.i64.wrap ((l.length:Int)-4)=(l.length:Int)-4:=wrap64 (by omega)
  have e:decide ((l.length:Int)-4<0)=true:=by simp;omega
  simp -implicitDefEqProofs only[Ca,op,ef,cl,sq,reduceIte,q6,q7,q9,j1,j2,j3,j4,j5,j6,S1,t1,t2,hle,w4,e]
  exact .inr (.inl ⟨ht,fun h=>by have:=h.1;omega,rfl,Ext.rfl'⟩)
 obtain⟨n,hn⟩:∃n,n=l.length-4:=⟨_,rfl⟩
 have w4:IntKind.i64.wrap ((l.length:Int)-4)=(n:Int):=by rw[wrap64 (by omega)];omega
 have e:¬((n:Int)<0):=by omega
 obtain⟨tt,dD,bt,nt⟩:=Vi.take hk (n:=n) (by omega)
 obtain⟨td,QQ,bdr⟩:=Vi.drop hk (n:=n) (by omega)
 have sL:=bdr.uC
 have NR:dG (l.take n):=hb.take n
 simp -implicitDefEqProofs only[Ca,op,ef,cl,sq,reduceIte,q6,q7,q9,j1,j2,j3,j4,j5,j6,S1,t1,t2,hle,w4,e,↓dD,↓QQ,↓sL]
 refine ae _ _ _ _ _ _ _ _ (G8 bt NR (by rw[List.length_take];omega)) ?_
 rintro u H1⟨gz,hu⟩
 cases hu
 have gz:Ext H H1:=gz
 have PG:=PB (k:=.full) (l:=dC 4 (iM (l.take n)))
 have Vj:=(bdr.ext gz).uC
 by_cases Iq:js l
 rotate_left
 ·have bK:¬vG (dC 4 (iM (l.take n)))=vG (l.drop n):=fun h=>Iq ⟨by omega,by rw[←hn];exact(A8 (fc _ _) (hb.drop n)).1 h⟩
  simp -implicitDefEqProofs only[op,ef,cl,sq,reduceIte,q6,q7,q9,j1,j2,j3,j4,j5,j6,S1,↓dD,↓QQ,↓Vj,↓PG,bK]
  exact .inr (.inl ⟨ht,Iq,rfl,gz⟩)
 have heq:vG (dC 4 (iM (l.take n)))=vG (l.drop n):=by have:=Iq.2;rw[←hn]at this;rw[this]
 obtain⟨bd,WK⟩:∃bd,bd=l.take n:=⟨_,rfl⟩
 have hq:l.take (l.length-4)=bd:=by rw[←hn,WK]
 rw[hq]at C7
 have kE:bd.length≤4294967296:=by rw[WK,List.length_take];omega
 rw[←WK]at bt nt NR PG
 rw[←WK]at heq ⊢
 simp -implicitDefEqProofs only[op,ef,cl,sq,reduceIte,q6,q7,q9,j1,j2,j3,j4,j5,j6,S1,↓PG,heq,↓dD,↓QQ,↓Vj]
 refine ae _ _ _ _ _ _ _ _ (PC (bt.ext gz) nt kE NR) ?_
 rintro u H2⟨v9,c,lR,hu,r2⟩
 cases hu
 have v9:Ext H H2:=gz.trans v9
 have hc:H.length≤c:=Nat.le_trans gz.len lR
 simp -implicitDefEqProofs only[op,ef,cl,sq,reduceIte,q6,q7,q9,j1,j2,j3,j4,j5,j6,S1]
 refine ae _ _ _ _ _ _ _ _ (aa4 r2) ?_
 rintro u H3⟨hu,r3,f3⟩
 cases hu
 have sn:=uA v9 f3 hc
 simp -implicitDefEqProofs only[op,ef,cl,sq,reduceIte,q6,q7,q9,j1,j2,j3,j4,j5,j6,S1]
 refine ae _ _ _ _ _ _ _ _ (aa5 r3) ?_
 rintro u H4⟨hu,r4,f4⟩
 cases hu
 have um:=uA sn f4 hc
 simp -implicitDefEqProofs only[op,ef,cl,sq,reduceIte,q6,q7,q9,j1,j2,j3,j4,j5,j6,S1]
 refine ae _ _ _ _ _ _ _ _ (PA r4) ?_
 rintro u H5⟨hu,r5,f5⟩
 cases hu
 have pE:=uA um f5 hc
 have hH:=stH bd
 generalize (eD 8 (eD 1 (eD 4 (some bd)).2).2)=q8 at *
 generalize (eD 1 (eD 4 (some bd)).2).1=q1 at *
 generalize (eD 4 (some bd)).1=q4 at *
 have bad:∀{H':af},Ext H H'→pR bd=none→Ho l now H (.val (.bJ [.int .i64 0,.bR,.int .i64 2])) H':=fun hx hp=>.inr (.inr (.inl ⟨ht,Iq,by rw[hq];exact hp,rfl,hx⟩))
 by_cases c1:q4=1918987632
 rotate_left
 ·have d1:((q4:Int) != 1918987632)=true:=by simp;omega
  rw[if_neg (fun h=>c1 h.1)]at hH
  simp -implicitDefEqProofs only[op,ef,cl,sq,reduceIte,q6,q7,q9,j1,j2,j3,j4,j5,j6,S1,d1]
  exact bad pE (by simp -implicitDefEqProofs only[pR,hH])
 by_cases c2:q1=1
 rotate_left
 ·have d1:((q4:Int) != 1918987632)=false:=by simp;omega
  have d2:((q1:Int) != 1)=true:=by simp;omega
  rw[if_neg (fun h=>c2 h.2.1)]at hH
  simp -implicitDefEqProofs only[op,ef,cl,sq,reduceIte,q6,q7,q9,j1,j2,j3,j4,j5,j6,S1,d1,d2]
  exact bad pE (by simp -implicitDefEqProofs only[pR,hH])
 have d1:((q4:Int) != 1918987632)=false:=by simp;omega
 have d2:((q1:Int) != 1)=false:=by simp;omega
 by_cases c3:1≤q8.1
 rotate_left
 ·have d3:decide ((q8.1:Int)<1)=true:=by simp;omega
  rw[if_neg (fun h=>c3 h.2.2.1)]at hH
  simp -implicitDefEqProofs only[op,ef,cl,sq,reduceIte,q6,q7,q9,j1,j2,j3,j4,j5,j6,S1,d1,d2,d3]
  exact bad pE (by simp -implicitDefEqProofs only[pR,hH])
 have d3:decide ((q8.1:Int)<1)=false:=by simp;omega
 by_cases c4:q8.1≤9223372036854775807
 rotate_left
 ·have d4:decide ((q8.1:Int)>9223372036854775807)=true:=by simp;omega
  rw[if_neg (fun h=>c4 h.2.2.2)]at hH
  simp -implicitDefEqProofs only[op,ef,cl,sq,reduceIte,q6,q7,q9,j1,j2,j3,j4,j5,j6,S1,d1,d2,d3,d4]
  exact bad pE (by simp -implicitDefEqProofs only[pR,hH])
 have d4:decide ((q8.1:Int)>9223372036854775807)=false:=by simp;omega
 rw[if_pos ⟨c1,c2,c3,c4⟩]at hH
 obtain⟨rr,hH,hq8⟩:=hH
 rw[hq8]at r5
 simp -implicitDefEqProofs only[op,ef,cl,sq,reduceIte,q6,q7,q9,j1,j2,j3,j4,j5,j6,S1,d1,d2,d3,d4]
 refine ae _ _ _ _ _ _ _ _ (CF r5) ?_
 rintro u H6⟨kL,L,mb,hu,dm,Ig,f6,hP⟩
 cases hu
 have sy:=uA pE f6 hc
 have MU:mb≠c:=by have:=r5.lt;omega
 obtain⟨PH,r6,hL6⟩:∃PH,RD H6 c PH∧((∃r,PH=some r∧sE sD (some rr)=some (L,r))∨(PH=none∧sE sD (some rr)=none)):=by
  rcases hP with⟨r,h1,h2⟩|⟨h1,h2⟩
  ·exact⟨some r,h2,.inl ⟨r,rfl,h1⟩⟩
  ·exact⟨none,h2,.inr ⟨rfl,h1⟩⟩
 simp -implicitDefEqProofs only[op,ef,cl,sq,reduceIte,q6,q7,q9,j1,j2,j3,j4,j5,j6,S1]
 refine ae _ _ _ _ _ _ _ _ (vO r6 2147483647 (by decide)) ?_
 rintro u H7⟨hu,r7,f7⟩
 cases hu
 have pX:=uA sy f7 hc
 obtain⟨m,kD,hm,CE,afU,zJ,hpc⟩:=Hk qg PH
 rw[←hm]
 rw[←CE]at r7
 have dm7:=f7.get dm MU
 have lc7:c<H7.length:=r7.lt
 have U8:xZ qg H7 c m kD 0 []:=by
  cases kD with
  | none=>exact .inr ⟨r7,fun l h=>by cases h⟩
  | some l=>exact .inl ⟨l,l,rfl,rfl,r7⟩
 simp -implicitDefEqProofs only[op,ef,cl,sq,reduceIte,q6,q7,q9,j1,j2,j3,j4,j5,j6,S1]
 refine W.eZ 0 [(1,_),(8,_),(11,_),(12,_),(13,_)] (fun (i:Nat) R H'=>At H' (fun H'=>∃kk xs,R 14=.sl kk ((xs.map (pY now L)).map ki)∧mO H7.length H' kk∧xs.length=i∧H'[mb]?=some (.map (bh T.str (A5 L)))∧xZ qg H' c m kD i xs∧bm (fun b=>b=c) H7 H')∧R 15=.int .i64 ((m-i:Nat):Int)∧i≤m) (fun i=>m-i) 0
  (fun R H'=>At H' (fun H'=>∃kk xs,R 14=.sl kk ((xs.map (pY now L)).map ki)∧xZ qg H' c m kD m xs∧bm (fun b=>b=c) H7 H')) ⟨.i ⟨.nil,[],rfl,l4 _ _,rfl,dm7,U8,bm.refl _ _⟩,rfl,Nat.zero_le _⟩ ?_ ?_
 ·rintro i R H8⟨⟨kk,xs,C8,ob,DX,d8,sJ,Ij⟩,Vk,hi⟩
  by_cases aw:i<m
  rotate_left
  ·have lu:i=m:=by omega
   subst lu
   have e:decide (((i-i:Nat):Int)>0)=false:=by simp
   simp -implicitDefEqProofs only[aq,ah,op,ef,cl,sq,reduceIte,q6,q7,q9,j1,j2,j3,j4,j5,j6,S1,C8,Vk,e,cS]
   exact .i ⟨kk,xs,rfl,sJ,Ij⟩
  obtain⟨stw,Vc,pD⟩:=sJ.wf
  have e:decide (((m-i:Nat):Int)>0)=true:=by simp;omega
  simp -implicitDefEqProofs only[aq,ah,op,ef,cl,sq,reduceIte,q6,q7,q9,j1,j2,j3,j4,j5,j6,S1,C8,Vk,e]
  refine ae _ _ _ _ _ _ _ _ (Mw Vc) ?_
  rintro u H8'⟨rfl,er,hu,Mx⟩
  cases hu
  by_cases hw:stw=none
  ·have Hl:¬er=0:=fun h0=>(Mx.1 h0) hw
   have e1:(er==0)=false:=by simpa using Hl
   simp -implicitDefEqProofs only[op,ef,cl,sq,reduceIte,q6,q7,q9,j1,j2,j3,j4,j5,j6,S1,e1,C8,cS]
   refine .i ⟨kk,xs,rfl,.inr ⟨by rw[←hw];exact Vc,pD hw⟩,Ij⟩
  have Hl:er=0:=Mx.2 hw
  subst Hl
  obtain⟨jw,uY,bV⟩:=sJ.step aw
  have yh:c<H8'.length:=uY.lt
  have e1:((0:Int)==0)=true:=rfl
  obtain⟨s1,s0,s2⟩:=Vh jw
  simp -implicitDefEqProofs only[op,ef,cl,sq,reduceIte,q6,q7,q9,j1,j2,j3,j4,j5,j6,S1,e1]
  refine ae _ _ _ _ _ _ _ _ (oF uY 65535 (by decide)) ?_
  rintro u H9⟨hu,r9,f9⟩
  cases hu
  simp -implicitDefEqProofs only[op,ef,cl,sq,reduceIte,q6,q7,q9,j1,j2,j3,j4,j5,j6,S1]
  refine ae _ _ _ _ _ _ _ _ (PA r9) ?_
  rintro u vM⟨hu,r10,f10⟩
  cases hu
  simp -implicitDefEqProofs only[op,ef,cl,sq,reduceIte,q6,q7,q9,j1,j2,j3,j4,j5,j6,S1]
  refine ae _ _ _ _ _ _ _ _ (oF r10 65535 (by decide)) ?_
  rintro u A2⟨hu,r11,f11⟩
  cases hu
  simp -implicitDefEqProofs only[op,ef,cl,sq,reduceIte,q6,q7,q9,j1,j2,j3,j4,j5,j6,S1]
  refine ae _ _ _ _ _ _ _ _ (CD r11 1024 65535 (by decide) (by decide)) ?_
  rintro u yk⟨WL,afW,hu,Ub,f12⟩
  cases hu
  have Ub:RD yk c (K3 jw).2:=Ub
  obtain⟨y,hy⟩:∃y:Kd,y=⟨(WI jw).1,(WJ jw).1,(Vg jw).1,.arg,(K3 jw).1,-1⟩:=⟨_,rfl⟩
  have y1:(gk 65535 jw).1=y.key:=by rw[hy];rfl
  have y2:(eD 8 (gk 65535 jw).2).1=y.id:=by rw[hy];rfl
  have y3:(gk 65535 (eD 8 (gk 65535 jw).2).2).1=y.value:=by rw[hy];rfl
  have y4:(pF 1024 65535 (gk 65535 (eD 8 (gk 65535 jw).2).2).2).1=y.keys:=by rw[hy];rfl
  rw[y1,y2,y3,y4]
  have Vl:=((f9.trans f10 fun b hb=>.inl hb).trans f11 fun b hb=>.inl hb).trans f12 fun b hb=>.inl hb
  obtain⟨cs,uM⟩:∃cs,cs=[T.str y.key,.int .u64 y.id,.str y.value,.sl WL (y.keys.map eS)]:=⟨_,rfl⟩
  obtain⟨yl,K5⟩:∃yl,yl=yk++[B.cells cs]:=⟨_,rfl⟩
  have mF:Ext yk yl:=⟨_,K5⟩
  have d13:yl[yk.length]?=some (.cells cs):=by rw[K5];exact aO rfl
  have K6:bm (fun b=>b=c) H8' yl:=Vl.ext mF
  have Hp:=mO.jv ob K6 (fun t ht=>by omega)
  have WM:=K6.get d8 MU
  have hsy:ki (pY now L y)=[.str y.key,.int .u64 y.id,.str y.value,.sl .arg (y.keys.map eS),.int .i64 (if y.id<A6 L y.key then now else -1)]:=by rw[hy];rfl
  have cJ:=all_map (enc:=ki) (n:=5) (fun _=>rfl) (xs.map (pY now L))
  obtain⟨WN,C9,ha,PI,PJ⟩:=lJ (bytes:=72) ((xs.map (pY now L)).map ki) [ki (pY now L y)] Hp (Nat.le_trans Ij.1 K6.1) (by simp) (iY (by simp -implicitDefEqProofs only[List.length_map,List.length_cons,List.length_nil];omega))
  have CQ:gX yl 72 kk ((xs.map (pY now L)).map ki) [ki (pY now L y)]=some (.sl WN (((xs++[y]).map (pY now L)).map ki),C9):=by
   rw[ha,List.map_append,List.map_append]
   have:([ki (pY now L y)].map fun c=>c.map T.erase)=[ki (pY now L y)]:=by rw[hsy];rfl
   rw[this];rfl
  rw[hsy]at CQ
  have m14:=PJ.cells Hp WM (by simp)
  have PK:bm (fun b=>b=c) H7 C9:=(Ij.trans K6 fun b hb=>.inl hb).trans (xy.jv PJ) fun b ⟨e,he⟩=>.inr (mO.own ob he)
  have r14:RD C9 c (K3 jw).2:=by
   obtain⟨k,rest,e,h1,h2⟩:=(Ub.ext mF).at_
   exact⟨k,rest,e,PJ.cells Hp h1 (by simp),h2⟩
  have PL:=bV C9 (K3 jw).2 y r14 (fun l hl=>⟨by rw[←s1,hl],fun z r hz=>by
   obtain⟨z1,z2,z3,z4,z5,z6⟩:=s2 l z r hl hz
   rw[hy,z1,z2,z3,z4,←z5,←z6]⟩) s0
  have wd:IntKind.i64.wrap (((m-i:Nat):Int)-1)=((m-(i+1):Nat):Int):=by rw[wrap64 (by omega)];omega
  rw[uM]at K5 d13
  simp -implicitDefEqProofs only[op,ef,cl,sq,reduceIte,q6,q7,q9,j1,j2,j3,j4,j5,j6,S1,S2]
  rw[←K5]
  by_cases hs:y.id<A6 L y.key
  ·have ft:(y.id:Int)<(A6 L y.key:Int):=by omega
   have iG:ai (A5 L) y.key=some (.int .u64 (A6 L y.key)):=by
    rcases A7 L y.key with⟨_,h0⟩|h0
    ·omega
    ·exact h0
   rw[if_pos hs]at CQ
   simp -implicitDefEqProofs only[op,ef,cl,sq,reduceIte,q6,q7,q9,j1,j2,j3,j4,j5,j6,S1,C8,Vk,d13,WM,fC,iG,ft,cJ,CQ,wd]
   exact⟨i+1,by omega,.i ⟨WN,xs++[y],rfl,PI,by simp[DX],m14,PL,PK⟩,rfl,aw⟩
  ·rw[if_neg hs]at CQ
   rcases A7 L y.key with⟨iG,h0⟩|iG
   ·have ft:¬((y.id:Int)<0):=by omega
    simp -implicitDefEqProofs only[op,ef,cl,sq,reduceIte,q6,q7,q9,j1,j2,j3,j4,j5,j6,S1,C8,Vk,d13,WM,fC,iG,ft,cJ,CQ,wd]
    exact⟨i+1,by omega,.i ⟨WN,xs++[y],rfl,PI,by simp[DX],m14,PL,PK⟩,rfl,aw⟩
   ·have ft:¬((y.id:Int)<(A6 L y.key:Int)):=by omega
    simp -implicitDefEqProofs only[op,ef,cl,sq,reduceIte,q6,q7,q9,j1,j2,j3,j4,j5,j6,S1,C8,Vk,d13,WM,fC,iG,ft,cJ,CQ,wd]
    exact⟨i+1,by omega,.i ⟨WN,xs++[y],rfl,PI,by simp[DX],m14,PL,PK⟩,rfl,aw⟩
 rintro R H8⟨kk,K,C8,sJ,Ij⟩
 have sB:=uA pX Ij hc
 obtain⟨Vm,r9,WO⟩:∃Vm,RD H8 c Vm∧((∃r,Vm=some r∧sE qg PH=some (K,r))∨(Vm=none∧sE qg PH=none)):=by
  rcases sJ.end_ hpc with⟨r,h1,h2⟩|⟨h1,h2⟩
  ·exact⟨some r,h2,.inl ⟨r,rfl,h1⟩⟩
  ·exact⟨none,h2,.inr ⟨rfl,h1⟩⟩
 simp -implicitDefEqProofs only[aq,ah,op,ef,cl,sq,reduceIte,q6,q7,q9,j1,j2,j3,j4,j5,j6,S1,C8]
 refine ae _ _ _ _ _ _ _ _ (U7 r9) ?_
 rintro u H9⟨rfl,er,hu,Mx⟩
 cases hu
 by_cases hw:Vm=some []
 rotate_left
 ·have Hl:¬er=0:=fun h0=>hw (Mx.1 h0)
  have e1:(er != 0)=true:=by simpa using Hl
  have hp:pR bd=none:=by
   unfold pR
   rw[hH]
   simp only
   rcases hL6 with⟨r,h1,h2⟩|⟨h1,h2⟩
   ·rw[h2]
    simp only
    rw[h1]at WO
    rcases WO with⟨r',h3,h4⟩|⟨h3,h4⟩
    ·rw[h4]
     simp only
     rw[if_neg (fun h=>hw (by rw[h3,h]))]
    ·rw[h4]
   ·rw[h2]
  simp -implicitDefEqProofs only[op,ef,cl,sq,reduceIte,q6,q7,q9,j1,j2,j3,j4,j5,j6,S1,e1]
  exact bad sB hp
 have Hl:er=0:=Mx.2 hw
 subst Hl
 have e1:((0:Int) != 0)=false:=rfl
 have hp:pR bd=some (q8.1,L,K):=by
  unfold pR
  rw[hH]
  simp only
  rcases WO with⟨r',h3,h4⟩|⟨h3,h4⟩
  ·rw[hw]at h3
   cases h3
   rcases hL6 with⟨r,h1,h2⟩|⟨h1,h2⟩
   ·rw[h2]
    simp only
    rw[←h1,h4]
    simp -implicitDefEqProofs only[if_true]
   ·rw[h1]at h4;cases h4
  ·rw[hw]at h3;cases h3
 obtain⟨zb,ir⟩:=C7 Iq _ _ _ hp
 have hKk:∀x∈K,x.kk=.arg∧x.keys.length≤1024:=by
  rcases WO with⟨r',h3,h4⟩|⟨h3,h4⟩
  ·exact K4 (fun l x r h=>PE h) h4
  ·rw[hw]at h3;cases h3
 have wg:IntKind.i64.wrap (q8.1:Int)=(q8.1:Int):=wrap64 (by omega)
 simp -implicitDefEqProofs only[op,ef,cl,sq,reduceIte,q6,q7,q9,j1,j2,j3,j4,j5,j6,S1,e1,C8]
 refine ae _ _ _ _ _ _ _ _ (Pp kk kL (K.map (pY now L)) L (by rw[List.length_map];exact zb) ir (fun x hx=>by
  obtain⟨z,hz,rfl⟩:=List.mem_map.1 hx
  have:=hKk z hz
  exact⟨fun e=>(by have h5:(pY now L z).kk=z.kk:=rfl;rw[h5,this.1]at e;cases e),by show z.keys.length≤_;omega⟩) _) ?_
 rintro u vM (⟨kx,b,F,hu,PM⟩|⟨gI,hu,jL⟩)
 ·cases hu
  have e2:((0:Int) != 0)=false:=rfl
  simp -implicitDefEqProofs only[op,ef,cl,sq,reduceIte,q6,q7,q9,j1,j2,j3,j4,j5,j6,S1,e2,wg]
  refine .inr (.inr (.inr ⟨ht,Iq,q8.1,L,K,by rw[hq];exact hp,.inl ⟨kx,b,F,rfl,?_⟩⟩))
  rw[List.length_map]at PM
  exact⟨PM.at_,(aB sB).more PM.jv (fun c h=>h.elim),fun c iS=>by have:=PM.new c iS;have:=sB.len;omega⟩
 ·cases hu
  have e2:((1:Int) != 0)=true:=rfl
  simp -implicitDefEqProofs only[op,ef,cl,sq,reduceIte,q6,q7,q9,j1,j2,j3,j4,j5,j6,S1,e2]
  exact .inr (.inr (.inr ⟨ht,Iq,q8.1,L,K,by rw[hq];exact hp,.inr ⟨gI,rfl,sB.trans jL⟩⟩))
theorem Hq (k:SK)(l:List Nat)(hk:iD k l)(hb:dG l)(hl:l.length≤4294967296)(now:Int)(C7:js l→∀g L K,pR (l.take (l.length-4))=some (g,L,K)→K.length≤8000000∧L.length≤8000000)(H:af) :
  W env (.call 17 [.sl k (l.map eB),.int .i64 now]) H (Ho l now H):=A9 (Bs.sl H k l) (fun k' e=>by rw[←(zt e).1];exact hk) hb hl now C7
structure qy where
 kind:Int
 id:Nat
 key:ByteArray
 pk:SK
 jd:List (ByteArray×ByteArray)
 kk:SK
 keys:List ByteArray
 now:Int
def eO (o:qy):List T:=[.int .i64 o.kind,.int .u64 o.id,.str o.key,.sl o.pk (o.jd.map eP),.sl o.kk (o.keys.map eS),.int .i64 o.now]
def zu (o:qy):Prop:=iD o.kk o.keys∧o.keys.length≤1048576∧o.jd.length≤1048576∧o.id<18446744073709551616
open Classical in
noncomputable def rW (a:Ab)(n:Nat)(l:List (ByteArray×ByteArray))(ks:List ByteArray)(now:Int):Ab:=if mC n l ks∧bq now then a.put n l ks now else a
open Classical in
noncomputable def rX (a:Ab)(n:Nat)(now:Int):Ab:=if 65536≤n∧bq now then a.oN n now else a
noncomputable def iB (a:Ab)(o:qy):Ab:=if o.kind=1 then rW a o.id o.jd o.keys o.now else if o.kind=2 then rX a o.id o.now else if o.kind=3 then a.zo (o.key,o.id)else a
noncomputable def gQ (a:Ab)(l:List qy):Ab:=l.foldl iB a
def dh (l:List qy):Nat:=(l.map fun o=>o.jd.length).sum
theorem CG (a:Ab)(l:List qy)(o:qy):gQ a (l++[o])=iB (gQ a l) o:=by simp[gQ]
theorem Hr (l:List qy)(o:qy):dh (l++[o])=dh l+o.jd.length:=by simp[dh]
theorem Ht (l:List qy)(i:Nat):dh (l.take i)≤dh l:=by
 have h:dh l=dh (l.take i)+dh (l.drop i):=by unfold dh;rw[←List.sum_append,←List.map_append,List.take_append_drop]
 omega
section
variable {Hs H:af} {b:Bk} {a:Ab} {F:Nat→Prop} {m:Nat}
def PN (Hs H:af)(b:Bk)(a':Ab)(F:Nat→Prop)(m':Nat):Out→af→Prop:=fun o H'=>(∃t,o=.val t)∧∃F',mj Hs H' b a' F' m'∧bm F H H'∧Ik F F' H H'
theorem mj.le (h:mj Hs H b a F m){m':Nat}(hm:m≤m'):mj Hs H b a F m':=⟨h.at_.le hm,h.jv,h.new⟩
theorem abe (n:Nat)(k k':SK)(l:List (ByteArray×ByteArray))(ks:List ByteArray)(now:Int)(h:mj Hs H b a F m)(hm:m+l.length≤8000000)(Qn:ks.length≤8000000)(pq:iD k' ks) :
  W env (.call 23 [.ptr b.s 0,.int .u64 n,.sl k (l.map eP),.sl k' (ks.map eS),.int .i64 now]) H (PN Hs H b (rW a n l ks now) F (m+l.length)):=by
 by_cases hc:mC n l ks∧bq now
 ·have e:rW a n l ks now=a.put n l ks now:=if_pos hc
  rw[e]
  refine W.use (aaJ n k k' l ks now h.at_ hm pq hc.1 hc.2) fun o H' ⟨F',hu,ha,hf,hg⟩=>⟨⟨_,hu⟩,F',h.go ha hf hg,hf,hg⟩
 ·have e:rW a n l ks now=a:=if_neg hc
  rw[e]
  refine W.use (UA n k k' l ks now h.at_ (by omega) Qn hc) fun o H' ⟨hu,hx⟩=>⟨⟨_,hu⟩,F,(h.ext hx).le (by omega),aB hx,Ik.refl _ _ _⟩
theorem abf (n:Nat)(now:Int)(h:mj Hs H b a F m)(hm:m≤8000000):W env (.call 24 [.ptr b.s 0,.int .u64 n,.int .i64 now]) H (PN Hs H b (rX a n now) F m):=by
 by_cases hc:65536≤n∧bq now
 ·have e:rX a n now=a.oN n now:=if_pos hc
  rw[e]
  refine W.use (aaK n now h.at_ hm hc.1 hc.2) fun o H' ⟨D,_,_,hu,ha,hf⟩=>⟨⟨_,hu⟩,F,h.go' ha hf,hf,Ik.refl _ _ _⟩
 ·have e:rX a n now=a:=if_neg hc
  rw[e]
  refine W.use (UM n now hc) fun o H' ⟨hu,hx⟩=>?_
  subst hx
  exact⟨⟨_,hu⟩,F,h,bm.refl _ _,Ik.refl _ _ _⟩
theorem abg (k:ByteArray)(n:Nat)(h:mj Hs H b a F m)(hm:m≤7000000):W env (.call 25 [.ptr b.s 0,.str k,.int .u64 n]) H (PN Hs H b (a.zo (k,n)) F m) :=
 W.use (UL k n h.at_ hm) fun o H' ⟨e,hu,ha,hf⟩=>⟨⟨_,hu⟩,F,h.go' ha hf,hf,Ik.refl _ _ _⟩
end
theorem Hu {l:List (ByteArray×ByteArray)}:∀c∈l.map eP,c.map T.erase=c:=fun c hc=>by
 obtain⟨x,_,rfl⟩:=List.mem_map.1 hc;rfl
theorem Hv {l:List ByteArray}:∀c∈l.map eS,c.map T.erase=c:=fun c hc=>by
 obtain⟨x,_,rfl⟩:=List.mem_map.1 hc;rfl
theorem Hw (k:SK)(ops:List qy)(ho:∀o∈ops,zu o)(hp:dh ops≤2000000)(hl:ops.length≤8000000)(H:af) :
  W env (.call 9 [.sl k (ops.map eO)]) H (fun o H'=>∃b F,o=.val (.ptr b.s 0)∧mj H H' b (gQ Ab.emp ops) F (dh ops)):=by
 refine W.bU rfl rfl rfl ?_
 simp -implicitDefEqProofs only[XQ,op,ef,cl,sq,reduceIte,q6,q7,q9,j1,j2,j3,j4,j5,j6,S1]
 refine ae _ _ _ _ _ _ _ _ (Uu _) ?_
 rintro u H1⟨gz,b,F,hu,hA,hF⟩
 cases hu
 have gz:Ext H H1:=gz
 have My:mj H H1 b Ab.emp F 0:=⟨hA,aB gz,hF⟩
 have e0:dn .ptr (.ptr b.s 0) .bR=some false:=rfl
 simp -implicitDefEqProofs only[op,ef,cl,sq,reduceIte,q6,q7,q9,j1,j2,j3,j4,j5,j6,S1]
 refine W.eZ 0 [(0,_),(3,_)] (fun (i:Nat) R H'=>At H' (fun H'=>∃F,mj H H' b (gQ Ab.emp (ops.take i)) F (dh (ops.take i)))∧R 4=.int .i64 i∧i≤ops.length) (fun i=>ops.length-i) 0
  (fun R H'=>At H' (fun H'=>∃F,mj H H' b (gQ Ab.emp ops) F (dh ops))) ⟨.i ⟨F,My⟩,rfl,Nat.zero_le _⟩ ?_ ?_
 ·rintro i R H2⟨⟨F,pv⟩,g4,hi⟩
  by_cases aw:i<ops.length
  rotate_left
  ·have lu:i=ops.length:=by omega
   subst lu
   rw[List.take_length]at pv
   simp -implicitDefEqProofs only[aq,ah,op,ef,cl,sq,reduceIte,q6,q7,q9,j1,j2,j3,j4,j5,j6,S1,List.length_map,g4,aw,cS]
   exact .i ⟨F,pv⟩
  obtain⟨o,yM⟩:=cw aw
  have oo:=ho o (List.mem_of_getElem? yM)
  have io:=gC (e:=eO) (n:=6) (fun _=>rfl) (by decide) (k:=k) yM
  have mR:=aC (show i<9223372036854775807 by omega)
  have Vn:∀Hx,nC Hx 6 (.dk (eO o))=some (eO o):=fun _=>rfl
  have Ih:=Ht ops (i+1)
  have epl:dh (ops.take (i+1))=dh (ops.take i)+o.jd.length:=by rw[fW yM,Hr]
  have ert:gQ Ab.emp (ops.take (i+1))=iB (gQ Ab.emp (ops.take i)) o:=by rw[fW yM,CG]
  obtain⟨H3,wo⟩:∃H3,H3=H2++[B.cells (eO o)]:=⟨_,rfl⟩
  have sn:Ext H2 H3:=⟨_,wo⟩
  have d3:H3[H2.length]?=some (.cells (eO o)):=by rw[wo];exact aO rfl
  have K7:=pv.ext sn
  have af0:=wo
  simp -implicitDefEqProofs only[eO]at wo d3 Vn io
  have fin:∀{H':af} {F':Nat→Prop} {m':Nat},mj H H' b (iB (gQ Ab.emp (ops.take i)) o) F' m'→m'≤dh (ops.take (i+1))→∃F,mj H H' b (gQ Ab.emp (ops.take (i+1))) F (dh (ops.take (i+1))):=fun hh hm=>⟨_,by rw[ert];exact hh.le hm⟩
  by_cases k1:o.kind=1
  ·have b1:(o.kind==1)=true:=by simp[k1]
   have es:iB (gQ Ab.emp (ops.take i)) o=rW (gQ Ab.emp (ops.take i)) o.id o.jd o.keys o.now:=if_pos k1
   simp -implicitDefEqProofs only[aq,ah,op,ef,cl,sq,reduceIte,q6,q7,q9,j1,j2,j3,j4,j5,j6,S1,List.length_map,g4,aw,e0,aa,io,Vn,S2]
   rw[←wo]
   have Vo:=all_map (enc:=eP) (n:=2) (fun _=>rfl) o.jd
   have Vp:=all_map (enc:=eS) (n:=1) (fun _=>rfl) o.keys
   obtain⟨kp,H4,ha4,um,_,su⟩:=ux (H:=H3) (bytes:=32) (o.jd.map eP) (iY (by simp -implicitDefEqProofs only[List.length_map];have:=oo.2.2.1;omega)) Hu
   obtain⟨kq,H5,ha5,pE,_,hkq⟩:=ux (H:=H4) (bytes:=16) (o.keys.map eS) (iY (by simp -implicitDefEqProofs only[List.length_map];have:=oo.2.1;omega)) Hv
   have pv5:=(K7.ext um).ext pE
   have d4:=um.get d3
   have d5:=pE.get d4
   simp -implicitDefEqProofs only[op,ef,cl,sq,reduceIte,q6,q7,q9,j1,j2,j3,j4,j5,j6,S1,b1,d3,d4,d5,Vo,Vp,ha4,ha5]
   refine ae _ _ _ _ _ _ _ _ (abe o.id kp kq o.jd o.keys o.now pv5 (by omega) (by have:=oo.2.1;omega) (fun h=>absurd h hkq)) ?_
   rintro u H6⟨⟨t,hu⟩,F',Mz,_,_⟩
   cases hu
   rw[←es]at Mz
   simp -implicitDefEqProofs only[op,ef,cl,sq,reduceIte,q6,q7,q9,j1,j2,j3,j4,j5,j6,S1,g4,mR]
   exact⟨i+1,by omega,.i (fin Mz (by omega)),rfl,aw⟩
  have b1:(o.kind==1)=false:=by simp[k1]
  by_cases k2:o.kind=2
  ·have b2:(o.kind==2)=true:=by simp[k2]
   have es:iB (gQ Ab.emp (ops.take i)) o=rX (gQ Ab.emp (ops.take i)) o.id o.now:=by unfold iB;rw[if_neg k1,if_pos k2]
   simp -implicitDefEqProofs only[aq,ah,op,ef,cl,sq,reduceIte,q6,q7,q9,j1,j2,j3,j4,j5,j6,S1,List.length_map,g4,aw,e0,aa,io,Vn,S2]
   rw[←wo]
   simp -implicitDefEqProofs only[op,ef,cl,sq,reduceIte,q6,q7,q9,j1,j2,j3,j4,j5,j6,S1,b1,b2,d3]
   refine ae _ _ _ _ _ _ _ _ (abf o.id o.now K7 (by omega)) ?_
   rintro u H6⟨⟨t,hu⟩,F',Mz,_,_⟩
   cases hu
   rw[←es]at Mz
   simp -implicitDefEqProofs only[op,ef,cl,sq,reduceIte,q6,q7,q9,j1,j2,j3,j4,j5,j6,S1,g4,mR]
   exact⟨i+1,by omega,.i (fin Mz (by omega)),rfl,aw⟩
  have b2:(o.kind==2)=false:=by simp[k2]
  by_cases k3:o.kind=3
  ·have b3:(o.kind==3)=true:=by simp[k3]
   have es:iB (gQ Ab.emp (ops.take i)) o=(gQ Ab.emp (ops.take i)).zo (o.key,o.id):=by unfold iB;rw[if_neg k1,if_neg k2,if_pos k3]
   simp -implicitDefEqProofs only[aq,ah,op,ef,cl,sq,reduceIte,q6,q7,q9,j1,j2,j3,j4,j5,j6,S1,List.length_map,g4,aw,e0,aa,io,Vn,S2]
   rw[←wo]
   simp -implicitDefEqProofs only[op,ef,cl,sq,reduceIte,q6,q7,q9,j1,j2,j3,j4,j5,j6,S1,b1,b2,b3,d3]
   refine ae _ _ _ _ _ _ _ _ (abg o.key o.id K7 (by omega)) ?_
   rintro u H6⟨⟨t,hu⟩,F',Mz,_,_⟩
   cases hu
   rw[←es]at Mz
   simp -implicitDefEqProofs only[op,ef,cl,sq,reduceIte,q6,q7,q9,j1,j2,j3,j4,j5,j6,S1,g4,mR]
   exact⟨i+1,by omega,.i (fin Mz (by omega)),rfl,aw⟩
  have b3:(o.kind==3)=false:=by simp[k3]
  have es:iB (gQ Ab.emp (ops.take i)) o=gQ Ab.emp (ops.take i):=by unfold iB;rw[if_neg k1,if_neg k2,if_neg k3]
  rw[←es]at K7
  simp -implicitDefEqProofs only[aq,ah,op,ef,cl,sq,reduceIte,q6,q7,q9,j1,j2,j3,j4,j5,j6,S1,List.length_map,g4,aw,e0,aa,io,Vn,S2]
  rw[←wo]
  simp -implicitDefEqProofs only[op,ef,cl,sq,reduceIte,q6,q7,q9,j1,j2,j3,j4,j5,j6,S1,b1,b2,b3,d3,g4,mR]
  exact⟨i+1,by omega,.i (fin K7 (by omega)),rfl,aw⟩
 rintro R H2⟨F,pv⟩
 simp -implicitDefEqProofs only[aq,ah,op,ef,cl,sq,reduceIte,q6,q7,q9,j1,j2,j3,j4,j5,j6,S1]
 exact⟨b,F,rfl,pv⟩
theorem vP {f:Nm→Nat}:∀(N M:List Nm),N.Nodup→(∀x∈N,x∈M)→(N.map f).sum≤(M.map f).sum
 | [],M,_,_=>by simp
 | x :: N,M,hn,hs=>by
  have hx:=hs x (by simp)
  obtain⟨s,t,rfl⟩:=List.append_of_mem hx
  have:=vP (f:=f) N (s++t) (List.nodup_cons.1 hn).2 fun y hy=>by
   have bK:y≠x:=fun e=>(List.nodup_cons.1 hn).1 (by rw[←e];exact hy)
   have h1:=hs y (by simp[hy])
   simp -implicitDefEqProofs only[List.mem_append,List.mem_cons]at h1 ⊢
   rcases h1 with h|h|h
   ·exact .inl h
   ·exact absurd h bK
   ·exact .inr h
  simp -implicitDefEqProofs only[List.map_append,List.sum_append,List.map_cons,List.sum_cons]at this ⊢;omega
theorem zw {α:Type}{f g:α→Nat}:∀(l:List α),(∀x∈l,f x≤g x)→(l.map f).sum≤(l.map g).sum
 | [],_=>Nat.le_refl _
 | x :: l,h=>by
  have:=zw l fun y hy=>h y (List.mem_cons_of_mem _ hy)
  have:=h x (by simp)
  simp -implicitDefEqProofs only[List.map_cons,List.sum_cons];omega
theorem nr {α:Type}{f:α→Nat}(p:α→Bool):∀(l:List α),((l.filter p).map f).sum≤(l.map f).sum
 | []=>Nat.le_refl _
 | x :: l=>by
  have:=nr (f:=f) p l
  rw[List.filter_cons]
  split<;>simp -implicitDefEqProofs only[List.map_cons,List.sum_cons]<;>omega
theorem pG {α:Type}{f g:α→Nat}{l:List α}(h:∀x∈l,f x=g x):(l.map f).sum=(l.map g).sum:=congrArg List.sum (List.map_congr_left h)
theorem vQ {α:Type}(f:α→Nat)(c d:Nat):∀l:List α,(l.map fun x=>c*f x+d).sum=c*(l.map f).sum+d*l.length
 | []=>by simp
 | x :: l=>by
  simp -implicitDefEqProofs only[List.map_cons,List.sum_cons,vQ f c d l,List.length_cons,Nat.mul_add,Nat.mul_one];omega
theorem rY {α:Type}(e:α→List Nat)(l:List α):(l.flatMap e).length=(l.map fun x=>(e x).length).sum:=by
 rw[List.length_flatMap]
def wt (a:Ab)(m:Nm):Nat:=(kR (bT a m)).length+(12+m.1.size)
structure gV (a:Ab)(B:Nat):Prop where
 w:uu a
 u:∀m,a.has m=true→m.2<18446744073709551616
 z:∃M:List Nm,M.Nodup∧(∀m,m∈M↔a.has m=true)∧(M.map (wt a)).sum≤B
theorem gV.le {a:Ab}{B B':Nat}(h:gV a B)(hb:B≤B'):gV a B':=by
 obtain⟨h1,h2,M,h3,h4,h5⟩:=h;exact⟨h1,h2,M,h3,h4,by omega⟩
theorem gV.emp:gV Ab.emp 0:=⟨uu.emp,(fun m h=>by cases h),[],List.nodup_nil,fun m=>by simp[Ab.has,Ab.emp],Nat.le_refl _⟩
theorem vR {a a':Ab}{m:Nm}(h1:(iw (a'.v m)).value=(iw (a.v m)).value)(h2:(iw (a'.v m)).keys=(iw (a.v m)).keys):wt a' m=wt a m:=by
 unfold wt bT kR
 simp -implicitDefEqProofs only[h1,h2]
def bo (o:qy):Nat:=(o.jd.map fun p=>p.1.size+p.2.size+2).sum+(o.keys.map fun k=>k.size+1).sum
theorem zx:∀l:List (ByteArray×ByteArray),2*l.length≤(l.map fun p=>p.1.size+p.2.size+2).sum
 | []=>Nat.le_refl _
 | x :: l=>by
  have:=zx l
  simp -implicitDefEqProofs only[List.map_cons,List.sum_cons,List.length_cons];omega
theorem CH {l:List (ByteArray×ByteArray)}{ks:List ByteArray}(hP:l.length≤1024)(hN:ks.length≤1024) :
  (l.map fun p=>32+2*p.1.size+p.2.size+(ks.map fun k=>4+k.size).sum).sum≤1560*((l.map fun p=>p.1.size+p.2.size+2).sum+(ks.map fun k=>k.size+1).sum):=by
 obtain⟨T,hT⟩:∃T,T=(ks.map fun k=>4+k.size).sum:=⟨_,rfl⟩
 obtain⟨A,hA⟩:∃A,A=(l.map fun p:ByteArray×ByteArray=>p.1.size+p.2.size+2).sum:=⟨_,rfl⟩
 obtain⟨C,hC⟩:∃C,C=(ks.map fun k:ByteArray=>k.size+1).sum:=⟨_,rfl⟩
 have h1:(l.map fun p=>32+2*p.1.size+p.2.size+T).sum≤(l.map fun p:ByteArray×ByteArray=>18*(p.1.size+p.2.size+2)+T).sum:=zw l fun p _=>by omega
 have h2:(l.map fun p:ByteArray×ByteArray=>18*(p.1.size+p.2.size+2)+T).sum=18*A+T*l.length:=by rw[hA];exact vQ (fun p:ByteArray×ByteArray=>p.1.size+p.2.size+2) 18 T l
 have h3:T=C+3*ks.length:=by
  rw[hT,hC]
  have:=vQ (fun k:ByteArray=>k.size+1) 1 3 ks
  rw[Nat.one_mul]at this
  rw[←this]
  exact pG fun k _=>by omega
 have h4:2*l.length≤A:=by rw[hA];exact zx l
 have h5:T*l.length≤1024*C+3*(1024*l.length):=by
  rw[h3,Nat.add_mul]
  have a1:C*l.length≤C*1024:=Nat.mul_le_mul_left _ hP
  have a2:3*ks.length*l.length≤3*1024*l.length:=Nat.mul_le_mul_right _ (Nat.mul_le_mul_left _ hN)
  have a3:3*1024*l.length=3*(1024*l.length):=Nat.mul_assoc _ _ _
  omega
 rw[←hT,←hA,←hC]
 omega
theorem gV.put {a:Ab}{B:Nat}(h:gV a B){n:Nat}{l:List (ByteArray×ByteArray)}{ks:List ByteArray}{now:Int}(hn:n<18446744073709551616)(hm:mC n l ks)(ht:bq now):gV (a.put n l ks now) (B+1560*((l.map fun p=>p.1.size+p.2.size+2).sum+(ks.map fun k=>k.size+1).sum)):=by
 obtain⟨hw,hu,M,h3,h4,h5⟩:=h
 have fz:=GN hm
 have hN:ks.length≤1024:=hm.2.1.2.2
 have hP:l.length≤1024:=by
  have:=AP fz fun x hx=>by
   obtain⟨p,hp,rfl⟩:=List.mem_map.1 hx
   exact(AU hm hp).1
  rw[List.length_map]at this;omega
 obtain⟨l',yR⟩:∃l',l'=l.filter fun p=>!a.has (p.1,n):=⟨_,rfl⟩
 refine⟨hw.put hm ht,fun m qJ=>?_,M++l'.map (fun p=>(p.1,n)),?_,fun m=>?_,?_⟩
 ·rw[vE]at qJ
  simp -implicitDefEqProofs only[Bool.or_eq_true,Bool.and_eq_true,decide_eq_true_eq]at qJ
  rcases qJ with h|⟨h,_⟩
  ·exact hu m h
  ·omega
 ·refine List.nodup_append.2 ⟨h3,?_,fun x hx y hy=>?_⟩
  ·refine List.pairwise_map.2 ?_
   have:=(List.pairwise_map.1 fz).filter fun p=>!a.has (p.1,n)
   rw[←yR]at this
   exact this.imp fun h e=>h (Prod.mk.inj e).1
  ·obtain⟨p,hp,rfl⟩:=List.mem_map.1 hy
   rw[yR]at hp
   have:=(List.mem_filter.1 hp).2
   rintro rfl
   rw[(h4 _).1 hx]at this;cases this
 ·rw[vE,List.mem_append,h4]
  simp -implicitDefEqProofs only[Bool.or_eq_true,Bool.and_eq_true,decide_eq_true_eq]
  constructor
  ·rintro (h|h)
   ·exact .inl h
   ·obtain⟨p,hp,rfl⟩:=List.mem_map.1 h
    rw[yR]at hp
    refine .inr ⟨rfl,?_⟩
    rw[dK fz (List.mem_filter.1 hp).1];rfl
  ·rintro (h|⟨h1,h2⟩)
   ·exact .inl h
   ·by_cases hh:a.has m=true
    ·exact .inl hh
    ·right
     obtain⟨v,hv⟩:=Option.isSome_iff_exists.1 h2
     have iW:=lO hv
     refine List.mem_map.2 ⟨(m.1,v),?_,by rw[←h1]⟩
     rw[yR]
     refine List.mem_filter.2 ⟨iW,?_⟩
     have:(m.1,n)=m:=by rw[←h1]
     show(!a.has (m.1,n))=true
     rw[this];simpa using hh
 ·rw[List.map_append,List.sum_append]
  have e1:(M.map (wt (a.put n l ks now))).sum=(M.map (wt a)).sum:=pG fun m qJ=>by
   have:=(h4 m).1 qJ
   obtain⟨d,hd⟩:=Option.isSome_iff_exists.1 this
   have e:(a.put n l ks now).v m=some d:=by rw[GQ,hd];rfl
   exact vR (by rw[e,hd]) (by rw[e,hd])
  have e2:((l'.map fun p=>(p.1,n)).map (wt (a.put n l ks now))).sum≤(l.map fun p=>32+2*p.1.size+p.2.size+(ks.map fun k=>4+k.size).sum).sum:=by
   rw[List.map_map]
   refine Nat.le_trans (zw (g:=fun p=>32+2*p.1.size+p.2.size+(ks.map fun k=>4+k.size).sum) l' fun p hp=>?_) (by rw[yR];exact nr _ _)
   rw[yR]at hp
   obtain⟨lT,nA⟩:=List.mem_filter.1 hp
   have gI:a.v (p.1,n)=none:=by
    have:a.has (p.1,n)=false:=by simpa using nA
    unfold Ab.has at this
    cases hv:a.v (p.1,n)with
    | none=>rfl
    | some d=>rw[hv]at this;cases this
   have e:(a.put n l ks now).v (p.1,n)=some ⟨p.2,ks,if n<a.last p.1 then now else -1⟩:=by
    rw[GQ,gI,if_pos rfl,dK fz lT];rfl
   show wt (a.put n l ks now) (p.1,n)≤_
   unfold wt bT kR
   rw[e]
   simp -implicitDefEqProofs only[iw,Option.getD_some,List.length_append,iz,bl,A1,rY]
   have:(ks.map fun x=>(eT x).length).sum=(ks.map fun k=>4+k.size).sum:=pG fun k _=>iz k
   omega
  have e3:=CH (l:=l) (ks:=ks) hP hN
  omega
theorem gV.same {a a':Ab}{B:Nat}(h:gV a B)(hw:uu a')(hh:∀m,a'.has m=a.has m)(hv:∀m d,a'.v m=some d→∃d',a.v m=some d'∧d'.value=d.value∧d'.keys=d.keys):gV a' B:=by
 obtain⟨_,hu,M,h3,h4,h5⟩:=h
 refine⟨hw,fun m hm=>hu m (by rw[←hh];exact hm),M,h3,fun m=>by rw[h4,hh],?_⟩
 have:(M.map (wt a')).sum=(M.map (wt a)).sum:=pG fun m hm=>by
  have h0:=(h4 m).1 hm
  rw[←hh]at h0
  obtain⟨d,hd⟩:=Option.isSome_iff_exists.1 h0
  obtain⟨d',gM,e1,e2⟩:=hv m d hd
  exact vR (by rw[hd,gM];exact e1.symm) (by rw[hd,gM];exact e2.symm)
 omega
theorem gV.oN {a:Ab}{B:Nat}(h:gV a B){n:Nat}{now:Int}(ht:bq now):gV (a.oN n now) B :=
 h.same (h.w.oN ht) (fun m=>AR) fun m d hd=>by
  obtain⟨y,h1,h2,h3,_⟩:=rO hd
  exact⟨y,h1,h2.symm,h3.symm⟩
theorem gV.zo {a:Ab}{B:Nat}(h:gV a B)(m:Nm):gV (a.zo m) B:=by
 have hw:=h.w.zo m
 unfold Ab.zo at hw ⊢
 cases hv:a.v m with
 | none=>exact h
 | some d =>
  rw[hv]at hw
  simp only at hw ⊢
  split
  ·exact h
  ·rename_i hs
   rw[if_neg hs]at hw
   obtain⟨_,hu,M,h3,h4,h5⟩:=h
   have hc:∀m',(a.cut m).has m'=(a.has m'&&!decide (m'=m)):=fun m'=>by
    unfold Ab.has Ab.cut
    by_cases e:m'=m<;>simp[e]
   refine⟨hw,fun m' qJ=>hu m' (by rw[hc]at qJ;simp -implicitDefEqProofs only[Bool.and_eq_true]at qJ;exact qJ.1),M.filter (fun m'=>!decide (m'=m)),h3.filter _,fun m'=>by rw[List.mem_filter,h4,hc,Bool.and_eq_true],?_⟩
   have e1:((M.filter fun m'=>!decide (m'=m)).map (wt (a.cut m))).sum=((M.filter fun m'=>!decide (m'=m)).map (wt a)).sum:=pG fun m' qJ=>by
    have bK:=(List.mem_filter.1 qJ).2
    have bK:m'≠m:=by simpa using bK
    have e:(a.cut m).v m'=a.v m':=by unfold Ab.cut;simp[bK]
    exact vR (by rw[e]) (by rw[e])
   have:=nr (f:=wt a) (fun m'=>!decide (m'=m)) M
   omega
theorem gV.rW {a:Ab}{B:Nat}(h:gV a B){n:Nat}{l:List (ByteArray×ByteArray)}{ks:List ByteArray}{now:Int}(hn:n<18446744073709551616):gV (rW a n l ks now) (B+1560*((l.map fun p=>p.1.size+p.2.size+2).sum+(ks.map fun k=>k.size+1).sum)):=by
 unfold St.rW
 split
 ·rename_i hc;exact h.put hn hc.1 hc.2
 ·exact h.le (by omega)
theorem gV.rX {a:Ab}{B:Nat}(h:gV a B){n:Nat}{now:Int}:gV (rX a n now) B:=by
 unfold St.rX
 split
 ·rename_i hc;exact h.oN hc.2
 ·exact h
theorem gV.step {a:Ab}{B:Nat}(h:gV a B){o:qy}(ho:zu o):gV (iB a o) (B+1560*bo o):=by
 unfold iB
 split
 ·exact h.rW ho.2.2.2
 ·split
  ·exact h.rX.le (by omega)
  ·split
   ·exact(h.zo _).le (by omega)
   ·exact h.le (by omega)
def Is (l:List qy):Nat:=(l.map bo).sum
theorem gV.run:∀{a:Ab} {B:Nat} (l:List qy),gV a B→(∀o∈l,zu o)→gV (gQ a l) (B+1560*Is l)
 | a,B,[],h,_=>by simpa[gQ,Is]using h
 | a,B,o :: l,h,ho=>by
  have:=gV.run l (h.step (ho o (by simp))) fun x hx=>ho x (List.mem_cons_of_mem _ hx)
  show gV (gQ (iB a o) l) _
  refine this.le ?_
  show _≤B+1560*(bo o+Is l)
  omega
theorem gV.body {a:Ab}{B:Nat}(h:gV a B){N:List Nm}(hN:Names a N){ls:List ByteArray}(hL:cX a ls)(g:Nat):(body g (ls.map (gh a)) (N.map (bT a))).length≤21+B:=by
 obtain⟨hw,hu,M,h3,h4,h5⟩:=h
 rw[oD,rY,rY,List.map_map,List.map_map]
 have hNM:=vP (f:=wt a) N M hN.nd fun x hx=>(h4 x).2 ((hN.2 x).1 hx)
 have yB:(N.map (wt a)).sum=(N.map fun m=>(kR (bT a m)).length).sum+(N.map fun m:Nm=>12+m.1.size).sum:=by
  unfold wt
  clear hNM hN
  induction N with
  | nil=>rfl
  | cons x N ih=>simp -implicitDefEqProofs only[List.map_cons,List.sum_cons,ih];omega
 have gH:((ls.map (gh a)).map fun m:Nm=>12+m.1.size).sum≤(N.map fun m:Nm=>12+m.1.size).sum:=by
  refine vP _ _ (List.pairwise_map.2 (hL.1.imp fun {x y} GP e=>by
   have:x=y:=(Prod.mk.inj e).1
   rw[this,fk]at GP;cases GP)) fun x hx=>?_
  obtain⟨k,hk,rfl⟩:=List.mem_map.1 hx
  obtain⟨n,hn⟩:=Option.isSome_iff_exists.1 ((hL.2 k).1 hk)
  refine(hN.2 _).2 ?_
  have:gh a k=(k,n):=by unfold gh Ab.last;rw[hn];rfl
  rw[this]
  exact hw.L _ _ hn
 rw[List.map_map]at gH
 have e1:(ls.map ((fun x=>(sz x).length) ∘ gh a)).sum=(ls.map ((fun m:Nm=>12+m.1.size) ∘ gh a)).sum:=pG fun k _=>by
  show(eT (gh a k).1++dC 8 (gh a k).2).length=12+(gh a k).1.size
  rw[List.length_append,iz,bl];omega
 have e2:(N.map ((fun x=>(kR x).length) ∘ bT a)).sum=(N.map fun m=>(kR (bT a m)).length).sum:=rfl
 omega
theorem Vq {x:Nm}(r:List Nat)(h1:x.1.size≤65535)(h2:x.2<18446744073709551616):sD (sz x++r)=some (x,r):=by
 unfold sD sz
 rw[List.append_assoc,KH _ h1 (by omega)]
 simp only
 rw[zr _ (show x.2<256^8 from h2)]
theorem Vr {m n:Nat}(r:List Nat)(h:n≤m)(h4:n<4294967296):pC m (dC 4 n++r)=some (n,r):=by
 unfold pC
 rw[zr _ (show n<256^4 from h4)]
 simp only
 rw[if_neg (by omega)]
theorem Vs {ks:List ByteArray}(r:List Nat)(h1:ks.length≤1024)(h2:∀k∈ks,k.size≤65535):Da 1024 65535 (A0 ks++r)=some (ks,r):=by
 unfold Da A0
 rw[List.append_assoc,Vr _ h1 (by omega)]
 simp only
 exact GY (e:=eT) ks r fun k hk r=>KH r (h2 k hk) (by have:=h2 k hk;omega)
def raw (x:Kd):Kd:={ x with kk:=.arg,bg:=-1 }
structure Vt (x:Kd):Prop where
 key:x.key.size≤65535
 id:x.id<18446744073709551616
 val:x.value.size≤65535
 len:x.keys.length≤1024
 keys:∀k∈x.keys,k.size≤65535
theorem Vu {x:Kd}(r:List Nat)(h:Vt x):qg (kR x++r)=some (raw x,r):=by
 unfold qg kR
 rw[List.append_assoc,KH _ h.key (by have:=h.key;omega)]
 simp only
 rw[List.append_assoc,zr _ (show x.id<256^8 from h.id)]
 simp only
 rw[List.append_assoc,KH _ h.val (by have:=h.val;omega)]
 simp only
 rw[Vs _ h.len h.keys]
 rfl
theorem K8 (x:Kd):kR (raw x)=kR x:=rfl
theorem MA {α:Type}{p:List Nat→Option (α×List Nat)}{e:α→List Nat}(xs:List α)(r:List Nat)(hx:∀x∈xs,∀r,p (e x++r)=some (x,r))(hl:xs.length≤2147483647):sE p (some (dC 4 xs.length++(xs.flatMap e++r)))=some (xs,r):=by
 unfold sE
 simp only
 rw[Vr _ hl (by omega)]
 simp only
 exact GY xs r hx
theorem abh {g:Nat}(r:List Nat)(h1:1≤g)(h2:g≤9223372036854775807):pH (dC 4 1918987632++(dC 1 1++(dC 8 g++r)))=some (g,r):=by
 unfold pH
 rw[zr _ (by decide)]
 simp only
 rw[zr _ (by decide)]
 simp only
 rw[zr _ (show g<256^8 by show g<18446744073709551616;omega)]
 simp only
 rw[if_pos ⟨trivial,trivial,h1,h2⟩]
theorem abi {g:Nat}{L:List Nm}{K:List Kd}(h1:1≤g)(h2:g≤9223372036854775807)(hL:∀x∈L,x.1.size≤65535∧x.2<18446744073709551616)(hK:∀x∈K,Vt x)(QO:L.length≤2147483647)(hKl:K.length≤2147483647):pR (body g L K)=some (g,L,K.map raw):=by
 unfold pR body
 rw[abh _ h1 h2]
 simp only
 rw[MA (e:=sz) L _ (fun x hx r=>Vq r (hL x hx).1 (hL x hx).2) QO]
 simp only
 have ef:K.flatMap kR=(K.map raw).flatMap kR++[]:=by
  rw[List.append_nil,List.flatMap_map]
  rfl
 have el:K.length=(K.map raw).length:=(List.length_map _).symm
 rw[ef,el,MA (e:=kR) (K.map raw) [] (fun x hx r=>by
  obtain⟨y,hy,rfl⟩:=List.mem_map.1 hx
  rw[K8,Vu r (hK y hy)]) (by rw[←el];exact hKl)]
 simp -implicitDefEqProofs only[if_true]
theorem K9 {l r:List Nat}{x:Nm}(hb:dG l)(h:sD l=some (x,r)):l=sz x++r∧(x.1.size≤65535∧x.2<18446744073709551616)∧dG r:=by
 unfold sD at h
 cases h1:pT 65535 l with
 | none=>rw[h1]at h;cases h
 | some y =>
  obtain⟨k,r1⟩:=y
  rw[h1]at h
  simp only at h
  obtain⟨e1,e2,_,e3⟩:=vJ hb h1
  cases h2:pN 8 r1 with
  | none=>rw[h2]at h;cases h
  | some z =>
   obtain⟨v,r2⟩:=z
   rw[h2]at h
   simp -implicitDefEqProofs only[Option.some.injEq,Prod.mk.injEq]at h
   obtain⟨rfl,rfl⟩:=h
   obtain⟨f1,f2,f3⟩:=jr e3 h2
   exact⟨by unfold sz;rw[List.append_assoc,←f1];exact e1,⟨e2,f2⟩,f3⟩
theorem Hz {m v:Nat}{l r:List Nat}(hb:dG l)(h:pC m l=some (v,r)):l=dC 4 v++r∧v≤m∧dG r:=by
 obtain⟨h1,h2⟩:=mr h
 obtain⟨f1,f2,f3⟩:=jr hb h1
 exact⟨f1,h2,f3⟩
theorem La {c:Nat}{ks:List ByteArray}{l r:List Nat}(hb:dG l)(h:Da c 65535 l=some (ks,r)):l=A0 ks++r∧(ks.length≤c∧∀k∈ks,k.size≤65535)∧dG r:=by
 unfold Da at h
 cases h1:pC c l with
 | none=>rw[h1]at h;cases h
 | some y =>
  obtain⟨n,r1⟩:=y
  rw[h1]at h
  simp only at h
  obtain⟨e1,e2,e3⟩:=Hz hb h1
  have hl:=vH h
  obtain⟨f1,f2,f3⟩:=zs (e:=eT) (Q:=fun k=>k.size≤65535) e3 (fun l x r hb h=>by
   obtain⟨a1,a2,_,a3⟩:=vJ hb h;exact⟨a1,a2,a3⟩) h
  exact⟨by unfold A0;rw[List.append_assoc,←f1,hl];exact e1,⟨by omega,f2⟩,f3⟩
theorem Lb {l r:List Nat}{x:Kd}(hb:dG l)(h:qg l=some (x,r)):l=kR x++r∧(Vt x∧raw x=x)∧dG r:=by
 unfold qg at h
 cases h1:pT 65535 l with
 | none=>rw[h1]at h;cases h
 | some y =>
  obtain⟨k,r1⟩:=y
  rw[h1]at h
  simp only at h
  obtain⟨e1,e2,_,e3⟩:=vJ hb h1
  cases h2:pN 8 r1 with
  | none=>rw[h2]at h;cases h
  | some z =>
   obtain⟨v,r2⟩:=z
   rw[h2]at h
   simp only at h
   obtain⟨f1,f2,f3⟩:=jr e3 h2
   cases h3:pT 65535 r2 with
   | none=>rw[h3]at h;cases h
   | some w =>
    obtain⟨w,r3⟩:=w
    rw[h3]at h
    simp only at h
    obtain⟨g1,g2,_,g3⟩:=vJ f3 h3
    cases h4:Da 1024 65535 r3 with
    | none=>rw[h4]at h;cases h
    | some q =>
     obtain⟨ks,r4⟩:=q
     rw[h4]at h
     simp -implicitDefEqProofs only[Option.some.injEq,Prod.mk.injEq]at h
     obtain⟨rfl,rfl⟩:=h
     obtain⟨a1,a2,a3⟩:=La g3 h4
     refine⟨?_,⟨⟨e2,f2,g2,a2.1,a2.2⟩,rfl⟩,a3⟩
     unfold kR
     simp -implicitDefEqProofs only[List.append_assoc]
     rw[←a1,←g1,←f1]
     exact e1
theorem Ba {α:Type}{p:List Nat→Option (α×List Nat)}{e:α→List Nat}{Q:α→Prop}{l r:List Nat}{xs:List α}(hb:dG l)(hp:∀l x r,dG l→p l=some (x,r)→l=e x++r∧Q x∧dG r)(h:sE p (some l)=some (xs,r)):l=dC 4 xs.length++(xs.flatMap e++r)∧(∀x∈xs,Q x)∧xs.length≤2147483647∧dG r:=by
 unfold sE at h
 simp only at h
 cases h1:pC 2147483647 l with
 | none=>rw[h1]at h;cases h
 | some y =>
  obtain⟨n,r1⟩:=y
  rw[h1]at h
  simp only at h
  obtain⟨e1,e2,e3⟩:=Hz hb h1
  have hl:=vH h
  obtain⟨f1,f2,f3⟩:=zs e3 hp h
  exact⟨by rw[←f1,hl];exact e1,f2,by omega,f3⟩
theorem HA {g:Nat}{L:List Nm}{K:List Kd}{l:List Nat}(hb:dG l)(h:pR l=some (g,L,K)):l=body g L K∧(1≤g∧g≤9223372036854775807)∧(∀x∈L,x.1.size≤65535∧x.2<18446744073709551616)∧(∀x∈K,Vt x∧raw x=x)∧L.length≤2147483647∧K.length≤2147483647:=by
 unfold pR at h
 cases h1:pH l with
 | none=>rw[h1]at h;cases h
 | some y =>
  obtain⟨g',r3⟩:=y
  rw[h1]at h
  simp only at h
  have hh:l=dC 4 1918987632++(dC 1 1++(dC 8 g'++r3))∧(1≤g'∧g'≤9223372036854775807)∧dG r3:=by
   unfold pH at h1
   cases k1:pN 4 l with
   | none=>rw[k1]at h1;cases h1
   | some a =>
    obtain⟨f,s1⟩:=a
    rw[k1]at h1
    simp only at h1
    obtain⟨e1,_,b1⟩:=jr hb k1
    cases k2:pN 1 s1 with
    | none=>rw[k2]at h1;cases h1
    | some a =>
     obtain⟨k,s2⟩:=a
     rw[k2]at h1
     simp only at h1
     obtain⟨e2,_,b2⟩:=jr b1 k2
     cases k3:pN 8 s2 with
     | none=>rw[k3]at h1;cases h1
     | some a =>
      obtain⟨v,s3⟩:=a
      rw[k3]at h1
      simp only at h1
      obtain⟨e3,_,b3⟩:=jr b2 k3
      split at h1
      ·rename_i hc
       simp -implicitDefEqProofs only[Option.some.injEq,Prod.mk.injEq]at h1
       obtain⟨rfl,rfl⟩:=h1
       rw[hc.1]at e1
       rw[hc.2.1]at e2
       exact⟨by rw[←e3,←e2];exact e1,⟨hc.2.2.1,hc.2.2.2⟩,b3⟩
      ·cases h1
  obtain⟨e1,hg,b3⟩:=hh
  cases h2:sE sD (some r3)with
  | none=>rw[h2]at h;cases h
  | some z =>
   obtain⟨L',r4⟩:=z
   rw[h2]at h
   simp only at h
   obtain⟨f1,f2,f3,f4⟩:=Ba (e:=sz) b3 (fun l x r hb h=>K9 hb h) h2
   cases h3:sE qg (some r4)with
   | none=>rw[h3]at h;cases h
   | some w =>
    obtain⟨K',r5⟩:=w
    rw[h3]at h
    simp only at h
    obtain⟨q1,q2,q3,q4⟩:=Ba (e:=kR) f4 (fun l x r hb h=>Lb hb h) h3
    split at h
    ·rename_i h5
     simp -implicitDefEqProofs only[Option.some.injEq,Prod.mk.injEq]at h
     obtain⟨rfl,rfl,rfl⟩:=h
     subst h5
     rw[List.append_nil]at q1
     exact⟨by unfold body;rw[←q1,←f1];exact e1,hg,f2,q2,f3,q3⟩
    ·cases h
def cQ (now:Int)(a:Ab):Ab:=⟨fun m=>(a.v m).map fun d=>⟨d.value,d.keys,if m.2<a.last m.1 then now else -1⟩,a.l⟩
theorem CI (now:Int)(a:Ab):(cQ now a).last=a.last:=rfl
theorem rZ (now:Int)(a:Ab)(m:Nm):(cQ now a).has m=a.has m:=by
 show((a.v m).map _).isSome=(a.v m).isSome
 cases a.v m<;>rfl
theorem ku {now:Int}{a:Ab}{N:List Nm}(h:Names a N):Names (cQ now a) N:=⟨h.1,fun m=>by rw[rZ];exact h.2 m⟩
theorem je {now:Int}{a:Ab}{ls:List ByteArray}(h:cX a ls):cX (cQ now a) ls:=h
theorem uu.rest {a:Ab}(h:uu a){now:Int}(ht:bq now):uu (cQ now a):=by
 have key:∀m x,(cQ now a).v m=some x→∃d,a.v m=some d∧x=⟨d.value,d.keys,if m.2<a.last m.1 then now else -1⟩:=fun m x e=>by
  obtain⟨d,hd,e⟩:=Option.map_eq_some_iff.1 e
  exact⟨d,hd,e.symm⟩
 refine⟨fun m x e=>?_,fun m x e=>?_,fun m x e=>?_,fun k n e=>?_⟩
 ·obtain⟨d,_,rfl⟩:=key m x e
  rw[CI]
  show(if m.2<a.last m.1 then now else -1)=-1↔_
  by_cases hl:m.2<a.last m.1
  ·rw[if_pos hl]
   constructor
   ·intro h1;unfold bq at ht;omega
   ·intro h1;exact absurd hl h1
  ·rw[if_neg hl];exact⟨fun _=>hl,fun _=>rfl⟩
 ·obtain⟨d,_,rfl⟩:=key m x e
  show(if m.2<a.last m.1 then now else -1)=-1∨bq (if m.2<a.last m.1 then now else -1)
  split
  ·exact .inr ht
  ·exact .inl rfl
 ·obtain⟨d,hd,rfl⟩:=key m x e
  exact h.G m d hd
 ·rw[rZ];exact h.L k n e
theorem gV.rest {a:Ab}{B:Nat}(h:gV a B){now:Int}(ht:bq now):gV (cQ now a) B :=
 h.same (h.w.rest ht) (fun m=>rZ now a m) fun m d hd=>by
  obtain⟨d0,h1,rfl⟩:=Option.map_eq_some_iff.1 hd
  exact⟨d0,h1,rfl,rfl⟩
theorem vS {k:ByteArray}:∀(xs:List Nm) (v:Nat),(∀x∈xs,x.1≠k)→xs.foldl (fun v x=>if x.1=k then x.2 else v) v=v
 | [],_,_=>rfl
 | x :: xs,v,h=>by
  rw[List.foldl_cons,if_neg (h x (by simp))]
  exact vS xs v fun y hy=>h y (List.mem_cons_of_mem _ hy)
theorem Bb {k:ByteArray}{n:Nat}:∀(xs:List Nm) (v:Nat),(xs.map (·.1)).Nodup→(k,n)∈xs→xs.foldl (fun v x=>if x.1=k then x.2 else v) v=n
 | [],_,_,h=>by cases h
 | x :: xs,v,hn,h=>by
  rw[List.foldl_cons]
  obtain⟨h1,h2⟩:=List.nodup_cons.1 hn
  rcases List.mem_cons.1 h with e|h
  ·subst e
   rw[if_pos rfl]
   exact vS xs n fun y hy e=>h1 (List.mem_map.2 ⟨y,hy,e⟩)
  ·exact Bb xs _ h2 h
theorem HB {a:Ab}{ls:List ByteArray}(h:cX a ls)(k:ByteArray):A6 (ls.map (gh a)) k=a.last k:=by
 by_cases hk:(a.l k).isSome=true
 ·refine Bb _ _ ?_ (List.mem_map.2 ⟨k,(h.2 k).2 hk,rfl⟩)
  rw[List.map_map]
  exact List.pairwise_map.2 (h.1.imp fun {x y} GP e=>by
   have:x=y:=e
   rw[this,fk]at GP;cases GP)
 ·have h0:a.last k=0:=by
   unfold Ab.last
   cases hl:a.l k with
   | none=>rfl
   | some n=>rw[hl]at hk;exact absurd rfl hk
  rw[h0]
  refine vS _ _ fun x hx e=>hk ?_
  obtain⟨y,hy,rfl⟩:=List.mem_map.1 hx
  have:y=k:=e
  rw[←this];exact(h.2 y).1 hy
theorem HC {now:Int}{a:Ab}{N:List Nm}{ls:List ByteArray}(hN:Names a N)(hL:cX a ls):((N.map (bT a)).map raw).map (pY now (ls.map (gh a)))=N.map (bT (cQ now a)):=by
 rw[List.map_map,List.map_map]
 refine List.map_congr_left fun m hm=>?_
 obtain⟨d,hd⟩:=Option.isSome_iff_exists.1 ((hN.2 m).1 hm)
 have e:(cQ now a).v m=some ⟨d.value,d.keys,if m.2<a.last m.1 then now else -1⟩:=by unfold cQ;simp -implicitDefEqProofs only[hd,Option.map_some]
 show pY now (ls.map (gh a)) (raw (bT a m))=bT (cQ now a) m
 unfold pY raw bT
 simp -implicitDefEqProofs only[HB hL,e,hd]
 rfl
theorem gV.kdB {a:Ab}{B:Nat}(h:gV a B){N:List Nm}(hN:Names a N):∀x∈N.map (bT a),Vt x:=fun x hx=>by
 obtain⟨m,hm,rfl⟩:=List.mem_map.1 hx
 have hh:=(hN.2 m).1 hm
 obtain⟨d,hd⟩:=Option.isSome_iff_exists.1 hh
 obtain⟨g1,g2,g3,g4⟩:=h.w.G m d hd
 have hk:∀k∈d.keys,k.size≤65535:=fun k hk=>by
  have:=dP.2 g2
  simp -implicitDefEqProofs only[kz,Bool.and_eq_true,List.all_eq_true,decide_eq_true_eq]at this
  exact this.1.1.2 k hk
 have hv:iw (a.v m)=d:=by rw[hd];rfl
 refine⟨hk _ g3,h.u m hh,?_,?_,?_⟩
 ·show(iw (a.v m)).value.size≤_;rw[hv];exact g4
 ·show(iw (a.v m)).keys.length≤_;rw[hv];exact g2.2.2
 ·show ∀k∈(iw (a.v m)).keys,_;rw[hv];exact hk
theorem gV.lnB {a:Ab}{B:Nat}(h:gV a B){ls:List ByteArray}(hL:cX a ls):∀x∈ls.map (gh a),x.1.size≤65535∧x.2<18446744073709551616:=fun x hx=>by
 obtain⟨k,hk,rfl⟩:=List.mem_map.1 hx
 obtain⟨n,hn⟩:=Option.isSome_iff_exists.1 ((hL.2 k).1 hk)
 have e:gh a k=(k,n):=by unfold gh Ab.last;rw[hn];rfl
 have hh:=h.w.L k n hn
 obtain⟨d,hd⟩:=Option.isSome_iff_exists.1 hh
 obtain⟨g1,g2,g3,g4⟩:=h.w.G _ d hd
 rw[e]
 refine⟨?_,h.u _ hh⟩
 have:=dP.2 g2
 simp -implicitDefEqProofs only[kz,Bool.and_eq_true,List.all_eq_true,decide_eq_true_eq]at this
 exact this.1.1.2 k g3
theorem gV.back {a:Ab}{B:Nat}(h:gV a B){N:List Nm}(hN:Names a N){ls:List ByteArray}(hL:cX a ls){g:Nat}(h1:1≤g)(h2:g≤9223372036854775807)(hN2:N.length≤2147483647)(hL2:ls.length≤2147483647) :
  pR (St.body g (ls.map (gh a)) (N.map (bT a)))=some (g,ls.map (gh a),(N.map (bT a)).map raw) :=
 abi h1 h2 (h.lnB hL) (h.kdB hN) (by rw[List.length_map];exact hL2) (by rw[List.length_map];exact hN2)
theorem vT {b:List Nat}:js (whole b)∧(whole b).take ((whole b).length-4)=b:=by
 have hl:(whole b).length-4=b.length:=by unfold whole;rw[List.length_append,bl];omega
 have ht:(whole b).take b.length=b:=by unfold whole;rw[List.take_left' rfl]
 refine⟨⟨by unfold whole;rw[List.length_append,bl];omega,?_⟩,by rw[hl,ht]⟩
 rw[hl,ht]
 unfold whole
 rw[List.drop_left' rfl]
theorem mw {b:List Nat}(h:dG b):dG (whole b):=h.app (fc _ _)
theorem jf {t u:T}{l m:List Nat}{H:af}(ht:Bs H t l)(hu:Bs H u m)(hl:dG l)(hm:dG m):W env (.call 13 [t,u]) H (oL (.bool (decide (l=m))) H):=by
 have h1:=ht.uC
 have h2:=hu.uC
 refine W.bU rfl rfl rfl ?_
 by_cases e:l=m
 ·subst e
  simp -implicitDefEqProofs only[JX,op,ef,cl,sq,reduceIte,q6,q7,q9,j1,j2,j3,j4,j5,j6,S1,↓h1,↓h2]
 ·have e':¬vG l=vG m:=fun h=>e ((A8 hl hm).1 h)
  simp -implicitDefEqProofs only[JX,op,ef,cl,sq,reduceIte,q6,q7,q9,j1,j2,j3,j4,j5,j6,S1,↓h1,↓h2,e',e]
theorem PO (k k':SK)(l m:List Nat)(hl:dG l)(hm:dG m)(H:af):W env (.call 13 [.sl k (l.map eB),.sl k' (m.map eB)]) H (oL (.bool (decide (l=m))) H):=jf (Bs.sl H k l) (Bs.sl H k' m) hl hm
theorem Ld (l:List Nat)(hl:l.length≤4294967296)(H:af):∃c H',jA (H++[B.cells []]) 1 1 (.ax H.length 0 0 1) (l.map eB)=some (.ax c 0 l.length 1,H')∧H.length≤c∧H'[c]?=some (.cells (aE eB l))∧Ext H H':=by
 by_cases h0:l=[]
 ·subst h0
  exact⟨H.length,_,rfl,Nat.le_refl _,aO rfl,Ext.rfl'.app _⟩
 obtain⟨t',H',ha,hm,dD⟩:=l6 (enc:=eB) (n:=1) (n0:=H.length) (fun _=>rfl) (H:=H++[B.cells []]) (t:=.ax H.length 0 0 1) (l:=[]) (bytes:=1) l (.inr ⟨H.length,rfl,aO rfl,Nat.le_refl _⟩) (by simp) h0 (iY (by simp -implicitDefEqProofs only[List.length_nil];omega))
 rw[List.nil_append]at hm
 rcases hm with⟨h1,_⟩|⟨c,rfl,hc,h0⟩
 ·exact absurd h1 ‹_›
 ·exact⟨c,H',ha,h0,hc,dD.ext H (Nat.le_refl _) (Ext.rfl'.app _)⟩
theorem HD {t:T}{l:List Nat}{H:af}(ht:Bs H t l)(hl:l.length≤4294967296):W env (.call 15 [t]) H (fun o H'=>Ext H H'∧∃c,H.length≤c∧o=.val (.ax c 0 l.length 1)∧H'[c]?=some (.cells (aE eB l))):=by
 have xW:=(ht.ext (Ext.rfl'.app [B.cells []])).QN
 obtain⟨c,H',ha,hc,hd,hx⟩:=Ld l hl H
 refine W.bU rfl rfl rfl ?_
 have sm:uF (.ax H.length 0 0 1)=.ax H.length 0 0 1:=rfl
 have aF:(1≠0)=True:=by decide
 simp -implicitDefEqProofs only[NV,op,ef,cl,sq,reduceIte,q6,q7,q9,j1,j2,j3,j4,j5,j6,S1]
 simp -implicitDefEqProofs only[List.flatten_nil,aF,if_true,op,ef,cl,sq,reduceIte,q6,q7,q9,j1,j2,j3,j4,j5,j6,S1,xW]
 rw[sm,ha]
 simp -implicitDefEqProofs only[op,ef,cl,sq,reduceIte,q6,q7,q9,j1,j2,j3,j4,j5,j6,S1]
 exact⟨hx,c,hc,rfl,hd⟩
theorem HE {t:T}{l:List Nat}{H:af}(ht:Bs H t l)(hl:l.length≤4294967296):W env (.call 15 [t]) H (fun o H'=>Ext H H'∧o=.val (.sl .arg (l.map eB))) :=
 W.uG (enc:=eB) (n:=1) (l:=l) (fun _=>rfl) (W.use (HD ht hl) fun o H' ⟨hx,c,hc,ho,hd⟩=>⟨c,ho,hd,hx.set hc _,rfl⟩)
theorem Bc (k:SK)(l:List Nat)(hl:l.length≤4294967296)(H:af):W env (.call 15 [.sl k (l.map eB)]) H (fun o H'=>Ext H H'∧o=.val (.sl .arg (l.map eB))):=HE (Bs.sl H k l) hl
theorem Vv {n:Nat}(h:n<256):IntKind.u32.wrap ((n:Int)*2^(min (24:Int).toNat IntKind.u32.bits))=((16777216*n:Nat):Int):=by
 have e:(min (24:Int).toNat IntKind.u32.bits)=24:=rfl
 rw[e,show((n:Int)*2^24)=((16777216*n:Nat):Int) by omega,wrap32 (by omega)]
theorem Vw {n:Nat}(h:n<256):IntKind.u32.wrap ((n:Int)*2^(min (16:Int).toNat IntKind.u32.bits))=((65536*n:Nat):Int):=by
 have e:(min (16:Int).toNat IntKind.u32.bits)=16:=rfl
 rw[e,show((n:Int)*2^16)=((65536*n:Nat):Int) by omega,wrap32 (by omega)]
theorem abj {n:Nat}(h:n<256):IntKind.u32.wrap ((n:Int)*2^(min (8:Int).toNat IntKind.u32.bits))=((256*n:Nat):Int):=by
 have e:(min (8:Int).toNat IntKind.u32.bits)=8:=rfl
 rw[e,show((n:Int)*2^8)=((256*n:Nat):Int) by omega,wrap32 (by omega)]
theorem PQ {a b:Nat}(ha:a<4294967296)(hb:b<4294967296):IntKind.u32.wrap ((BitVec.ofInt IntKind.u32.bits (a:Int) ||| BitVec.ofInt IntKind.u32.bits (b:Int)).toNat:Nat)=((a ||| b:Nat):Int):=by
 have e:(BitVec.ofInt IntKind.u32.bits (a:Int) ||| BitVec.ofInt IntKind.u32.bits (b:Int)).toNat=a ||| b:=UP 32 a b ha hb
 rw[e,wrap32 (Nat.or_lt_two_pow (n:=32) ha hb)]
theorem orA {i a b:Nat}(h:b<2^i):2^i*a ||| b=2^i*a+b:=(Nat.two_pow_add_eq_or_of_lt h a).symm
theorem abl {x y:Nat}(hy:y<256):16777216*x ||| 65536*y=16777216*x+65536*y:=orA (i:=24) (a:=x) (b:=65536*y) (by omega)
theorem abm {x y z:Nat}(hz:z<256):(16777216*x+65536*y) ||| 256*z=16777216*x+65536*y+256*z:=by
 have:=orA (i:=16) (a:=256*x+y) (b:=256*z) (by omega)
 rwa[show 2^16*(256*x+y)=16777216*x+65536*y by omega]at this
theorem abn {x y z w:Nat}(hw:w<256):(16777216*x+65536*y+256*z) ||| w=16777216*x+65536*y+256*z+w:=by
 have:=orA (i:=8) (a:=65536*x+256*y+z) (b:=w) (by omega)
 rwa[show 2^8*(65536*x+256*y+z)=16777216*x+65536*y+256*z by omega]at this
theorem Vx {x y:Nat}(hx:x<256)(hy:y<256):IntKind.u32.wrap ((BitVec.ofInt IntKind.u32.bits ((16777216*x:Nat):Int) ||| BitVec.ofInt IntKind.u32.bits ((65536*y:Nat):Int)).toNat:Nat)=((16777216*x+65536*y:Nat):Int):=by
 rw[PQ (by omega) (by omega),abl hy]
theorem Vy {x y z:Nat}(hx:x<256)(hy:y<256)(hz:z<256):IntKind.u32.wrap ((BitVec.ofInt IntKind.u32.bits ((16777216*x+65536*y:Nat):Int) ||| BitVec.ofInt IntKind.u32.bits ((256*z:Nat):Int)).toNat:Nat)=((16777216*x+65536*y+256*z:Nat):Int):=by
 rw[PQ (by omega) (by omega),abm hz]
theorem Vz {x y z w:Nat}(hx:x<256)(hy:y<256)(hz:z<256)(hw:w<256):IntKind.u32.wrap ((BitVec.ofInt IntKind.u32.bits ((16777216*x+65536*y+256*z:Nat):Int) ||| BitVec.ofInt IntKind.u32.bits (w:Int)).toNat:Nat)=((16777216*x+65536*y+256*z+w:Nat):Int):=by
 rw[PQ (by omega) (by omega),abn hw]
theorem VA {l:List Nat}{n:Nat}(h:l.length=n+4):∃x y z w,l[n]?=some x∧l[n+1]?=some y∧l[n+2]?=some z∧l[n+3]?=some w∧l.drop n=[x,y,z,w]:=by
 obtain⟨x,hx⟩:=cw (l:=l) (i:=n) (by omega)
 obtain⟨y,hy⟩:=cw (l:=l) (i:=n+1) (by omega)
 obtain⟨z,hz⟩:=cw (l:=l) (i:=n+2) (by omega)
 obtain⟨w,hw⟩:=cw (l:=l) (i:=n+3) (by omega)
 refine⟨x,y,z,w,hx,hy,hz,hw,?_⟩
 rw[drop_cons hx,drop_cons hy,drop_cons hz,drop_cons hw,List.drop_eq_nil_of_le (by omega)]
theorem abo (x y z w:Nat):oA 0 [x,y,z,w]=16777216*x+65536*y+256*z+w:=by simp -implicitDefEqProofs only[oA,List.foldl];omega
theorem CJ (k:SK)(l:List Nat)(hb:dG l){n:Nat}(hn:l.length=n+4)(hl:l.length≤4294967296)(H:af):W env (.call 27 [.sl k (l.map eB)]) H (oL (.int .u32 (oA 0 (l.drop n):Nat)) H):=by
 obtain⟨x,y,z,w,hx,hy,hz,hw,hd⟩:=VA hn
 have bx:=hb x (List.mem_of_getElem? hx)
 have bY:=hb y (List.mem_of_getElem? hy)
 have bz:=hb z (List.mem_of_getElem? hz)
 have bw:=hb w (List.mem_of_getElem? hw)
 rw[hd,abo]
 have w4:IntKind.i64.wrap ((l.length:Int)-4)=((n:Nat):Int):=by rw[wrap64 (by omega)];omega
 have w3:IntKind.i64.wrap ((l.length:Int)-3)=((n+1:Nat):Int):=by rw[wrap64 (by omega)];omega
 have w2:IntKind.i64.wrap ((l.length:Int)-2)=((n+2:Nat):Int):=by rw[wrap64 (by omega)];omega
 have w1:IntKind.i64.wrap ((l.length:Int)-1)=((n+3:Nat):Int):=by rw[wrap64 (by omega)];omega
 have e8:∀{n x:Nat},l[n]?=some x→dw 1 n (.sl k (l.map eB))=some (.dk [T.int .u8 (x:Nat)]):=fun h=>gC (e:=eB) (n:=1) (fun _=>rfl) (by decide) (k:=k) h
 have i0:=e8 hx
 have i1:=e8 hy
 have i2:=e8 hz
 have i3:=e8 hw
 have v0:=wrap32 (n:=x) (by omega)
 have v1:=wrap32 (n:=y) (by omega)
 have v2:=wrap32 (n:=z) (by omega)
 have v3:=wrap32 (n:=w) (by omega)
 have s0:=Vv bx
 have s1:=Vw bY
 have s2:=abj bz
 have o0:=Vx bx bY
 have o1:=Vy bx bY bz
 have o2:=Vz bx bY bz bw
 refine W.bU rfl rfl rfl ?_
 simp -implicitDefEqProofs only[N0,op,ef,cl,sq,reduceIte,q6,q7,q9,j1,j2,j3,j4,j5,j6,S1,List.length_map,w4,w3,w2,w1,aa,i0,i1,i2,i3,eY,v0,v1,v2,v3,s0,s1,s2,o0,o1,o2]
theorem Be {α:Type}(e:α→List Nat)(he:∀x,1≤(e x).length)(l:List α):l.length≤(l.flatMap e).length:=by
 induction l with
 | nil=>simp
 | cons x l ih =>
  have:=he x
  simp -implicitDefEqProofs only[List.length_cons,List.flatMap_cons,List.length_append];omega
theorem x7 {l:List Nat}(hb:dG l){g:Nat}{L:List Nm}{K:List Kd}(h:pR l=some (g,L,K)):K.length≤l.length∧L.length≤l.length:=by
 have e:=(HA hb h).1
 have h1:=oD g L K
 have h2:=Be sz (fun x=>by unfold sz;rw[List.length_append,bl];omega) L
 have h3:=Be kR (fun x=>by unfold kR;simp -implicitDefEqProofs only[List.length_append,bl];omega) K
 rw[e];omega
theorem pZ {a:Ab}{B:Nat}(hz:gV a B){N:List Nm}(hN:Names a N){ls:List ByteArray}(hL:cX a ls){g:Nat}(h1:1≤g)(h2:g≤9223372036854775807){now:Int}(ht:bq now)(hNl:N.length≤8000000)(QO:ls.length≤8000000)
  (a9:(body g (ls.map (gh a)) (N.map (bT a))).length≤2147483647) {t:T} {H:af} (Vi:Bs H t (whole (body g (ls.map (gh a)) (N.map (bT a))))) (hk:lP t (whole (body g (ls.map (gh a)) (N.map (bT a))))) :
  W env (.call 17 [t,.int .i64 now]) H (fun o H'=>∃b F,o=.val (.bJ [.int .i64 g,.ptr b.s 0,.int .i64 0])∧mj H H' b (cQ now a) F N.length):=by
 have QB:=hz.back hN hL h1 h2 (by omega) (by omega)
 have dD:=HC (now:=now) hN hL
 have KD:=(hz.w.rest ht).load (ku (now:=now) hN) (je (now:=now) hL)
 have Iq:=Cv (ku (now:=now) hN) (je (now:=now) hL)
 have elm:ls.map (gh (cQ now a))=ls.map (gh a):=rfl
 rw[elm]at KD Iq
 have ym:=jK g (ls.map (gh a)) (N.map (bT a))
 have HR:(N.map (bT a)).length=N.length:=List.length_map _
 have qR:(ls.map (gh a)).length=ls.length:=List.length_map _
 obtain⟨Ck,Gn⟩:=vT (b:=body g (ls.map (gh a)) (N.map (bT a)))
 have Cf:(whole (body g (ls.map (gh a)) (N.map (bT a)))).length=(body g (ls.map (gh a)) (N.map (bT a))).length+4:=by unfold whole;rw[List.length_append,bl]
 refine W.use (A9 Vi hk (mw ym) (by omega) now (fun _ g' L' K' h=>?_)) fun o H' hq=>?_
 ·rw[Gn,QB]at h
  simp -implicitDefEqProofs only[Option.some.injEq,Prod.mk.injEq]at h
  obtain⟨_,rfl,rfl⟩:=h
  rw[List.length_map];omega
 ·rcases hq with⟨h,_⟩|⟨_,h,_⟩|⟨_,_,h,_⟩|⟨_,_,g',L',K',h,hq⟩
  ·exact absurd ht h
  ·exact absurd Ck h
  ·rw[Gn,QB]at h;cases h
  ·rw[Gn,QB]at h
   simp -implicitDefEqProofs only[Option.some.injEq,Prod.mk.injEq]at h
   obtain⟨rfl,rfl,rfl⟩:=h
   rw[dD,Iq]at hq
   rcases hq with⟨_,b,F,ho,pv⟩|⟨h,_⟩
   ·rw[List.length_map,List.length_map]at pv
    exact⟨b,F,ho,pv⟩
   ·exact absurd KD h
theorem zy {a:Ab}{B:Nat}(hz:gV a B){N:List Nm}(hN:Names a N){ls:List ByteArray}(hL:cX a ls){g:Nat}(h1:1≤g)(h2:g≤9223372036854775807){now:Int}(ht:bq now)(hNl:N.length≤8000000)(QO:ls.length≤8000000)
  (a9:(body g (ls.map (gh a)) (N.map (bT a))).length≤2147483647) (k:SK) (hk:k≠.nil) (H:af) :
  W env (.call 17 [.sl k ((whole (body g (ls.map (gh a)) (N.map (bT a)))).map eB),.int .i64 now]) H (fun o H'=>∃b F,o=.val (.bJ [.int .i64 g,.ptr b.s 0,.int .i64 0])∧mj H H' b (cQ now a) F N.length) :=
 pZ hz hN hL h1 h2 ht hNl QO a9 (Bs.sl H k _) fun k' e h=>absurd ((zt e).1.trans h) hk
def kA:ByteArray:=⟨#[97]⟩
def kB:ByteArray:=⟨#[98]⟩
def w1:ByteArray:=⟨#[49]⟩
def w2:ByteArray:=⟨#[50]⟩
def w3:ByteArray:=⟨#[51]⟩
def PS:List qy:=[⟨1,65536,⟨#[]⟩,.arg,[(kA,w1),(kB,w2)],.arg,[kA,kB],0⟩,⟨2,65536,⟨#[]⟩,.arg,[],.arg,[],0⟩]
def VB:List qy:=[⟨1,131072,⟨#[]⟩,.arg,[(kA,w3)],.arg,[kA],0⟩,⟨2,131072,⟨#[]⟩,.arg,[],.arg,[],0⟩]
def MB:List qy:=PS++VB
theorem abq:strLt kA kB=true:=by decide +kernel
theorem sb:kA≠kB:=by decide
theorem abr:mC 65536 [(kA,w1),(kB,w2)] [kA,kB]:=by
 refine⟨by decide,dP.1 (by decide +kernel),by decide,fun i hi p hp=>?_⟩
 match i,hi with
 | 0,_=>cases hp;exact⟨fun h=>absurd h (by decide),by simp,by decide⟩
 | 1,_=>cases hp;exact⟨fun _ q hq=>by cases hq;exact abq,by simp,by decide⟩
theorem abt:mC 131072 [(kA,w3)] [kA]:=by
 refine⟨by decide,dP.1 (by decide +kernel),by decide,fun i hi p hp=>?_⟩
 match i,hi with
 | 0,_=>cases hp;exact⟨fun h=>absurd h (by decide),by simp,by decide⟩
def aL:Ab:=⟨fun m=>if m.1=kA then(if m.2=65536 then some ⟨w1,[kA,kB],0⟩else if m.2=131072 then some ⟨w3,[kA],-1⟩else none)else if m.1=kB∧m.2=65536 then some ⟨w2,[kA,kB],-1⟩else none,
 fun k=>if k=kA then some 131072 else if k=kB then some 65536 else none⟩
def Iu:Ab:=⟨fun m=>if m.2=65536 then(if m.1=kA then some ⟨w1,[kA,kB],-1⟩else if m.1=kB then some ⟨w2,[kA,kB],-1⟩else none)else none,fun _=>none⟩
def MC:Ab:=⟨Iu.v,fun k=>if k=kA∨k=kB then some 65536 else none⟩
def VC:Ab:=⟨fun m=>if m.1=kA∧m.2=131072 then some ⟨w3,[kA],-1⟩else Iu.v m,MC.l⟩
theorem al1:Ab.emp.put 65536 [(kA,w1),(kB,w2)] [kA,kB] 0=Iu:=by
 refine gD (fun m=>?_) fun k=>rfl
 simp -implicitDefEqProofs only[Ab.put,Ab.emp,Ab.last,Iu,ai,List.find?]
 by_cases h1:m.2=65536
 ·by_cases h2:m.1=kA
  ·simp[h1,h2]
  ·by_cases h3:m.1=kB
   ·simp[h1,h2,h3,sb.symm]
   ·simp[h1,h2,h3]
 ·simp[h1]
theorem al2:Iu.oN 65536 0=MC:=by
 refine gD (fun m=>?_) fun k=>?_
 ·simp -implicitDefEqProofs only[Ab.oN,MC,Iu,Ab.has,Ab.last]
  by_cases h1:m.2=65536
  ·simp[h1]
  ·simp[h1]
 ·simp -implicitDefEqProofs only[Ab.oN,MC,Iu,Ab.has,Ab.last]
  by_cases h2:k=kA
  ·simp[h2]
  ·by_cases h3:k=kB
   ·simp[h3,sb.symm]
   ·simp[h2,h3]
theorem al3:MC.put 131072 [(kA,w3)] [kA] 0=VC:=by
 refine gD (fun m=>?_) fun k=>rfl
 simp -implicitDefEqProofs only[Ab.put,Ab.last,VC,MC,Iu,ai,List.find?]
 by_cases h1:m.2=65536
 ·by_cases h2:m.1=kA
  ·simp[h1,h2]
  ·by_cases h3:m.1=kB
   ·simp[h1,h3,sb.symm]
   ·simp[h1,h2,h3]
 ·by_cases h4:m.2=131072
  ·by_cases h2:m.1=kA
   ·simp[h4,h2]
   ·simp[h4,h2]
  ·simp[h1,h4]
theorem al4:VC.oN 131072 0=aL:=by
 refine gD (fun m=>?_) fun k=>?_
 ·simp -implicitDefEqProofs only[Ab.oN,aL,VC,MC,Iu,Ab.has,Ab.last]
  by_cases h2:m.1=kA
  ·by_cases h1:m.2=65536
   ·simp[h1,h2]
   ·by_cases h4:m.2=131072
    ·simp[h4,h2]
    ·simp[h1,h4,h2]
  ·by_cases h3:m.1=kB
   ·by_cases h1:m.2=65536
    ·simp[h1,h3,sb.symm]
    ·simp[h1,h3,sb.symm]
   ·simp[h2,h3]
 ·simp -implicitDefEqProofs only[Ab.oN,aL,VC,MC,Iu,Ab.has,Ab.last]
  by_cases h2:k=kA
  ·simp[h2]
  ·by_cases h3:k=kB
   ·simp[h3,sb.symm]
   ·simp[h2,h3]
theorem HF:gQ Ab.emp MB=aL:=by
 have t0:bq 0:=⟨by decide,by decide⟩
 have p1:∀a,rW a 65536 [(kA,w1),(kB,w2)] [kA,kB] 0=a.put 65536 [(kA,w1),(kB,w2)] [kA,kB] 0:=fun a=>if_pos ⟨abr,t0⟩
 have p2:∀a,rW a 131072 [(kA,w3)] [kA] 0=a.put 131072 [(kA,w3)] [kA] 0:=fun a=>if_pos ⟨abt,t0⟩
 have c1:∀a,rX a 65536 0=a.oN 65536 0:=fun a=>if_pos ⟨by decide,t0⟩
 have c2:∀a,rX a 131072 0=a.oN 131072 0:=fun a=>if_pos ⟨by decide,t0⟩
 unfold gQ MB PS VB
 simp -implicitDefEqProofs only[List.cons_append,List.nil_append,List.foldl_cons,List.foldl_nil,iB,if_true,show((2:Int)=1)=False by decide,if_false,p1,p2,c1,c2,al1,al2,al3,al4]
def aN:List Nm:=[(kA,65536),(kA,131072),(kB,65536)]
theorem oG:Names aL aN:=by
 refine⟨by decide +kernel,fun m=>?_⟩
 obtain⟨k,n⟩:=m
 simp -implicitDefEqProofs only[aN,aL,Ab.has,List.mem_cons,List.not_mem_nil,or_false,Prod.mk.injEq]
 by_cases h2:k=kA
 ·by_cases h1:n=65536
  ·simp[h1,h2]
  ·by_cases h4:n=131072
   ·simp[h4,h2]
   ·simp[h1,h4,h2,sb]
 ·by_cases h3:k=kB
  ·by_cases h1:n=65536
   ·simp[h1,h3,sb.symm]
   ·simp[h1,h3,sb.symm]
  ·simp[h2,h3]
theorem my:cX aL [kA,kB]:=by
 refine⟨by decide +kernel,fun k=>?_⟩
 simp -implicitDefEqProofs only[aL,List.mem_cons,List.not_mem_nil,or_false]
 by_cases h2:k=kA
 ·simp[h2]
 ·by_cases h3:k=kB
  ·simp[h3,sb.symm]
  ·simp[h2,h3]
theorem HG (k k':SK)(l:List ByteArray)(hl:l.length<9223372036854775807)(H:af):W env (.call 63 [.sl k (l.map eS),.sl k' (l.map eS)]) H (oL (.bool true) H):=by
 refine W.bU rfl rfl rfl ?_
 simp -implicitDefEqProofs only[Oq,op,ef,cl,sq,reduceIte,q6,q7,q9,j1,j2,j3,j4,j5,j6,S1,List.length_map]
 refine W.Ax [(0,_),(1,_)] (fun (i:Nat) R H'=>H'=H∧R 5=.int .i64 i∧i≤l.length) (fun i=>l.length-i) 0 ⟨rfl,rfl,Nat.zero_le _⟩ ?_
 rintro i R H1⟨rfl,g5,hi⟩
 by_cases aw:i<l.length
 ·obtain⟨x,hx⟩:=cw aw
  have i0:dw 1 i (.sl k (l.map eS))=some (.dk [.str x]):=gC (e:=eS) (n:=1) (fun _=>rfl) (by decide) (k:=k) hx
  have i1:dw 1 i (.sl k' (l.map eS))=some (.dk [.str x]):=gC (e:=eS) (n:=1) (fun _=>rfl) (by decide) (k:=k') hx
  have mR:=aC (show i<9223372036854775807 by omega)
  simp -implicitDefEqProofs only[aq,ah,op,ef,cl,sq,reduceIte,q6,q7,q9,j1,j2,j3,j4,j5,j6,S1,List.length_map,g5,aw,aa,i0,i1,eY,mR]
  exact⟨i+1,by omega,rfl,aw⟩
 ·simp -implicitDefEqProofs only[aq,ah,op,ef,cl,sq,reduceIte,q6,q7,q9,j1,j2,j3,j4,j5,j6,S1,List.length_map,g5,aw]
def MD (st:Bool)(x y:Kd):Prop:=x.key=y.key∧x.id=y.id∧x.value=y.value∧x.keys=y.keys∧(st=true→x.bg=y.bg)
theorem PT (k k':SK)(l m:List Kd)(st:Bool)(hlm:l.length=m.length)(hl:l.length<9223372036854775807)(hs:∀(i:Nat) (x y:Kd),l[i]?=some x→m[i]?=some y→MD st x y)(hk:∀x∈l,x.keys.length<9223372036854775807)(H:af) :
  W env (.call 19 [.sl k (l.map ki),.sl k' (m.map ki),.bool st]) H (fun o H'=>o=.val (.bool true)∧Ext H H'):=by
 refine W.bU rfl rfl rfl ?_
 simp -implicitDefEqProofs only[NX,op,ef,cl,sq,reduceIte,q6,q7,q9,j1,j2,j3,j4,j5,j6,S1,List.length_map,hlm]
 refine W.Ax [(0,_),(1,_),(2,_)] (fun (i:Nat) R H'=>At H' (fun H'=>Ext H H')∧R 7=.int .i64 i∧i≤l.length) (fun i=>l.length-i) 0 ⟨.i Ext.rfl',rfl,Nat.zero_le _⟩ ?_
 rintro i R H1⟨gz,g7,hi⟩
 have gz:Ext H H1:=gz
 by_cases aw:i<l.length
 ·obtain⟨x,hx⟩:=cw aw
  obtain⟨y,hy⟩:=cw (l:=m) (i:=i) (by omega)
  have hkx:=hk x (List.mem_of_getElem? hx)
  obtain⟨h1,h2,h3,h4,h5⟩:=hs i x y hx hy
  have Lf:i<m.length:=by omega
  have i0:dw 5 i (.sl k (l.map ki))=some (.dk [.str x.key,.int .u64 x.id,.str x.value,.sl x.kk (x.keys.map eS),.int .i64 x.bg]):=gC (e:=ki) (n:=5) (fun _=>rfl) (by decide) (k:=k) hx
  have i1:dw 5 i (.sl k' (m.map ki))=some (.dk [.str x.key,.int .u64 x.id,.str x.value,.sl y.kk (x.keys.map eS),.int .i64 y.bg]):=by
   rw[h1,h2,h3,h4];exact gC (e:=ki) (n:=5) (fun _=>rfl) (by decide) (k:=k') hy
  have mR:=aC (show i<9223372036854775807 by omega)
  have ld4:∀Hx (a b c d e:T),nC Hx 4 (.dk [a,b,c,d,e])=some [a,b,c,d]:=fun _ _ _ _ _ _=>rfl
  obtain⟨H2,CA⟩:∃H2,H2=H1++[B.cells [.str x.key,.int .u64 x.id,.str x.value,.sl x.kk (x.keys.map eS)]]:=⟨_,rfl⟩
  obtain⟨H3,wo⟩:∃H3,H3=H2++[B.cells [.str x.key,.int .u64 x.id,.str x.value,.sl y.kk (x.keys.map eS)]]:=⟨_,rfl⟩
  have d2:H2[H1.length]?=some (.cells [.str x.key,.int .u64 x.id,.str x.value,.sl x.kk (x.keys.map eS)]):=by rw[CA];exact aO rfl
  have x3:Ext H2 H3:=⟨_,wo⟩
  have d3:=x3.get d2
  have AN:H3[H2.length]?=some (.cells [.str x.key,.int .u64 x.id,.str x.value,.sl y.kk (x.keys.map eS)]):=by rw[wo];exact aO rfl
  have sn:Ext H H3:=gz.trans (Ext.trans ⟨_,CA⟩ x3)
  cases st with
  | false =>
   simp -implicitDefEqProofs only[aq,ah,op,ef,cl,sq,reduceIte,q6,q7,q9,j1,j2,j3,j4,j5,j6,S1,List.length_map,g7,aw,Lf,aa,i0,i1,ld4,S2]
   rw[←CA,←wo]
   simp -implicitDefEqProofs only[op,ef,cl,sq,reduceIte,q6,q7,q9,j1,j2,j3,j4,j5,j6,S1,d3,AN]
   refine ae _ _ _ _ _ _ _ _ (HG x.kk y.kk x.keys hkx _) ?_
   rintro u H4⟨hu,rfl⟩
   cases hu
   simp -implicitDefEqProofs only[op,ef,cl,sq,reduceIte,q6,q7,q9,j1,j2,j3,j4,j5,j6,S1,g7,d3,AN,mR]
   exact⟨i+1,by omega,.i sn,rfl,aw⟩
  | true =>
   have h5:=h5 rfl
   simp -implicitDefEqProofs only[aq,ah,op,ef,cl,sq,reduceIte,q6,q7,q9,j1,j2,j3,j4,j5,j6,S1,List.length_map,g7,aw,Lf,aa,i0,i1,ld4,S2]
   rw[←CA,←wo]
   simp -implicitDefEqProofs only[op,ef,cl,sq,reduceIte,q6,q7,q9,j1,j2,j3,j4,j5,j6,S1,d3,AN]
   refine ae _ _ _ _ _ _ _ _ (HG x.kk y.kk x.keys hkx _) ?_
   rintro u H4⟨hu,rfl⟩
   cases hu
   simp -implicitDefEqProofs only[op,ef,cl,sq,reduceIte,q6,q7,q9,j1,j2,j3,j4,j5,j6,S1,g7,d3,AN,aa,i0,i1,eY,h5,mR]
   exact⟨i+1,by omega,.i sn,rfl,aw⟩
 ·have Lf:¬i<m.length:=by omega
  simp -implicitDefEqProofs only[aq,ah,op,ef,cl,sq,reduceIte,q6,q7,q9,j1,j2,j3,j4,j5,j6,S1,List.length_map,g7,aw,Lf]
  exact gz
theorem CK (H:af):W env (.call 26 []) H (oL (.sl .full (PS.map eO)) H):=by
 refine W.bU rfl rfl rfl ?_
 simp -implicitDefEqProofs only[NZ,op,ef,cl,sq,reduceIte,q6,q7,q9,j1,j2,j3,j4,j5,j6,S1]
 rfl
theorem opx:∀o∈MB,zu o:=fun o ho=>by
 simp -implicitDefEqProofs only[MB,PS,VB,List.cons_append,List.nil_append,List.mem_cons,List.not_mem_nil,or_false]at ho
 rcases ho with rfl|rfl|rfl|rfl<;>exact⟨(fun h=>by cases h),by decide,by decide,by decide⟩
theorem abu:gV aL 100000:=by
 have:=gV.emp.run MB opx
 rw[HF]at this
 exact this.le (by decide)
theorem VD (now:Int):aN.map (bT (cQ now aL))=[⟨kA,65536,w1,.arg,[kA,kB],now⟩,⟨kA,131072,w3,.arg,[kA],-1⟩,⟨kB,65536,w2,.arg,[kA,kB],-1⟩]:=by
 have n1:(kB=kA)=False:=by simp[sb.symm]
 simp -implicitDefEqProofs only[aN,List.map_cons,List.map_nil,bT,cQ,aL,Ab.last,n1,if_true,if_false,iw]
 rfl
theorem PU {a:Ab}{B:Nat}(h:gV a B){N:List Nm}(hN:Names a N):∀x∈N.map (bT a),x.keys.length<9223372036854775807:=fun x hx=>by
 have:=(h.kdB hN x hx).len;omega
theorem sd:body 1 [] []=[114,97,109,112,1,0,0,0,0,0,0,0,1,0,0,0,0,0,0,0,0]:=by rfl
theorem Lg (l:List Nat):oA 0 (dC 4 (iM l))=iM l:=by
 rw[zp,Nat.mod_eq_of_lt (show iM l<256^4 from KN l)];omega
theorem Lh:Names Ab.emp []:=⟨List.Pairwise.nil,fun m=>by simp[Ab.has,Ab.emp]⟩
theorem HH:cX Ab.emp []:=⟨List.Pairwise.nil,fun m=>by simp[Ab.emp]⟩
set_option maxHeartbeats 4000000 in
theorem PX (H:af):W env (.call 8 []) H (fun o H'=>o=.val (.bool true)∧Ext H H'):=by
 refine W.bU rfl rfl rfl ?_
 simp -implicitDefEqProofs only[XP,op,ef,cl,sq,reduceIte,q6,q7,q9,j1,j2,j3,j4,j5,j6,S1]
 refine ae _ _ _ _ _ _ _ _ (Hw .nil [] (fun o ho=>by cases ho) (by decide) (by decide) _) ?_
 rintro u H1⟨b1,F1,hu,My⟩
 cases hu
 have x1:Ext H H1:=gg My.jv
 have a1:gO H1 b1 Ab.emp F1 0:=My.at_
 simp -implicitDefEqProofs only[op,ef,cl,sq,reduceIte,q6,q7,q9,j1,j2,j3,j4,j5,j6,S1]
 refine ae _ _ _ _ _ _ _ _ (CK _) ?_
 rintro u H2⟨hu,rfl⟩
 cases hu
 have cJ:=all_map (enc:=eO) (n:=6) (fun _=>rfl) PS
 obtain⟨k3,H3,ha,_,dD⟩:=lJ (n0:=H2.length) (H:=H2) (bytes:=88) (k:=.full) (PS.map eO) (VB.map eO) (.inr (.inl rfl)) (Nat.le_refl _) (by simp[VB]) (iY (by decide))
 have sn:Ext H2 H3:=dD.ext H2 (Nat.le_refl _) Ext.rfl'
 have O9:gX H2 88 .full (PS.map eO) [[T.int .i64 1,.int .u64 131072,.str ⟨#[]⟩,.sl .arg [[.str ⟨#[97]⟩,.str ⟨#[51]⟩]],.sl .arg [[.str ⟨#[97]⟩]],.int .i64 0],[.int .i64 2,.int .u64 131072,.str ⟨#[]⟩,.sl .arg [],.sl .arg [],.int .i64 0]]=some (.sl k3 (MB.map eO),H3):=ha
 simp -implicitDefEqProofs only[op,ef,cl,sq,reduceIte,q6,q7,q9,j1,j2,j3,j4,j5,j6,S1,cJ,O9]
 refine ae _ _ _ _ _ _ _ _ (Hw k3 MB opx (by decide) (by decide) _) ?_
 rintro u H4⟨b2,F2,hu,ME⟩
 cases hu
 rw[HF]at ME
 have um:Ext H3 H4:=gg ME.jv
 have e1:dn .ptr (.ptr b1.s 0) .bR=some false:=rfl
 have e2:dn .ptr (.ptr b2.s 0) .bR=some false:=rfl
 have a1:=(a1.ext sn).ext um
 obtain⟨W1,PY⟩:∃W1,W1=whole (body 1 [] []):=⟨_,rfl⟩
 have jl:W env (.call 10 [.int .i64 1,.ptr b1.s 0]) H4 (fun o H'=>Ext H4 H'∧∃k,k≠.nil∧o=.val (.bJ [.sl k (W1.map eB),.int .i64 0])):=by
  rw[PY];exact vN a1 (by decide) (fun k n h=>by cases h) Lh HH 1 ⟨by decide,by decide⟩ (by decide)
 simp -implicitDefEqProofs only[op,ef,cl,sq,reduceIte,q6,q7,q9,j1,j2,j3,j4,j5,j6,S1,e1,e2]
 refine ae _ _ _ _ _ _ _ _ jl ?_
 rintro u H5⟨pE,k5,_,hu⟩
 cases hu
 have pE:Ext H4 H5:=pE
 have lW:W1.length=25:=by rw[PY];unfold whole;rw[List.length_append,bl,sd];rfl
 have bW:dG W1:=by rw[PY];exact mw (jK _ _ _)
 have g0:W1[0]?=some 114:=by rw[PY];unfold whole;rw[sd];rfl
 have g12:W1[12]?=some 1:=by rw[PY];unfold whole;rw[sd];rfl
 have tW:W1.take 21=body 1 [] []:=by rw[PY];unfold whole;exact List.take_left' (by rw[sd];rfl)
 have dW:W1.drop 21=dC 4 (iM (body 1 [] [])):=by rw[PY];unfold whole;exact List.drop_left' (by rw[sd];rfl)
 have i0:dw 1 0 (.sl k5 (W1.map eB))=some (.dk [.int .u8 114]):=gC (e:=eB) (n:=1) (fun _=>rfl) (by decide) (k:=k5) g0
 have i12:dw 1 12 (.sl k5 (W1.map eB))=some (.dk [.int .u8 1]):=gC (e:=eB) (n:=1) (fun _=>rfl) (by decide) (k:=k5) g12
 have Li:∀R Hx a,(X.r a).ev R=.sl k5 (W1.map eB)→ar R Hx (.fX 1 (.r a) none (some (.c (.int .i64 21))) none)=some (.sl (k5.cut W1.length 0 21) ((W1.take 21).map eB),Hx):=fun R Hx a ha=>by
  have:=He (Hx:=Hx) (lo:=none) (hi:=some (.c (.int .i64 21))) (a:=0) (b:=21) ha rfl rfl (by decide) (by omega)
  simpa using this
 have n0:cq (.int .i64 0)=some 0:=rfl
 have n1:cq (.int .i64 1)=some 1:=rfl
 have n12:cq (.int .i64 12)=some 12:=rfl
 have Tp:((25:Nat):Int)=25:=rfl
 simp -implicitDefEqProofs only[op,ef,cl,sq,reduceIte,q6,q7,q9,j1,j2,j3,j4,j5,j6,S1,List.length_map,lW,Tp,n0,n12,i0,i12,eY,↓Li]
 refine ae _ _ _ _ _ _ _ _ (CJ k5 W1 bW (n:=21) lW (by omega) _) ?_
 rintro u H6⟨hu,rfl⟩
 cases hu
 rw[dW,Lg]
 simp -implicitDefEqProofs only[op,ef,cl,sq,reduceIte,q6,q7,q9,j1,j2,j3,j4,j5,j6,S1,↓Li]
 rw[tW]
 refine ae _ _ _ _ _ _ _ _ (Bc _ (body 1 [] []) (by rw[sd];decide) _) ?_
 rintro u H7⟨pX,hu⟩
 cases hu
 have pX:Ext H6 H7:=pX
 simp -implicitDefEqProofs only[op,ef,cl,sq,reduceIte,q6,q7,q9,j1,j2,j3,j4,j5,j6,S1,↓Li]
 refine ae _ _ _ _ _ _ _ _ (UT .arg (body 1 [] []) (jK _ _ _) (by rw[sd];decide) _) ?_
 rintro u H8⟨sB,hu⟩
 cases hu
 have sB:Ext H7 H8:=sB
 simp -implicitDefEqProofs only[op,ef,cl,sq,reduceIte,q6,q7,q9,j1,j2,j3,j4,j5,j6,S1,↓Li]
 have a2:gO H8 b2 aL F2 (dh MB):=((ME.at_.ext pE).ext pX).ext sB
 have hz:=abu
 obtain⟨K2,QR⟩:∃K2,K2=body 7 ([kA,kB].map (gh aL)) (aN.map (bT aL)):=⟨_,rfl⟩
 have a9:K2.length≤200000:=by rw[QR];exact Nat.le_trans (hz.body oG my 7) (by decide)
 obtain⟨W2,WQ⟩:∃W2,W2=whole K2:=⟨_,rfl⟩
 have lW2:W2.length=K2.length+4:=by rw[WQ];unfold whole;rw[List.length_append,bl]
 have bW2:dG W2:=by rw[WQ,QR];exact mw (jK _ _ _)
 have oK:W env (.call 10 [.int .i64 7,.ptr b2.s 0]) H8 (fun o H'=>Ext H8 H'∧∃k,k≠.nil∧o=.val (.bJ [.sl k (W2.map eB),.int .i64 0])):=by
  rw[WQ,QR];exact vN a2 (by decide) hz.w.L oG my 7 ⟨by decide,by decide⟩ (by have:=a9;rw[QR]at this;exact Nat.le_trans this (by decide))
 refine ae _ _ _ _ _ _ _ _ oK ?_
 rintro u H9⟨CB,k9,hk9,hu⟩
 cases hu
 have CB:Ext H8 H9:=CB
 simp -implicitDefEqProofs only[op,ef,cl,sq,reduceIte,q6,q7,q9,j1,j2,j3,j4,j5,j6,S1]
 refine ae _ _ _ _ _ _ _ _ (Bc k9 W2 (by omega) _) ?_
 rintro u vM⟨jL,hu⟩
 cases hu
 have jL:Ext H9 vM:=jL
 have t9:bq 9:=⟨by decide,by decide⟩
 have QM:W env (.call 17 [.sl .arg (W2.map eB),.int .i64 9]) vM (fun o H'=>∃b F,o=.val (.bJ [.int .i64 7,.ptr b.s 0,.int .i64 0])∧mj vM H' b (cQ 9 aL) F aN.length):=by
  rw[WQ,QR];exact zy hz oG my (g:=7) (by decide) (by decide) t9 (by decide) (by decide) (by have:=a9;rw[QR]at this;omega) .arg (by simp) _
 simp -implicitDefEqProofs only[op,ef,cl,sq,reduceIte,q6,q7,q9,j1,j2,j3,j4,j5,j6,S1]
 refine ae _ _ _ _ _ _ _ _ QM ?_
 rintro u A2⟨b3,F3,hu,K7⟩
 cases hu
 have mE:Ext vM A2:=gg K7.jv
 have e3:dn .ptr (.ptr b3.s 0) .bR=some false:=rfl
 simp -implicitDefEqProofs only[op,ef,cl,sq,reduceIte,q6,q7,q9,j1,j2,j3,j4,j5,j6,S1,e3]
 refine ae _ _ _ _ _ _ _ _ (AQ K7.at_ (by decide)) ?_
 rintro u yk⟨kr,WL,l12,_,abv,_,hu⟩
 cases hu
 have kr:Ext A2 yk:=kr
 have e12:=abv.uniq (ku (now:=9) oG)
 subst e12
 have eK:aN.map (Uz (cQ 9 aL))=[[.str kA,.int .u64 65536,.str w1,.sl .arg [[.str kA],[.str kB]],.int .i64 9],[.str kA,.int .u64 131072,.str w3,.sl .arg [[.str kA]],.int .i64 (-1)],[.str kB,.int .u64 65536,.str w2,.sl .arg [[.str kA],[.str kB]],.int .i64 (-1)]]:=by
  have:=congrArg (List.map ki) (VD 9)
  rw[List.map_map]at this
  exact this
 rw[eK]
 have wl:IntKind.i64.wrap ((W2.length:Int)-1)=((W2.length-1:Nat):Int):=by rw[wrap64 (by omega)];omega
 have dD:=rT (k:=k9) (l:=W2) (n:=W2.length-1) (by omega)
 simp -implicitDefEqProofs only[op,ef,cl,sq,reduceIte,q6,q7,q9,j1,j2,j3,j4,j5,j6,S1,List.length_map,wl,↓dD]
 refine ae _ _ _ _ _ _ _ _ (Bc _ (W2.take (W2.length-1)) (by rw[List.length_take];omega) _) ?_
 rintro u yl⟨mF,hu⟩
 cases hu
 have mF:Ext yk yl:=mF
 have hl3:(W2.take (W2.length-1)).length≤300000:=by rw[List.length_take];omega
 have C0:dG (W2.take (W2.length-1)):=bW2.take _
 simp -implicitDefEqProofs only[op,ef,cl,sq,reduceIte,q6,q7,q9,j1,j2,j3,j4,j5,j6,S1]
 refine ae _ _ _ _ _ _ _ _ (Hq .arg (W2.take (W2.length-1)) (fun h=>by cases h) C0 (by omega) (-1) (fun _ g L K h=>by
  have h1:=x7 (C0.take _) h
  have h2:((W2.take (W2.length-1)).take ((W2.take (W2.length-1)).length-4)).length≤(W2.take (W2.length-1)).length:=by rw[List.length_take];omega
  omega) _) ?_
 rintro u C9 hq
 have nt:¬bq (-1):=fun h=>by have:=h.1;omega
 rcases hq with⟨_,hu,oE⟩|⟨h,_⟩|⟨h,_⟩|⟨h,_⟩
 rotate_left
 ·exact absurd h nt
 ·exact absurd h nt
 ·exact absurd h nt
 cases hu
 have oE:Ext yl C9:=oE
 have l0:dw 5 0 (.sl WL [[.str kA,.int .u64 65536,.str w1,.sl .arg [[.str kA],[.str kB]],.int .i64 9],[.str kA,.int .u64 131072,.str w3,.sl .arg [[.str kA]],.int .i64 (-1)],[.str kB,.int .u64 65536,.str w2,.sl .arg [[.str kA],[.str kB]],.int .i64 (-1)]])=some (.dk [.str kA,.int .u64 65536,.str w1,.sl .arg [[.str kA],[.str kB]],.int .i64 9]):=li0 rfl
 have l1:dw 5 1 (.sl WL [[.str kA,.int .u64 65536,.str w1,.sl .arg [[.str kA],[.str kB]],.int .i64 9],[.str kA,.int .u64 131072,.str w3,.sl .arg [[.str kA]],.int .i64 (-1)],[.str kB,.int .u64 65536,.str w2,.sl .arg [[.str kA],[.str kB]],.int .i64 (-1)]])=some (.dk [.str kA,.int .u64 131072,.str w3,.sl .arg [[.str kA]],.int .i64 (-1)]):=Z7 rfl
 have e14:dn .ptr .bR .bR=some true:=rfl
 have a3:gO C9 b3 (cQ 9 aL) F3 aN.length:=((K7.at_.ext kr).ext mF).ext oE
 have Qp:(w1=⟨#[49]⟩)=True:=eq_true rfl
 simp -implicitDefEqProofs only[op,ef,cl,sq,reduceIte,q6,q7,q9,j1,j2,j3,j4,j5,j6,S1,n0,n1,l0,l1,eY,Qp]
 refine ae _ _ _ _ _ _ _ _ (AV a3 (by decide) (hz.rest (now:=9) t9).w.L) ?_
 rintro u U2⟨Hc,k15,l15,_,abw,_,hu⟩
 cases hu
 have Hc:Ext C9 U2:=Hc
 have e15:=abw.uniq (je (now:=9) my)
 subst e15
 have e1:dn .ptr .bR .bR=some true:=rfl
 simp -implicitDefEqProofs only[op,ef,cl,sq,reduceIte,q6,q7,q9,j1,j2,j3,j4,j5,j6,S1,e14,List.map_cons,List.map_nil,List.length_cons,List.length_nil]
 exact x1.trans (sn.trans (um.trans (pE.trans (pX.trans (sB.trans (CB.trans (jL.trans (mE.trans (kr.trans (mF.trans (oE.trans Hc)))))))))))
theorem CL {a:Ab}(hw:uu a){N:List Nm}(hN:Names a N):∃ls,cX a ls∧ls.length≤N.length:=by
 refine⟨(N.filter fun m=>decide (a.l m.1=some m.2)).map (·.1),⟨List.pairwise_map.2 ?_,fun k=>?_⟩,by rw[List.length_map];exact List.length_filter_le _ _⟩
 ·refine(hN.1.filter fun m=>decide (a.l m.1=some m.2)).imp_of_mem fun {x y} hx hy h=>?_
  have h1:=of_decide_eq_true (List.mem_filter.1 hx).2
  have h2:=of_decide_eq_true (List.mem_filter.1 hy).2
  rcases(oj _ _).1 h with h|⟨h,h'⟩
  ·exact h
  ·rw[h,h2]at h1;have:=Option.some.inj h1;omega
 ·rw[List.mem_map]
  constructor
  ·rintro⟨m,hm,rfl⟩
   rw[of_decide_eq_true (List.mem_filter.1 hm).2];rfl
  ·intro h
   obtain⟨n,hn⟩:=Option.isSome_iff_exists.1 h
   exact⟨(k,n),List.mem_filter.2 ⟨(hN.2 _).2 (hw.L k n hn),decide_eq_true hn⟩,rfl⟩
theorem PZ (o:qy):2*o.jd.length≤bo o:=by unfold bo;have:=zx o.jd;omega
theorem Bf:∀l:List qy,2*dh l≤Is l
 | []=>Nat.le_refl _
 | o :: l=>by
  have h1:=Bf l
  have h2:=PZ o
  simp -implicitDefEqProofs only[dh,Is,List.map_cons,List.sum_cons]at h1 ⊢;omega
theorem Lj {now:Int}{a:Ab}{m:Nm}(h:a.has m=true):bT (cQ now a) m={ bT a m with bg:=if m.2<a.last m.1 then now else -1 }:=by
 obtain⟨d,hd⟩:=Option.isSome_iff_exists.1 h
 have e:(cQ now a).v m=some ⟨d.value,d.keys,if m.2<a.last m.1 then now else -1⟩:=by unfold cQ;simp -implicitDefEqProofs only[hd,Option.map_some]
 unfold bT
 rw[e,hd];rfl
theorem uB {now:Int}{a:Ab}{N:List Nm}(hN:Names a N)(g:Nat)(L:List Nm):body g L (N.map (bT (cQ now a)))=body g L (N.map (bT a)):=by
 unfold body
 rw[List.length_map,List.length_map]
 have:(N.map (bT (cQ now a))).flatMap kR=(N.map (bT a)).flatMap kR:=by
  rw[List.flatMap_map,List.flatMap_map,List.flatMap_def,List.flatMap_def]
  refine congrArg List.flatten (List.map_congr_left fun m hm=>?_)
  rw[Lj ((hN.2 m).1 hm)];rfl
 rw[this]
theorem keA {a:Ab}(N:List Nm):N.map (Uz a)=(N.map (bT a)).map ki:=by rw[List.map_map];rfl
theorem CM (l:List Kd):∀(i:Nat) (x y:Kd),l[i]?=some x→l[i]?=some y→MD true x y:=fun i x y hx hy=>by
 rw[hx]at hy;cases hy;exact⟨rfl,rfl,rfl,rfl,fun _=>rfl⟩
def qC (q:Nat→Nat)(ct:Nat→List Nat):List T:=(List.range 5).map fun j=>.ax (q j) 0 (ct j).length 1
structure Q5 (Hb H:af)(G:Nat→Prop)(AL:Nat)(q:Nat→Nat)(ct:Nat→List Nat):Prop where
 al:H[AL]?=some (.cells (qC q ct))
 at_:∀j,j<5→H[q j]?=some (.cells (aE eB (ct j)))
 inj:∀i j,i<5→j<5→q i=q j→i=j
 ne:∀j,j<5→q j≠AL
 own:∀j,j<5→G (q j)∨Hb.length≤q j
 gal:G AL∨Hb.length≤AL
 jv:bm G Hb H
def up {α:Type}(f:Nat→α)(i:Nat)(x:α):Nat→α:=fun j=>if j=i then x else f j
theorem mS {α:Type}(f:Nat→α)(i:Nat)(x:α):up f i x i=x:=if_pos rfl
theorem jg {α:Type}(f:Nat→α){i j:Nat}(x:α)(h:j≠i):up f i x j=f j:=if_neg h
section
variable {Hb H:af} {G:Nat→Prop} {AL:Nat} {q:Nat→Nat} {ct:Nat→List Nat}
theorem zz {i:Nat}(hi:i<5):ph 1 i (some (.cells (qC q ct)))=some [.ax (q i) 0 (ct i).length 1]:=by
 match i,hi with
 | 0,_|1,_|2,_|3,_|4,_=>rfl
theorem P0 {i:Nat}(hi:i<5)(Hx:af)(c:Nat)(l:List Nat):nV Hx AL [.ax c 0 l.length 1] i (some (.cells (qC q ct)))=some (Hx.set AL (.cells (qC (up q i c) (up ct i l)))):=by
 match i,hi with
 | 0,_|1,_|2,_|3,_|4,_=>rfl
theorem P3 {i:Nat}{l:List Nat}(h:l.length=(ct i).length):qC q (up ct i l)=qC q ct:=by
 unfold qC
 refine List.map_congr_left fun j _=>?_
 by_cases e:j=i
 ·subst e;rw[mS,h]
 ·rw[jg _ _ e]
theorem Q5.wr (h:Q5 Hb H G AL q ct){j:Nat}(hj:j<5){l:List Nat}(hl:l.length=(ct j).length):Q5 Hb (H.set (q j) (.cells (aE eB l))) G AL q (up ct j l):=by
 refine⟨?_,fun i hi=>?_,h.inj,h.ne,h.own,h.gal,h.jv.set (h.own j hj) _⟩
 ·rw[bj (h.ne j hj),P3 hl];exact h.al
 ·by_cases e:i=j
  ·subst e;rw[mS];exact bX (aY (h.at_ i hi))
  ·rw[jg _ _ e,bj (fun e'=>e (h.inj i j hi hj e'.symm))];exact h.at_ i hi
theorem aby {c:Nat}{l:List Nat}(v:Nat)(hc:H[c]?=some (.cells (aE eB l)))(hl:l.length≤4294967296):jA H 1 1 (.ax c 0 l.length 1) [[.int .u8 (v:Nat)]]=some (.ax H.length 0 (l++[v]).length 1,H.set c .dead++[B.cells (aE eB (l++[v]))]):=by
 have hr:cU (l.length+1) 1=true:=iY (by omega)
 have hm:(aE eB l).length=l.length*1:=da (n:=1) (fun _=>rfl) ..
 have e:aE eB l++[[T.int .u8 (v:Nat)]].flatten=aE eB (l++[v]):=by simp[aE,eB]
 simp -implicitDefEqProofs only[jA,hc,hm,List.length_cons,List.length_nil,Nat.zero_add,hr,and_self,if_true,e,List.length_append]
theorem Q5.app (h:Q5 Hb H G AL q ct){i:Nat}(hi:i<5)(v:Nat):Q5 Hb ((H.set (q i) B.dead++[B.cells (aE eB (ct i++[v]))]).set AL (.cells (qC (up q i H.length) (up ct i (ct i++[v]))))) G AL (up q i H.length) (up ct i (ct i++[v])):=by
 have la:=aY h.al
 have lq:∀j,j<5→q j<H.length:=fun j hj=>aY (h.at_ j hj)
 have qk:=h.jv.1
 refine⟨bX (by simp;omega),fun j hj=>?_,fun a b ha hb e=>?_,fun j hj=>?_,fun j hj=>?_,h.gal,?_⟩
 ·by_cases e:j=i
  ·subst e
   rw[mS,mS,bj (by omega)]
   exact aO (by simp)
  ·rw[jg _ _ e,jg _ _ e,bj (fun e'=>h.ne j hj e'.symm),aQ (by rw[List.length_set];exact lq j hj),bj (fun e'=>e (h.inj j i hj hi e'.symm))]
   exact h.at_ j hj
 ·by_cases e1:a=i
  ·by_cases e2:b=i
   ·omega
   ·rw[e1,mS,jg _ _ e2]at e
    have:=lq b hb;omega
  ·by_cases e2:b=i
   ·rw[e2,mS,jg _ _ e1]at e
    have:=lq a ha;omega
   ·rw[jg _ _ e1,jg _ _ e2]at e
    exact h.inj a b ha hb e
 ·by_cases e:j=i
  ·subst e;rw[mS];omega
  ·rw[jg _ _ e];exact h.ne j hj
 ·by_cases e:j=i
  ·subst e;rw[mS];exact .inr qk
  ·rw[jg _ _ e];exact h.own j hj
 ·exact((h.jv.set (h.own i hi) _).ext (Ext.rfl'.app _)).set h.gal _
end
def ov (v m:Nat)(l:List Nat):List Nat:=List.replicate m v++l.drop m
theorem P4 {v m:Nat}{l:List Nat}(h:m≤l.length):(ov v m l).length=l.length:=by
 unfold ov
 rw[List.length_append,List.length_replicate,List.length_drop];omega
theorem P5 {v m:Nat}{l:List Nat}(h:m<l.length):(ov v m l).set m v=ov v (m+1) l:=by
 unfold ov
 rw[List.drop_eq_getElem_cons h,List.set_append_right _ _ (by rw[List.length_replicate];omega),List.length_replicate,Nat.sub_self,List.set_cons_zero,List.replicate_succ',List.append_assoc]
 rfl
def P1 (n:Nat)(o ct:Nat→List Nat)(i k:Nat):Prop:=(∀j,j<i→ct j=ov (1+j) n (o j))∧ct i=ov (1+i) k (o i)∧∀j,i<j→ct j=o j
theorem P1.set {n:Nat}{o ct:Nat→List Nat}{i k:Nat}(h:P1 n o ct i k)(hk:k<(o i).length):P1 n o (up ct i ((ct i).set k (1+i))) i (k+1):=by
 refine⟨fun j hj=>?_,?_,fun j hj=>?_⟩
 ·rw[jg _ _ (by omega)];exact h.1 j hj
 ·rw[mS,h.2.1,P5 hk]
 ·rw[jg _ _ (by omega)];exact h.2.2 j hj
theorem P1.next {n:Nat}{o ct:Nat→List Nat}{i:Nat}(h:P1 n o ct i n):P1 n o ct (i+1) 0:=by
 refine⟨fun j hj=>?_,?_,fun j hj=>h.2.2 j (by omega)⟩
 ·by_cases e:j=i
  ·subst e;exact h.2.1
  ·exact h.1 j (by omega)
 ·rw[h.2.2 (i+1) (by omega)];simp[ov]
def fF (n j k:Nat):List Nat:=List.replicate n (1+j)++List.replicate k (101+j)
def P2 (n:Nat)(ct:Nat→List Nat)(i k:Nat):Prop:=(∀j,j<i→j<4→ct j=fF n j 80)∧(i<4→ct i=fF n i k)∧∀j,i<j→j<4→ct j=fF n j 0
theorem P2.app {n:Nat}{ct:Nat→List Nat}{i k:Nat}(h:P2 n ct i k)(hi:i<4):P2 n (up ct i (ct i++[101+i])) i (k+1):=by
 refine⟨fun j hj h4=>?_,fun _=>?_,fun j hj h4=>?_⟩
 ·rw[jg _ _ (by omega)];exact h.1 j hj h4
 ·rw[mS,h.2.1 hi]
  unfold fF
  rw[List.append_assoc,List.replicate_succ']
 ·rw[jg _ _ (by omega)];exact h.2.2 j hj h4
theorem P2.next {n:Nat}{ct:Nat→List Nat}{i:Nat}(h:P2 n ct i 80):P2 n ct (i+1) 0:=by
 refine⟨fun j hj h4=>?_,fun h4=>h.2.2 _ (by omega) h4,fun j hj h4=>h.2.2 j (by omega) h4⟩
 by_cases e:j=i
 ·subst e;exact h.2.1 h4
 ·exact h.1 j (by omega) h4
theorem HI (n j k:Nat):(fF n j k).length=n+k:=by simp[fF]
theorem P6 {n j k p:Nat}(h:p<n+k):(fF n j k)[p]?=some (if p<n then 1+j else 101+j):=by
 unfold fF
 by_cases hp:p<n
 ·rw[List.getElem?_append_left (by simpa using hp),List.getElem?_replicate,if_pos hp,if_pos hp]
 ·rw[List.getElem?_append_right (by simp;omega),List.getElem?_replicate,if_pos (by simp;omega),if_neg hp]
theorem P2.of {n:Nat}{o ct:Nat→List Nat}(h:P1 n o ct 5 0)(ho:∀j,j<4→(o j).length=n):P2 n ct 0 0:=by
 have key:∀j,j<4→ct j=fF n j 0:=fun j hj=>by
  rw[h.1 j (by omega)]
  unfold ov fF
  rw[List.drop_eq_nil_of_le (by rw[ho j hj];omega)];rfl
 exact⟨fun j hj=>absurd hj (by omega),fun h4=>key 0 h4,fun j _ h4=>key j h4⟩
theorem wsl {l:List Nat}(h:js l):whole (l.take (l.length-4))=l:=by
 unfold whole
 rw[h.2,List.take_append_drop]
theorem HJ (g:Nat)(L:List Nm)(K:List Kd)(f:Kd→Kd)(hf:∀x,kR (f x)=kR x):body g L (K.map f)=body g L K:=by
 unfold body
 rw[List.length_map,List.flatMap_map]
 have:(K.flatMap fun a=>kR (f a))=K.flatMap kR:=by
  rw[List.flatMap_def,List.flatMap_def]
  exact congrArg List.flatten (List.map_congr_left fun x _=>hf x)
 rw[this]
theorem Lk {K:List Kd}{L:List Nm}(h:dv K L):(K.map Kd.nm).map (bT (dF K L))=K.map ak:=by
 rw[List.map_map]
 refine List.map_congr_left fun x hx=>?_
 show bT (dF K L) x.nm=ak x
 unfold bT
 rw[h.look hx];rfl
theorem zA {l:List Nat}(hs:js l)(hb:dG l)(hl:l.length≤8000000){g:Nat}{L:List Nm}{K:List Kd}{now:Int}(hp:pR (l.take (l.length-4))=some (g,L,K))(kx:dv (K.map (pY now L)) L)(hK:K.length≤8000000){H:af}{b:Bk}{F:Nat→Prop}(ha:gO H b (dF (K.map (pY now L)) L) F K.length) :
  W env (.call 10 [.int .i64 g,.ptr b.s 0]) H (fun o H'=>Ext H H'∧∃k,k≠.nil∧o=.val (.bJ [.sl k (l.map eB),.int .i64 0]))∧1≤g:=by
 obtain⟨i1,i2,_,_,_,_⟩:=HA (hb.take _) hp
 have e:body (g:Int).toNat ((L.map (·.1)).map (gh (dF (K.map (pY now L)) L))) (((K.map (pY now L)).map Kd.nm).map (bT (dF (K.map (pY now L)) L)))=l.take (l.length-4):=by
  rw[kx.aaT,Lk kx,List.map_map,Int.toNat_natCast,i1]
  exact HJ g L K _ fun _=>rfl
 have h:=vN ha hK kx.lv kx.names kx.Pr (g:Int) ⟨by omega,by omega⟩ (by rw[e,List.length_take];omega)
 rw[e,wsl hs]at h
 exact⟨h,i2.1⟩
def q5 (a b c d e:Nat)(j:Nat):Nat:=match j with
 | 0=>a
 | 1=>b
 | 2=>c
 | 3=>d
 | _=>e
def o5 (W V:List Nat)(j:Nat):List Nat:=if j<4 then W else V
set_option maxHeartbeats 16000000 in
theorem P7 (k:SK)(ops:List qy)(ho:∀o∈ops,zu o)(hb:Is ops≤1048576)(hl:ops.length≤8000000)(kb:SK)(l:List Nat)(J7:dG l)(qR:l.length≤8000000)(H:af) :
  W env (.call 6 [.sl k (ops.map eO),.sl kb (l.map eB)]) H (fun o _=>o=.val (.bool true)):=by
 have hp:=Bf ops
 have hz:=gV.emp.run ops ho
 obtain⟨a,ha⟩:∃a,a=gQ Ab.emp ops:=⟨_,rfl⟩
 rw[←ha]at hz
 have ht5:bq 5:=⟨by decide,by decide⟩
 have en:dn .ptr .bR .bR=some true:=rfl
 have C7:∀g L K,pR (l.take (l.length-4))=some (g,L,K)→K.length≤8000000∧L.length≤8000000:=fun g L K h=>by
  have h1:=x7 (J7.take _) h
  have h2:(l.take (l.length-4)).length≤l.length:=by rw[List.length_take];omega
  omega
 refine W.bU rfl rfl rfl ?_
 simp -implicitDefEqProofs only[XO,op,ef,cl,sq,reduceIte,q6,q7,q9,j1,j2,j3,j4,j5,j6,S1]
 refine ae _ _ _ _ _ _ _ _ (PX _) ?_
 rintro u H1⟨hu,gz⟩
 cases hu
 simp -implicitDefEqProofs only[op,ef,cl,sq,reduceIte,q6,q7,q9,j1,j2,j3,j4,j5,j6,S1]
 refine ae _ _ _ _ _ _ _ _ (Bc kb l (by omega) _) ?_
 rintro u H2⟨v9,hu⟩
 cases hu
 simp -implicitDefEqProofs only[op,ef,cl,sq,reduceIte,q6,q7,q9,j1,j2,j3,j4,j5,j6,S1]
 refine ae _ _ _ _ _ _ _ _ (Hq .arg l (fun h=>by cases h) J7 (by omega) 5 (fun _=>C7) _) ?_
 intro u H3 hq
 obtain⟨g,e,t,hu,DW⟩:∃(g e:Int) (t:T),Out.val u=.val (.bJ [.int .i64 g,t,.int .i64 e])∧((g=0∧t=.bR∧(e=90∨e=2))∨(e=0∧∃(gn:Nat) (L:List Nm) (K:List Kd) (b:Bk) (F:Nat→Prop),g=(gn:Int)∧t=.ptr b.s 0∧js l∧pR (l.take (l.length-4))=some (gn,L,K)∧dv (K.map (pY 5 L)) L∧gO H3 b (dF (K.map (pY 5 L)) L) F K.length)):=by
  rcases hq with⟨h,_⟩|⟨_,hs,hu,_⟩|⟨_,hs,hp,hu,_⟩|⟨_,hs,g,L,K,hp,⟨kx,b,F,hu,pv⟩|⟨gI,hu,_⟩⟩
  ·exact absurd ht5 h
  ·exact⟨0,90,.bR,hu,.inl ⟨rfl,rfl,.inl rfl⟩⟩
  ·exact⟨0,2,.bR,hu,.inl ⟨rfl,rfl,.inr rfl⟩⟩
  ·exact⟨g,0,.ptr b.s 0,hu,.inr ⟨rfl,g,L,K,b,F,rfl,rfl,hs,hp,kx,pv.at_⟩⟩
  ·exact⟨0,2,.bR,hu,.inl ⟨rfl,rfl,.inr rfl⟩⟩
 cases hu
 simp -implicitDefEqProofs only[op,ef,cl,sq,reduceIte,q6,q7,q9,j1,j2,j3,j4,j5,j6,S1]
 refine B9 [(0,_)] (fun R' H'=>At H' (fun H'=>Ext H3 H')) ?_ ?_
 ·rcases DW with⟨rfl,rfl,rfl|rfl⟩|⟨rfl,gn,L,K,b,F,rfl,rfl,hs,PM,kx,Qm⟩
  ·simp -implicitDefEqProofs only[op,ef,cl,sq,reduceIte,q6,q7,q9,j1,j2,j3,j4,j5,j6,S1,en,vo]
   exact .i Ext.rfl'
  ·simp -implicitDefEqProofs only[op,ef,cl,sq,reduceIte,q6,q7,q9,j1,j2,j3,j4,j5,j6,S1,en,vo]
   exact .i Ext.rfl'
  ·obtain⟨hc,hg1⟩:=zA hs J7 qR PM kx (C7 _ _ _ PM).1 Qm
   have e0:dn .ptr (.ptr b.s 0) .bR=some false:=rfl
   have l1:decide ((gn:Int)<1)=false:=by simp;omega
   simp -implicitDefEqProofs only[op,ef,cl,sq,reduceIte,q6,q7,q9,j1,j2,j3,j4,j5,j6,S1]
   refine ae _ _ _ _ _ _ _ _ hc ?_
   rintro u H4⟨um,k4,_,hu⟩
   cases hu
   have um:Ext H3 H4:=um
   simp -implicitDefEqProofs only[op,ef,cl,sq,reduceIte,q6,q7,q9,j1,j2,j3,j4,j5,j6,S1,e0]
   refine ae _ _ _ _ _ _ _ _ (PO k4 kb l l J7 J7 _) ?_
   rintro u H5⟨hu,rfl⟩
   cases hu
   simp -implicitDefEqProofs only[op,ef,cl,sq,reduceIte,q6,q7,q9,j1,j2,j3,j4,j5,j6,S1,e0,l1,vo]
   exact .i um
 rintro R0 H4 um
 simp -implicitDefEqProofs only[aq,ah,op,ef,cl,sq,reduceIte,q6,q7,q9,j1,j2,j3,j4,j5,j6,S1]
 refine ae _ _ _ _ _ _ _ _ (Hw k ops ho (by omega) hl _) ?_
 rintro u H5⟨b1,F1,hu,My⟩
 cases hu
 rw[←ha]at My
 have e1:dn .ptr (.ptr b1.s 0) .bR=some false:=rfl
 have a1:=My.at_
 obtain⟨N,hN,hNl⟩:=a1.names
 obtain⟨ls,hL,QO⟩:=CL hz.w hN
 have a9:=hz.body hN hL 2
 have HW:=oD 2 (ls.map (gh a)) (N.map (bT a))
 obtain⟨Bd,Ll⟩:∃Bd,Bd=body 2 (ls.map (gh a)) (N.map (bT a)):=⟨_,rfl⟩
 obtain⟨Wb,VE⟩:∃Wb,Wb=whole Bd:=⟨_,rfl⟩
 have ym:dG Wb:=by rw[VE,Ll];exact mw (jK _ _ _)
 have uQ:Bd.length≤2147483647:=by rw[Ll];omega
 have Cf:Wb.length=Bd.length+4:=by rw[VE];unfold whole;rw[List.length_append,bl]
 have Wn:25≤Wb.length:=by rw[Cf,Ll];omega
 have WR:=ku (now:=5) hN
 have hLr:=je (now:=5) hL
 have V0:=hz.rest ht5
 have WS:∀{Hx:af},gO Hx b1 a F1 (dh ops)→W env (.call 10 [.int .i64 2,.ptr b1.s 0]) Hx (Py Hx Wb):=fun hx=>by
  rw[VE,Ll]
  exact rS hx (by omega) hz.w.L hN hL 2 ⟨by decide,by decide⟩ (by show(body 2 _ _).length≤_;rw[←Ll];exact uQ)
 have VF:∀{Hx:af} {F:Nat→Prop} {b:Bk},gO Hx b (cQ 5 a) F N.length→W env (.call 10 [.int .i64 2,.ptr b.s 0]) Hx (Py Hx Wb):=fun hx=>by
  rw[VE,Ll,←uB (now:=5) hN]
  exact rS hx (by omega) V0.w.L WR hLr 2 ⟨by decide,by decide⟩ (by
   show(body 2 (ls.map (gh a)) _).length≤_
   rw[uB hN,←Ll];exact uQ)
 simp -implicitDefEqProofs only[op,ef,cl,sq,reduceIte,q6,q7,q9,j1,j2,j3,j4,j5,j6,S1,e1]
 refine ae _ _ _ _ _ _ _ _ (WS a1) ?_
 rintro u H6⟨sy,c1,jl,hu,d1⟩
 cases hu
 have sy:Ext H5 H6:=sy
 simp -implicitDefEqProofs only[op,ef,cl,sq,reduceIte,q6,q7,q9,j1,j2,j3,j4,j5,j6,S1]
 refine ae _ _ _ _ _ _ _ _ (WS (a1.ext sy)) ?_
 rintro u H7⟨pX,c2,oK,hu,d2⟩
 cases hu
 have pX:Ext H6 H7:=pX
 have d17:=pX.get d1
 have Tp:decide ((Wb.length:Int)<25)=false:=by simp;omega
 simp -implicitDefEqProofs only[op,ef,cl,sq,reduceIte,q6,q7,q9,j1,j2,j3,j4,j5,j6,S1]
 refine ae _ _ _ _ _ _ _ _ (jf (Bs.ms d17) (Bs.ms d2) ym ym) ?_
 rintro u VG⟨hu,rfl⟩
 cases hu
 simp -implicitDefEqProofs only[op,ef,cl,sq,reduceIte,q6,q7,q9,j1,j2,j3,j4,j5,j6,S1,Tp]
 refine ae _ _ _ _ _ _ _ _ (HD (Bs.ms d17) (by omega)) ?_
 rintro u H8⟨sB,f0,hf0,hu,d8⟩
 cases hu
 have sB:Ext VG H8:=sB
 obtain⟨t',H9,ob,hm,dD⟩:=l6 (enc:=eB) (n:=1) (n0:=VG.length) (fun _=>rfl) (H:=H8) (t:=.ax f0 0 Wb.length 1) (l:=Wb) (bytes:=1) [161,162] (.inr ⟨f0,rfl,d8,hf0⟩) sB.len (by simp) (iY (by simp;omega))
 have ob:jA H8 1 1 (.ax f0 0 Wb.length 1) [[.int .u8 161],[.int .u8 162]]=some (t',H9):=ob
 have sm:uF (.ax f0 0 Wb.length 1)=.ax f0 0 Wb.length 1:=rfl
 obtain⟨fb,rfl,hfb,d9⟩:∃fb,t'=.ax fb 0 (Wb++[161,162]).length 1∧VG.length≤fb∧H9[fb]?=some (.cells (aE eB (Wb++[161,162]))):=by
  rcases hm with⟨h,_⟩|⟨c5,h1,h2,h3⟩
  ·have:=congrArg List.length h;simp at this
  ·exact⟨c5,h1,h3,h2⟩
 have CB:Ext VG H9:=dD.ext VG (Nat.le_refl _) sB
 obtain⟨V,hV⟩:∃V,V=Wb++[161,162]:=⟨_,rfl⟩
 rw[←hV]at d9 ob
 have hVl:V.length=Wb.length+2:=by rw[hV];simp
 have hVt:V.take Wb.length=Wb:=by rw[hV];exact List.take_left' rfl
 have v1:V[Wb.length]?=some 161:=by rw[hV,List.getElem?_append_right (Nat.le_refl _)];simp
 have v2:V[Wb.length+1]?=some 162:=by rw[hV,List.getElem?_append_right (by omega)];simp
 obtain⟨t9,P8,WT,nt9⟩:=(Bs.ms d9).take (fun k e=>by cases e) (n:=Wb.length) (by omega)
 rw[hVt]at WT nt9
 simp -implicitDefEqProofs only[op,ef,cl,sq,reduceIte,q6,q7,q9,j1,j2,j3,j4,j5,j6,S1,sm,ob,↓P8]
 have rdw:W env (.call 17 [t9,.int .i64 5]) H9 (fun o H'=>∃b F,o=.val (.bJ [.int .i64 2,.ptr b.s 0,.int .i64 0])∧mj H9 H' b (cQ 5 a) F N.length):=by
  rw[VE,Ll]at WT nt9
  exact pZ hz hN hL (g:=2) (by decide) (by decide) ht5 (by omega) (by omega) (by rw[←Ll];exact uQ) WT nt9
 refine ae _ _ _ _ _ _ _ _ rdw ?_
 rintro u vM⟨b2,F2,hu,ME⟩
 cases hu
 have jL:Ext H9 vM:=gg ME.jv
 have e2:dn .ptr (.ptr b2.s 0) .bR=some false:=rfl
 have d1a:=(CB.get d17)
 have d2a:=(CB.get d2)
 have d1b:=jL.get d1a
 have d2b:=jL.get d2a
 have d9b:=jL.get d9
 obtain⟨p1,ip1,lp1⟩:=(Bs.ms d9b).at v1
 obtain⟨p2,ip2,lp2⟩:=(Bs.ms d9b).at v2
 have lp1:nC vM 1 p1=some [.int .u8 161]:=lp1
 have lp2:nC vM 1 p2=some [.int .u8 162]:=lp2
 have wn1:IntKind.i64.wrap ((Wb.length:Int)+1)=((Wb.length+1:Nat):Int):=by rw[wrap64 (by omega)];omega
 simp -implicitDefEqProofs only[op,ef,cl,sq,reduceIte,q6,q7,q9,j1,j2,j3,j4,j5,j6,S1,e2,↓P8]
 refine ae _ _ _ _ _ _ _ _ (jf (WT.ext jL) (Bs.ms d1b) ym ym) ?_
 rintro u abF⟨hu,rfl⟩
 cases hu
 simp -implicitDefEqProofs only[op,ef,cl,sq,reduceIte,q6,q7,q9,j1,j2,j3,j4,j5,j6,S1,e2,↓P8,aa,ip1,lp1,wn1,ip2,lp2]
 refine ae _ _ _ _ _ _ _ _ (AQ ME.at_ (by omega)) ?_
 rintro u A2⟨mE,k11,N11,_,abG,_,hu⟩
 cases hu
 have mE:Ext abF A2:=mE
 rw[abG.uniq WR,keA]
 simp -implicitDefEqProofs only[op,ef,cl,sq,reduceIte,q6,q7,q9,j1,j2,j3,j4,j5,j6,S1]
 refine ae _ _ _ _ _ _ _ _ (HE (Bs.ms (mE.get d1b)) (by omega)) ?_
 rintro u yk⟨kr,hu⟩
 cases hu
 have kr:Ext A2 yk:=kr
 have a2:gO yk b2 (cQ 5 a) F2 N.length:=(ME.at_.ext mE).ext kr
 simp -implicitDefEqProofs only[op,ef,cl,sq,reduceIte,q6,q7,q9,j1,j2,j3,j4,j5,j6,S1]
 refine ae _ _ _ _ _ _ _ _ (VF a2) ?_
 rintro u yl⟨mF,c3,QM,hu,d3⟩
 cases hu
 have mF:Ext yk yl:=mF
 have MF:Ext H5 yl:=sy.trans (pX.trans (CB.trans (jL.trans (mE.trans (kr.trans mF)))))
 simp -implicitDefEqProofs only[op,ef,cl,sq,reduceIte,q6,q7,q9,j1,j2,j3,j4,j5,j6,S1]
 refine ae _ _ _ _ _ _ _ _ (WS (a1.ext MF)) ?_
 rintro u C9⟨oE,c4,hc4,hu,d4⟩
 cases hu
 have oE:Ext yl C9:=oE
 have d3b:=oE.get d3
 have yf:=mE.trans (kr.trans (mF.trans oE))
 have d1c:=yf.get d1b
 have d2c:=yf.get d2b
 have d9c:=yf.get d9b
 simp -implicitDefEqProofs only[op,ef,cl,sq,reduceIte,q6,q7,q9,j1,j2,j3,j4,j5,j6,S1]
 refine ae _ _ _ _ _ _ _ _ (jf (Bs.ms d3b) (Bs.sl C9 .arg Wb) ym ym) ?_
 rintro u abH⟨hu,rfl⟩
 cases hu
 simp -implicitDefEqProofs only[op,ef,cl,sq,reduceIte,q6,q7,q9,j1,j2,j3,j4,j5,j6,S1]
 refine ae _ _ _ _ _ _ _ _ (jf (Bs.ms d4) (Bs.sl abH .arg Wb) ym ym) ?_
 rintro u U2⟨hu,rfl⟩
 cases hu
 simp -implicitDefEqProofs only[op,ef,cl,sq,reduceIte,q6,q7,q9,j1,j2,j3,j4,j5,j6,S1]
 refine ae _ _ _ _ _ _ _ _ (jf (Bs.ms d2c) (Bs.sl U2 .arg Wb) ym ym) ?_
 rintro u CN⟨hu,rfl⟩
 cases hu
 have aF:(1≠0)=True:=by decide
 obtain⟨o,WU⟩:∃o,o=o5 Wb V:=⟨_,rfl⟩
 obtain⟨q0,Cn⟩:∃q0,q0=q5 c1 c2 c3 c4 fb:=⟨_,rfl⟩
 have W6:[T.ax c1 0 Wb.length 1,.ax c2 0 Wb.length 1,.ax c3 0 Wb.length 1,.ax c4 0 Wb.length 1,.ax fb 0 V.length 1]=qC q0 o:=by rw[Cn,WU];rfl
 obtain⟨yn,P9⟩:∃yn,yn=CN++[B.cells (qC q0 o)]:=⟨_,rfl⟩
 have zB:Ext CN yn:=⟨_,P9⟩
 have VH:∀j,j<4→o j=Wb:=fun j hj=>by rw[WU];exact if_pos hj
 have o_4:o 4=V:=by rw[WU];rfl
 have lc1:=aY d1
 have yh:=aY d2
 have lfb:=aY d9
 have lc3:=aY d3
 have lc4:=aY d4
 have n67:=pX.len
 have agA:=jL.len
 have ac2:=mE.len
 have ac3:=kr.len
 have n79:=CB.len
 have n56:=sy.len
 have h5:Q5 yn yn (fun b=>b=c1∨b=c2∨b=c3∨b=c4∨b=fb∨b=CN.length) CN.length q0 o:=by
  refine⟨by rw[P9];exact aO rfl,fun j hj=>?_,fun i j hi hj e=>?_,fun j hj=>?_,fun j hj=>?_,.inl (by simp),bm.refl _ _⟩
  ·rw[Cn,WU]
   match j,hj with
   | 0,_=>exact zB.get d1c
   | 1,_=>exact zB.get d2c
   | 2,_=>exact zB.get d3b
   | 3,_=>exact zB.get d4
   | 4,_=>exact zB.get d9c
  ·rw[Cn]at e
   have jR:i=0∨i=1∨i=2∨i=3∨i=4:=by omega
   have y6:j=0∨j=1∨j=2∨j=3∨j=4:=by omega
   rcases jR with rfl|rfl|rfl|rfl|rfl<;>rcases y6 with rfl|rfl|rfl|rfl|rfl<;>first|rfl|(exfalso;simp -implicitDefEqProofs only[q5]at e;omega)
  ·rw[Cn]
   have y6:j=0∨j=1∨j=2∨j=3∨j=4:=by omega
   rcases y6 with rfl|rfl|rfl|rfl|rfl<;>simp -implicitDefEqProofs only[q5]<;>omega
  ·rw[Cn]
   have y6:j=0∨j=1∨j=2∨j=3∨j=4:=by omega
   rcases y6 with rfl|rfl|rfl|rfl|rfl<;>simp[q5]
 have hP0:P1 Wb.length o o 0 0:=⟨fun j h=>absurd h (by omega),by simp[ov],fun j _=>rfl⟩
 have a1n:gO yn b1 a F1 (dh ops):=a1.ext (MF.trans (oE.trans zB))
 have a2n:gO yn b2 (cQ 5 a) F2 N.length:=(a2.ext mF).ext (oE.trans zB)
 have VI:∀{Hx:af},bm (fun b=>b=c1∨b=c2∨b=c3∨b=c4∨b=fb∨b=CN.length) yn Hx→gO Hx b1 a F1 (dh ops)∧gO Hx b2 (cQ 5 a) F2 N.length:=fun hf =>
  ⟨a1n.jv hf fun c hc _ hg=>by have:=(My.new c hc).2;omega,a2n.jv hf fun c hc _ hg=>by have:=ME.new c hc;omega⟩
 simp -implicitDefEqProofs only[op,ef,cl,sq,reduceIte,q6,q7,q9,j1,j2,j3,j4,j5,j6,S1]
 simp -implicitDefEqProofs only[aF,if_true,List.flatten_cons,List.flatten_nil,List.cons_append,List.nil_append,List.append_nil,W6,op,ef,cl,sq,reduceIte,q6,q7,q9,j1,j2,j3,j4,j5,j6,S1]
 rw[←P9]
 generalize CN.length=AL at *
 have nWb:Wb.length≤2147483651:=by omega
 refine W.eZ 0 [(11,_),(18,_),(20,_),(21,_),(22,_),(27,_)] (fun (i:Nat) R H'=>At H' (fun H'=>∃q ct,Q5 yn H' (fun b=>b=c1∨b=c2∨b=c3∨b=c4∨b=fb∨b=AL) AL q ct∧P1 Wb.length o ct i 0)∧R 28=.int .i64 i∧i≤5) (fun i=>5-i) 0
  (fun R H'=>At H' (fun H'=>∃q ct,Q5 yn H' (fun b=>b=c1∨b=c2∨b=c3∨b=c4∨b=fb∨b=AL) AL q ct∧P1 Wb.length o ct 5 0)) ⟨.i ⟨q0,o,h5,hP0⟩,rfl,Nat.zero_le _⟩ ?_ ?_
 ·rintro i R H17⟨⟨q,ct,h5,hP⟩,VJ,hi⟩
  by_cases aw:i<5
  rotate_left
  ·have lu:i=5:=by omega
   subst lu
   have e5:decide (((5:Nat):Int)<((5:Nat):Int))=false:=by decide
   simp -implicitDefEqProofs only[aq,ah,op,ef,cl,sq,reduceIte,q6,q7,q9,j1,j2,j3,j4,j5,j6,S1,VJ,e5,aw,cS]
   exact .i ⟨q,ct,h5,hP⟩
  have mR:=aC (show i<9223372036854775807 by omega)
  simp -implicitDefEqProofs only[aq,ah,op,ef,cl,sq,reduceIte,q6,q7,q9,j1,j2,j3,j4,j5,j6,S1,VJ,aw]
  refine W.eZ 2 [(11,_),(18,_),(20,_),(21,_),(22,_),(27,_),(28,_)] (fun (kk:Nat) R H'=>At H' (fun H'=>∃q ct,Q5 yn H' (fun b=>b=c1∨b=c2∨b=c3∨b=c4∨b=fb∨b=AL) AL q ct∧P1 Wb.length o ct i kk)∧R 29=.int .i64 kk∧kk≤Wb.length) (fun kk=>Wb.length-kk) 0
   (fun R H'=>At H' (fun H'=>∃q ct,Q5 yn H' (fun b=>b=c1∨b=c2∨b=c3∨b=c4∨b=fb∨b=AL) AL q ct∧P1 Wb.length o ct i Wb.length)) ⟨.i ⟨q,ct,h5,hP⟩,rfl,Nat.zero_le _⟩ ?_ ?_
  ·rintro kk Ra VK⟨⟨q,ct,h5,hP⟩,g29,hk⟩
   by_cases iG:kk<Wb.length
   rotate_left
   ·have zN:kk=Wb.length:=by omega
    subst zN
    simp -implicitDefEqProofs only[aq,ah,op,ef,cl,sq,reduceIte,q6,q7,q9,j1,j2,j3,j4,j5,j6,S1,VJ,g29,iG,cS]
    exact .i ⟨q,ct,h5,hP⟩
   have oil:Wb.length≤(o i).length:=by
    by_cases h4:i<4
    ·rw[VH i h4];exact Nat.le_refl _
    ·rw[show i=4 by omega,o_4,hVl];omega
   have ctl:(ct i).length=(o i).length:=by rw[hP.2.1];exact P4 (by omega)
   have hkc:kk<(ct i).length:=by omega
   obtain⟨x,hx⟩:=cw hkc
   have QS:=aC (show kk<9223372036854775807 by omega)
   have wi:IntKind.i64.wrap (1+(i:Int))=((1+i:Nat):Int):=by rw[wrap64 (by omega)];omega
   have w8i:IntKind.u8.wrap ((1+i:Nat):Int)=((1+i:Nat):Int):=by rw[nn,Nat.mod_eq_of_lt (by omega)]
   have iA:dw 1 i (.ax AL 0 5 1)=some (.ptr AL i):=by rw[fL,if_pos aw,if_neg (by decide)];simp
   have lA:=zz (q:=q) (ct:=ct) aw
   have iK:dw 1 kk (.ax (q i) 0 (ct i).length 1)=some (.ptr (q i) (kk*1+0)):=by rw[fL,if_pos hkc,if_neg (by decide)];simp
   have sK:∀Hx,nV Hx (q i) [T.int .u8 ((1+i:Nat):Int)] (kk*1+0) (some (.cells (aE eB (ct i))))=some (Hx.set (q i) (.cells (aE eB ((ct i).set kk (1+i))))):=fun Hx=>ke (enc:=eB) (n:=1) (fun _=>rfl) (y:=1+i) hx Hx (q i) _ 0 (Nat.le_refl _) rfl
   have dq:=h5.at_ i aw
   have dA:=h5.al
   simp -implicitDefEqProofs only[aq,ah,op,ef,cl,sq,reduceIte,q6,q7,q9,j1,j2,j3,j4,j5,j6,S1,VJ,g29,iG,aa,iA,dA,lA,wi,w8i,iK,dq,sK,QS]
   exact⟨kk+1,by omega,.i ⟨q,_,h5.wr aw (by rw[List.length_set]),hP.set (by omega)⟩,rfl,iG⟩
  rintro Ra VK⟨q,ct,h5,hP⟩
  simp -implicitDefEqProofs only[aq,ah,op,ef,cl,sq,reduceIte,q6,q7,q9,j1,j2,j3,j4,j5,j6,S1,VJ,mR]
  exact⟨i+1,by omega,.i ⟨q,ct,h5,hP.next⟩,rfl,aw⟩
 rintro Rb H17⟨q,ct,h5,hP⟩
 have hP2:=P2.of hP fun j hj=>by rw[VH j hj]
 simp -implicitDefEqProofs only[aq,ah,op,ef,cl,sq,reduceIte,q6,q7,q9,j1,j2,j3,j4,j5,j6,S1]
 refine W.eZ 4 [(11,_),(18,_),(20,_),(21,_),(22,_),(27,_)] (fun (i:Nat) R H'=>At H' (fun H'=>∃q ct,Q5 yn H' (fun b=>b=c1∨b=c2∨b=c3∨b=c4∨b=fb∨b=AL) AL q ct∧P2 Wb.length ct i 0)∧R 30=.int .i64 i∧i≤4) (fun i=>4-i) 0
  (fun R H'=>At H' (fun H'=>∃q ct,Q5 yn H' (fun b=>b=c1∨b=c2∨b=c3∨b=c4∨b=fb∨b=AL) AL q ct∧P2 Wb.length ct 4 0)) ⟨.i ⟨q,ct,h5,hP2⟩,rfl,Nat.zero_le _⟩ ?_ ?_
 ·rintro i R VK⟨⟨q,ct,h5,hP⟩,VL,hi⟩
  by_cases aw:i<4
  rotate_left
  ·have lu:i=4:=by omega
   subst lu
   have e4:decide (((4:Nat):Int)<4)=false:=by decide
   simp -implicitDefEqProofs only[aq,ah,op,ef,cl,sq,reduceIte,q6,q7,q9,j1,j2,j3,j4,j5,j6,S1,VL,e4,cS]
   exact .i ⟨q,ct,h5,hP⟩
  have e4:decide ((i:Int)<4)=true:=by simp;omega
  have mR:=aC (show i<9223372036854775807 by omega)
  simp -implicitDefEqProofs only[aq,ah,op,ef,cl,sq,reduceIte,q6,q7,q9,j1,j2,j3,j4,j5,j6,S1,VL,e4]
  refine W.eZ 6 [(11,_),(18,_),(20,_),(21,_),(22,_),(27,_),(30,_)] (fun (kk:Nat) R H'=>At H' (fun H'=>∃q ct,Q5 yn H' (fun b=>b=c1∨b=c2∨b=c3∨b=c4∨b=fb∨b=AL) AL q ct∧P2 Wb.length ct i kk)∧R 31=.int .i64 kk∧kk≤80) (fun kk=>80-kk) 0
   (fun R H'=>At H' (fun H'=>∃q ct,Q5 yn H' (fun b=>b=c1∨b=c2∨b=c3∨b=c4∨b=fb∨b=AL) AL q ct∧P2 Wb.length ct i 80)) ⟨.i ⟨q,ct,h5,hP⟩,rfl,Nat.zero_le _⟩ ?_ ?_
  ·rintro kk Ra MG⟨⟨q,ct,h5,hP⟩,g31,hk⟩
   by_cases iG:kk<80
   rotate_left
   ·have zN:kk=80:=by omega
    subst zN
    have e8:decide (((80:Nat):Int)<80)=false:=by decide
    simp -implicitDefEqProofs only[aq,ah,op,ef,cl,sq,reduceIte,q6,q7,q9,j1,j2,j3,j4,j5,j6,S1,VL,g31,e8,cS]
    exact .i ⟨q,ct,h5,hP⟩
   have e8:decide ((kk:Int)<80)=true:=by simp;omega
   have QS:=aC (show kk<9223372036854775807 by omega)
   have Hi:i<5:=by omega
   have ctl:(ct i).length=Wb.length+kk:=by rw[hP.2.1 aw,HI]
   have wi:IntKind.i64.wrap (101+(i:Int))=((101+i:Nat):Int):=by rw[wrap64 (by omega)];omega
   have w8i:IntKind.u8.wrap ((101+i:Nat):Int)=((101+i:Nat):Int):=by rw[nn,Nat.mod_eq_of_lt (by omega)]
   have iA:dw 1 i (.ax AL 0 5 1)=some (.ptr AL i):=by rw[fL,if_pos Hi,if_neg (by decide)];simp
   have lA:=zz (q:=q) (ct:=ct) Hi
   have dq:=h5.at_ i Hi
   have dA:=h5.al
   have sm:uF (.ax (q i) 0 (ct i).length 1)=.ax (q i) 0 (ct i).length 1:=rfl
   have ap:=aby (101+i) dq (by omega)
   have dA2:(MG.set (q i) B.dead++[B.cells (aE eB (ct i++[101+i]))])[AL]?=some (.cells (qC q ct)):=by
    rw[aQ (by rw[List.length_set];exact aY dA),bj (h5.ne i Hi)];exact dA
   have sA:=fun Hx=>P0 (q:=q) (ct:=ct) (AL:=AL) Hi Hx MG.length (ct i++[101+i])
   simp -implicitDefEqProofs only[aq,ah,op,ef,cl,sq,reduceIte,q6,q7,q9,j1,j2,j3,j4,j5,j6,S1,VL,g31,e8,aa,iA,dA,lA,wi,w8i,sm,ap,dA2,sA,QS]
   exact⟨kk+1,by omega,.i ⟨_,_,h5.app Hi (101+i),hP.app aw⟩,rfl,iG⟩
  rintro Ra MG⟨q,ct,h5,hP⟩
  simp -implicitDefEqProofs only[aq,ah,op,ef,cl,sq,reduceIte,q6,q7,q9,j1,j2,j3,j4,j5,j6,S1,VL,mR]
  exact⟨i+1,by omega,.i ⟨q,ct,h5,hP.next⟩,rfl,aw⟩
 rintro Rc VK⟨q,ct,h5,hP⟩
 have hf:∀j,j<4→ct j=fF Wb.length j 80:=fun j hj=>hP.1 j hj hj
 simp -implicitDefEqProofs only[aq,ah,op,ef,cl,sq,reduceIte,q6,q7,q9,j1,j2,j3,j4,j5,j6,S1]
 refine W.eZ 8 [(11,_),(18,_),(20,_),(21,_),(22,_),(27,_)] (fun (i:Nat) R H'=>H'=VK∧R 32=.int .i64 i∧i≤4) (fun i=>4-i) 0
  (fun R H'=>H'=VK) ⟨rfl,rfl,Nat.zero_le _⟩ ?_ ?_
 ·rintro i R MG⟨Qa,Im,hi⟩
  subst Qa
  by_cases aw:i<4
  rotate_left
  ·have lu:i=4:=by omega
   subst lu
   have e4:decide (((4:Nat):Int)<4)=false:=by decide
   simp -implicitDefEqProofs only[aq,ah,op,ef,cl,sq,reduceIte,q6,q7,q9,j1,j2,j3,j4,j5,j6,S1,Im,e4,cS]
  have e4:decide ((i:Int)<4)=true:=by simp;omega
  have mR:=aC (show i<9223372036854775807 by omega)
  have Hi:i<5:=by omega
  have iA:dw 1 i (.ax AL 0 5 1)=some (.ptr AL i):=by rw[fL,if_pos Hi,if_neg (by decide)];simp
  have lA:=zz (q:=q) (ct:=ct) Hi
  have dq:=h5.at_ i Hi
  have dA:=h5.al
  have ctl:(ct i).length=Wb.length+80:=by rw[hf i aw,HI]
  have wi1:IntKind.i64.wrap (1+(i:Int))=((1+i:Nat):Int):=by rw[wrap64 (by omega)];omega
  have w81:IntKind.u8.wrap ((1+i:Nat):Int)=((1+i:Nat):Int):=by rw[nn,Nat.mod_eq_of_lt (by omega)]
  have wi2:IntKind.i64.wrap (101+(i:Int))=((101+i:Nat):Int):=by rw[wrap64 (by omega)];omega
  have w82:IntKind.u8.wrap ((101+i:Nat):Int)=((101+i:Nat):Int):=by rw[nn,Nat.mod_eq_of_lt (by omega)]
  simp -implicitDefEqProofs only[aq,ah,op,ef,cl,sq,reduceIte,q6,q7,q9,j1,j2,j3,j4,j5,j6,S1,Im,e4]
  refine W.eZ 10 [(11,_),(18,_),(20,_),(21,_),(22,_),(27,_),(32,_)] (fun (kk:Nat) R H'=>H'=MG∧R 33=.int .i64 kk∧kk≤(ct i).length) (fun kk=>(ct i).length-kk) 0
   (fun R H'=>H'=MG) ⟨rfl,rfl,Nat.zero_le _⟩ ?_ ?_
  ·rintro kk Ra WV⟨Qb,g33,hk⟩
   subst Qb
   by_cases iG:kk<(ct i).length
   rotate_left
   ·have zN:kk=(ct i).length:=by omega
    subst zN
    simp -implicitDefEqProofs only[aq,ah,op,ef,cl,sq,reduceIte,q6,q7,q9,j1,j2,j3,j4,j5,j6,S1,Im,g33,aa,iA,dA,lA,iG,cS]
   have QS:=aC (show kk<9223372036854775807 by omega)
   have hx:=P6 (n:=Wb.length) (j:=i) (k:=80) (p:=kk) (by omega)
   rw[←hf i aw]at hx
   have iK:dw 1 kk (.ax (q i) 0 (ct i).length 1)=some (.ptr (q i) (kk*1+0)):=by rw[fL,if_pos iG,if_neg (by decide)];simp
   by_cases mQ:kk<Wb.length
   ·rw[if_pos mQ]at hx
    have lK:ph 1 (kk*1+0) (some (.cells (aE eB (ct i))))=some [T.int .u8 ((1+i:Nat):Int)]:=gb (enc:=eB) (n:=1) (fun _=>rfl) hx 0 1 (by decide)
    have ge:decide ((kk:Int)≥(Wb.length:Int))=false:=by simp;omega
    simp -implicitDefEqProofs only[aq,ah,op,ef,cl,sq,reduceIte,q6,q7,q9,j1,j2,j3,j4,j5,j6,S1,Im,g33,aa,iA,dA,lA,iG,mQ,iK,dq,lK,wi1,w81,ge,QS]
    exact⟨kk+1,by omega,rfl,iG⟩
   ·rw[if_neg mQ]at hx
    have lK:ph 1 (kk*1+0) (some (.cells (aE eB (ct i))))=some [T.int .u8 ((101+i:Nat):Int)]:=gb (enc:=eB) (n:=1) (fun _=>rfl) hx 0 1 (by decide)
    have ge:decide ((kk:Int)≥(Wb.length:Int))=true:=by simp;omega
    simp -implicitDefEqProofs only[aq,ah,op,ef,cl,sq,reduceIte,q6,q7,q9,j1,j2,j3,j4,j5,j6,S1,Im,g33,aa,iA,dA,lA,iG,mQ,iK,dq,lK,wi2,w82,ge,QS]
    exact⟨kk+1,by omega,rfl,iG⟩
  rintro Ra WV Qb
  subst Qb
  simp -implicitDefEqProofs only[aq,ah,op,ef,cl,sq,reduceIte,q6,q7,q9,j1,j2,j3,j4,j5,j6,S1,Im,mR]
  exact⟨i+1,by omega,rfl,aw⟩
 rintro Rd MG Qa
 subst Qa
 obtain⟨a1f,a2f⟩:=VI h5.jv
 simp -implicitDefEqProofs only[aq,ah,op,ef,cl,sq,reduceIte,q6,q7,q9,j1,j2,j3,j4,j5,j6,S1]
 refine ae _ _ _ _ _ _ _ _ (VF a2f) ?_
 rintro u WV⟨Lm,c6,_,hu,d6⟩
 cases hu
 have Lm:Ext MG WV:=Lm
 simp -implicitDefEqProofs only[op,ef,cl,sq,reduceIte,q6,q7,q9,j1,j2,j3,j4,j5,j6,S1]
 refine ae _ _ _ _ _ _ _ _ (WS (a1f.ext Lm)) ?_
 rintro u H21⟨Ln,c7,_,hu,d7⟩
 cases hu
 have Ln:Ext WV H21:=Ln
 simp -implicitDefEqProofs only[op,ef,cl,sq,reduceIte,q6,q7,q9,j1,j2,j3,j4,j5,j6,S1]
 refine ae _ _ _ _ _ _ _ _ (jf (Bs.ms (Ln.get d6)) (Bs.sl H21 .arg Wb) ym ym) ?_
 rintro u H22⟨hu,rfl⟩
 cases hu
 simp -implicitDefEqProofs only[op,ef,cl,sq,reduceIte,q6,q7,q9,j1,j2,j3,j4,j5,j6,S1]
 refine ae _ _ _ _ _ _ _ _ (jf (Bs.ms d7) (Bs.sl H22 .arg Wb) ym ym) ?_
 rintro u H23⟨hu,rfl⟩
 cases hu
 simp -implicitDefEqProofs only[op,ef,cl,sq,reduceIte,q6,q7,q9,j1,j2,j3,j4,j5,j6,S1]
 refine ae _ _ _ _ _ _ _ _ (AQ ((a2f.ext Lm).ext Ln) (by omega)) ?_
 rintro u H24⟨agN,k24,N24,_,abK,_,hu⟩
 cases hu
 rw[abK.uniq WR,keA]
 simp -implicitDefEqProofs only[op,ef,cl,sq,reduceIte,q6,q7,q9,j1,j2,j3,j4,j5,j6,S1]
 refine ae _ _ _ _ _ _ _ _ (PT k11 k24 (N.map (bT (cQ 5 a))) (N.map (bT (cQ 5 a))) true rfl (by rw[List.length_map];omega) (CM _) (PU V0 WR) _) ?_
 rintro u H25⟨hu,_⟩
 cases hu
 simp -implicitDefEqProofs only[op,ef,cl,sq,reduceIte,q6,q7,q9,j1,j2,j3,j4,j5,j6,S1]
end Go.Proofs.YtdcpehdijdllpaaGreat.St
end

section
namespace Go.Proofs.YtdcpehdijdllpaaGreat
open Go.ChangeShapes Go.WideShapes Go.ChangeAt Go.RowKit
namespace Law
theorem own:ownKnob Tryz.prog.godebug=none:=by kernel_rfl
theorem kids:Kids Tryz.prog (·<Tryz.prog.types.size):=kids_rows (by kernel_rfl) (by kernel_rfl)
noncomputable def hzB:Bool:=(List.range Tryz.prog.types.size).all fun t=>match Tryz.prog.underlying t with
 | some (.slice e)=>decide (0<Tryz.prog.cellsOf e)
 | _=>true
theorem Qc:hzB=true:=by kernel_rfl
theorem hz:∀t e,t<Tryz.prog.types.size→Tryz.prog.underlying t=some (.slice e)→0<Tryz.prog.cellsOf e:=fun t e ht h=>by
 have:=(List.all_eq_true.1 Qc) t (List.mem_range.2 ht)
 rw[h]at this
 simpa using this
mutual
theorem qz {H:Type}:∀d:DataW H,Go.Rmp.bZ d=Rows.uptoBulk d
 | .lit l=>by cases l<;>simp[Go.Rmp.bZ,Rows.uptoBulk]
 | .nil=>by simp[Go.Rmp.bZ,Rows.uptoBulk]
 | .ptr d=>by simp[Go.Rmp.bZ,Rows.uptoBulk,qz d]
 | .slice elems spare=>by simp[Go.Rmp.bZ,Rows.uptoBulk,lQ elems,lQ spare]
 | .agg parts=>by simp[Go.Rmp.bZ,Rows.uptoBulk,lQ parts]
 | .iface _ d=>by simp[Go.Rmp.bZ,Rows.uptoBulk,qz d]
 | .map entries=>by simp[Go.Rmp.bZ,Rows.uptoBulk,x8 entries]
 | .held _=>by simp[Go.Rmp.bZ,Rows.uptoBulk]
theorem lQ {H:Type}:∀l:List (DataW H),Go.Rmp.bS l=Rows.uptoBulkAll l
 | []=>by simp[Go.Rmp.bS,Rows.uptoBulkAll]
 | d :: r=>by simp[Go.Rmp.bS,Rows.uptoBulkAll,qz d,lQ r]
theorem x8 {H:Type}:∀l:List (Lit×DataW H),Go.Rmp.fA l=Rows.uptoBulkEntries l
 | []=>by simp[Go.Rmp.fA,Rows.uptoBulkEntries]
 | x :: r=>by simp[Go.Rmp.fA,Rows.uptoBulkEntries,CO x,x8 r]
theorem CO {H:Type}:∀x:Lit×DataW H,Go.Rmp.m9 x=Rows.uptoBulkEntry x
 | (l,d)=>by cases l<;>simp[Go.Rmp.m9,Rows.uptoBulkEntry,qz d]
end
theorem Lo {H:Type}{ds:List (DataW H)}(h:Rows.uptoSmall H ds=true):Go.Rmp.bS ds≤1048576:=by
 rw[lQ];simpa[Rows.uptoSmall]using h
theorem Lp {B:Nat}{t:Go.Rmp.T}(h:Go.Rmp.dY B .str t):∃s,t=.str s∧s.size≤B:=by
 cases h with|str h hB=>exact⟨_,rfl,hB⟩
theorem VM {B:Nat}{t:Go.Rmp.T}(h:Go.Rmp.dY B (.int .i64) t):∃n:Int,t=.int .i64 n∧-9223372036854775808≤n∧n<9223372036854775808:=by
 cases h with|int h =>
  rename_i n
  exact⟨n,rfl,by simp -implicitDefEqProofs only[Lit.wf,IntKind.min,IntKind.max,IntKind.signed,IntKind.bits]at h;simp at h;omega⟩
theorem abL {B:Nat}{t:Go.Rmp.T}(h:Go.Rmp.dY B (.int .u64) t):∃n:Nat,t=.int .u64 n∧n<18446744073709551616:=by
 cases h with|int h =>
  rename_i n
  simp -implicitDefEqProofs only[Lit.wf,IntKind.min,IntKind.max,IntKind.signed,IntKind.bits]at h
  simp at h
  exact⟨n.toNat,by congr 1;omega,by omega⟩
theorem VN {B:Nat}{t:Go.Rmp.T}(h:Go.Rmp.dY B (.int .u8) t):∃n:Nat,t=.int .u8 n∧n<256:=by
 cases h with|int h =>
  rename_i n
  simp -implicitDefEqProofs only[Lit.wf,IntKind.min,IntKind.max,IntKind.signed,IntKind.bits]at h
  simp at h
  exact⟨n.toNat,by congr 1;omega,by omega⟩
end Law
namespace St
open Go.Rmp
theorem vU {α:Type}{P:α→Prop}(enc:α→List T)(es:List (List T))(h:∀c∈es,∃x,c=enc x∧P x):∃l:List α,es=l.map enc∧∀x∈l,P x:=by
 induction es with
 | nil=>exact⟨[],rfl,by simp⟩
 | cons c es ih =>
  obtain⟨l,rfl,hl⟩:=ih (fun c hc=>h c (List.mem_cons_of_mem _ hc))
  obtain⟨x,rfl,hx⟩:=h _ List.mem_cons_self
  exact⟨x :: l,rfl,fun y hy=>by rcases List.mem_cons.1 hy with rfl|hy;exact hx;exact hl y hy⟩
theorem VO {B:Nat}{t:T}(h:dY B (.sl [.str]) t):∃k l,t=.sl k (List.map eS l)∧iD k l∧l.length≤B:=by
 cases h with
 | nil=>exact⟨.nil,[],rfl,fun _=>rfl,Nat.zero_le _⟩
 | sl hl hB h0 h =>
  rename_i es
  obtain⟨l,rfl,_⟩:=vU (P:=fun _=>True) eS es fun c hc=>by
   have jl:=h0 c hc
   match c,jl with
   | [a],_=>obtain⟨s,rfl,_⟩:=Law.Lp (h _ hc 0 .str a rfl rfl);exact⟨s,rfl,trivial⟩
  exact⟨.arg,l,rfl,fun h=>(by cases h),by simpa using hB⟩
theorem VP {B:Nat}{t:T}(h:dY B (.sl [.str,.str]) t):∃(k:SK) (l:List (ByteArray×ByteArray)),t=.sl k (l.map eP)∧l.length≤B:=by
 cases h with
 | nil=>exact⟨.nil,[],rfl,Nat.zero_le _⟩
 | sl hl hB h0 h =>
  rename_i es
  obtain⟨l,rfl,_⟩:=vU (P:=fun _=>True) eP es fun c hc=>by
   have jl:=h0 c hc
   match c,jl with
   | [a,b],_ =>
    obtain⟨s,rfl,_⟩:=Law.Lp (h _ hc 0 .str a rfl rfl)
    obtain⟨s',rfl,_⟩:=Law.Lp (h _ hc 1 .str b rfl rfl)
    exact⟨(s,s'),rfl,trivial⟩
  exact⟨.arg,l,rfl,by simpa using hB⟩
theorem VQ {t:T}(h:dY 1048576 (.sl [.int .i64,.int .u64,.str,.sl [.str,.str],.sl [.str],.int .i64]) t):∃(k:SK) (l:List qy),t=.sl k (l.map eO)∧l.length≤1048576∧∀o∈l,zu o:=by
 cases h with
 | nil=>exact⟨.nil,[],rfl,Nat.zero_le _,by simp⟩
 | sl hl hB h0 h =>
  rename_i es
  obtain⟨l,rfl,hP⟩:=vU (P:=fun o:qy=>zu o) eO es fun c hc=>by
   have jl:=h0 c hc
   match c,jl with
   | [a,b,c,d,e,f],_ =>
    obtain⟨z,rfl,_⟩:=Law.VM (h _ hc 0 (.int .i64) a rfl rfl)
    obtain⟨n,rfl,hn⟩:=Law.abL (h _ hc 1 (.int .u64) b rfl rfl)
    obtain⟨s,rfl,_⟩:=Law.Lp (h _ hc 2 .str c rfl rfl)
    obtain⟨k,l,rfl,yc⟩:=VP (h _ hc 3 (.sl [.str,.str]) d rfl rfl)
    obtain⟨k',l',rfl,hk,hl⟩:=VO (h _ hc 4 (.sl [.str]) e rfl rfl)
    obtain⟨z',rfl,_⟩:=Law.VM (h _ hc 5 (.int .i64) f rfl rfl)
    exact⟨⟨z,n,s,k,l,k',l',z'⟩,rfl,hk,hl,yc,hn⟩
  exact⟨.arg,l,rfl,by simpa using hB,hP⟩
theorem HK:∀l:List qy,Is l≤C2 (l.map eO)
 | []=>Nat.zero_le _
 | o :: l=>by
  have h1:=HK l
  have h2:∀ps:List (ByteArray×ByteArray),(ps.map fun p=>p.1.size+p.2.size+2).sum≤C2 (ps.map eP):=fun ps=>by
   induction ps with
   | nil=>exact Nat.zero_le _
   | cons p ps ih=>simp -implicitDefEqProofs only[List.map_cons,List.sum_cons,C2,eP,pd,T.bk];omega
  have h3:=h2 o.jd
  have h4:∀ks:List ByteArray,(ks.map fun k=>k.size+1).sum≤C2 (ks.map eS):=fun ks=>by
   induction ks with
   | nil=>exact Nat.zero_le _
   | cons p ps ih=>simp -implicitDefEqProofs only[List.map_cons,List.sum_cons,C2,eS,pd,T.bk];omega
  have h5:=h4 o.keys
  have e:Is (o :: l)=bo o+Is l:=by simp[Is]
  rw[e]
  unfold bo
  simp -implicitDefEqProofs only[List.map_cons,C2,eO,pd,T.bk]
  omega
theorem Qd {B:Nat}{t:T}(h:dY B (.sl [.int .u8]) t):∃k l,t=.sl k (List.map eB l)∧iD k l∧l.length≤B∧dG l:=by
 cases h with
 | nil=>exact⟨.nil,[],rfl,fun _=>rfl,Nat.zero_le _,fun x hx=>by simp at hx⟩
 | sl hl hB h0 h =>
  rename_i es
  obtain⟨l,rfl,hP⟩:=vU (P:=fun s:Nat=>s<256) eB es fun c hc=>by
   have jl:=h0 c hc
   match c,jl with
   | [a],_=>obtain⟨s,rfl,hs⟩:=Law.VN (h _ hc 0 (.int .u8) a rfl rfl);exact⟨s,rfl,hs⟩
  exact⟨.arg,l,rfl,fun h=>(by cases h),by simpa using hB,hP⟩
end St
namespace Law
theorem x9 (Qu:List Go.Rmp.T)(hs:Go.Rmp.pg 1048576 [Go.Rmp.Sh.sl [.int .i64,.int .u64,.str,.sl [.str,.str],.sl [.str],.int .i64],.sl [.int .u8]] Qu)(hb:Go.Rmp.pd Qu≤1048576):Go.Rmp.W Ir.env (.call 6 Qu) [] (fun o _=>o=.val (.bool true)):=by
 cases hs with|cons h1 hs =>
 cases hs with|cons h2 hs =>
 cases hs
 obtain⟨k,l,rfl,n1,n2⟩:=St.VQ h1
 obtain⟨kb,b,rfl,_,m1,m2⟩:=St.Qd h2
 have:=St.HK l
 simp -implicitDefEqProofs only[Go.Rmp.pd,Go.Rmp.T.bk]at hb
 exact St.P7 k l n2 (by omega) (by omega) kb b m2 (by omega) []
theorem vV (H:Type):∀ds:List (DataW H),ds.length=Tryz.f6.params.toList.length→Rows.snapWholeSpec.fn H ds={ results:=[.lit (.bool true)],args:=ds }:=by
 have hn:Tryz.f6.params.toList.length=2:=by kernel_rfl
 rw[hn]
 intro ds CW
 cases ds with|nil=>simp at CW|cons d0 ds =>
 cases ds with|nil=>simp at CW|cons d1 ds =>
 cases ds with|cons=>simp at CW|nil =>
 rfl
set_option maxRecDepth 100000 in
theorem pI (os:Os)(started:os.Started)(H:Type)(enc:TypeId×Value→H)(F:Stop.Interp) :
  ReturnsInHanded {} Tryz.checked os 6 .any ((Rows.OpenSpec.upto Rows.snapWholeSpec).pre6 enc Tryz.prog Tryz.f6 Rows.snapWholeUptoRow.domain false) (((Rows.OpenSpec.upto Rows.snapWholeSpec).at F).post enc Tryz.prog Tryz.f6 false true false false):=by
 refine returnsInHanded_of_cond (C:=Tryz.checked) (s:=Rows.OpenSpec.upto Rows.snapWholeSpec) (k:=Rows.uptoSmall) rfl own started (by kernel_rfl) Tryz.func6
  (OpenSpec.witness (enc:=enc) (C:=Tryz.checked) (s:=Rows.OpenSpec.upto Rows.snapWholeSpec) (k:=Rows.uptoSmall) rfl false ⟨#[],#[.slice .none 0 0,.slice .none 0 0],[]⟩ 8 (by kernel_rfl) (by kernel_rfl) (by kernel_rfl)
   (x:=([.nil,.nil],[],[])) (by kernel_rfl) rfl (by kernel_rfl)) ?_
 intro W base args ds gs before B5 hW _ hk _
 exact Go.Rmp.sS (s:=Rows.snapWholeSpec) (JN:=[Go.Rmp.Sh.sl [.int .i64,.int .u64,.str,.sl [.str,.str],.sl [.str],.int .i64],.sl [.int .u8]]) (B:=1048576) (tb:=Tryz.f6.resultTypes[0]!) Ir.Tq kids hz (by kernel_rfl) (by intro t ht;exact of_decide_eq_true ((List.all_eq_true.1 (show Tryz.f6.params.toList.all (fun t=>decide (t<Tryz.prog.types.size))=true by kernel_rfl)) t ht)) (by kernel_rfl) (by kernel_rfl) rfl (vV H) x9 base args ds gs before B5 hW (Lo hk)
theorem sf:Rows.snapWholeUptoRow.holds Tryz.pinned (Rows.OpenSpec.upto Rows.snapWholeSpec) :=
 OpenClaim.holds_of_cond 6 Tryz.f6 rfl rfl rfl rfl rfl rfl rfl ⟨rfl,rfl,rfl,rfl,rfl⟩ rfl rfl rfl rfl rfl (by kernel_rfl) Tryz.func6 (by kernel_rfl)
  (of_decide_eq_true (by kernel_rfl)) (by unfold Func.isWrapper;first|(rw[if_pos (by decide +kernel)];kernel_rfl)|(rw[if_neg (by decide +kernel)];exact⟨rfl,rfl⟩))
  (fun os started H enc _ F=>pI os started H enc F)
theorem snapWhole_proved:Rows.SnapWholeUptoSaid:=sf
end Law
end Go.Proofs.YtdcpehdijdllpaaGreat
end
