/- Part of a proof of a law of this seat: the machine of plain values, its simulation, and the contracts of the functions that the law reaches. Conditions: none beyond the given row. -/
import Derived.Test.YtmgldhlcapjdkaaGreatM3
import Derived.Test.YtmgldhlcapjdkaaGreatRows
import Derived.WalkKit
import Derived.ProofKit
import Derived.OpenShut
import Derived.JoinedCond
import Derived.ChangeBears
open Int renaming reduceLT → q3, reduceLE → q4, reduceBEq → q5, reduceBNe → q6, reduceEq → q7
open Nat renaming reduceAdd → q9, reduceLeDiff → j3, reduceLT → j4, reduceEqDiff → j5
set_option linter.unusedSimpArgs false
set_option linter.unusedVariables false
set_option linter.unnecessarySimpa false
set_option maxHeartbeats 4000000
section
namespace Go.Proofs.YtmgldhlcapjdkaaGreat.St
open Go.Rmp Go.Proofs.YtmgldhlcapjdkaaGreat.Ir
set_option maxRecDepth 10000
theorem xQ {α:Type}{enc:α→List T}{n:Nat}(hn:∀x,(enc x).length=n){H:ae}{b:Nat}{xs:List α}(hb:H[b]?=some (.cells (aK enc xs))){m:Nat}(hm:m=xs.length):bl H n (.aB b 0 m n)=some (xs.map enc):=by
 subst hm
 have h:=(xI hn hb 0 xs.length xs.length 0 (by omega)).1
 rw[Nat.zero_mul,List.drop_zero,List.take_length]at h
 simp -implicitDefEqProofs only[fI,hb]at h
 simp -implicitDefEqProofs only[bl,hb];exact h
def zq (b h:Nat):List Nat:=[b/16777216%256,b/65536%256,b/256%256,b%256,h%256]
def xR (b h:Nat)(S:Nat→Bool):List Nat:=zq b h++fW S b
theorem Rf (n m:Nat):IntKind.u8.wrap ((n:Int).fdiv (2^m))=((n/2^m%256:Nat):Int):=by rw[NW,Ct]
theorem U0 (n:Nat):IntKind.u8.wrap ((n:Int).fdiv (2^(min (24:Int).toNat IntKind.i64.bits)))=((n/16777216%256:Nat):Int):=Rf n 24
theorem U1 (n:Nat):IntKind.u8.wrap ((n:Int).fdiv (2^(min (16:Int).toNat IntKind.i64.bits)))=((n/65536%256:Nat):Int):=Rf n 16
theorem U2 (n:Nat):IntKind.u8.wrap ((n:Int).fdiv (2^(min (8:Int).toNat IntKind.i64.bits)))=((n/256%256:Nat):Int):=Rf n 8
theorem tJ {H:ae}{bytes:Nat}(es new:List (List T))(hr:dv (es.length+new.length) bytes=true)(he:∀c∈new,c.map T.erase=c):∃k' H',jP H bytes .full es new=some (.sl k' (es++new),H')∧Ext H H'∧k'≠.nil:=by
 cases new with
 | nil=>exact⟨.full,H,by simp[jP],Ext.rfl',by simp⟩
 | cons c new =>
  refine⟨.own H.length (es.length+(c :: new).length),H++[.tok (es.length+(c :: new).length)],?_,Ext.rfl'.app _,by simp⟩
  unfold jP
  simp -implicitDefEqProofs only[hr,if_true]
  have e:(c :: new).map (fun x=>x.map T.erase)=c :: new:=(List.map_congr_left he).trans (List.map_id _)
  rw[e]
theorem tK {l:List Nat}:∀c∈l.map eB,c.map T.erase=c:=fun c hc=>by
 obtain⟨x,_,rfl⟩:=List.mem_map.1 hc;rfl
def bc (S:Nat→Bool)(n:Nat):Nat→Bool:=fun q=>S q&&decide (q<n)
theorem u1 (S:Nat→Bool){i:Nat}(hs:S i=true):CC (bc S i) i=bc S (i+1):=by
 funext q
 simp -implicitDefEqProofs only[CC,bc]
 by_cases h:q=i
 ·subst h;simp[hs]
 ·have e:decide (q<i+1)=decide (q<i):=by simp -implicitDefEqProofs only[decide_eq_decide];omega
  simp[h,e]
theorem u2 (S:Nat→Bool){i:Nat}(hs:S i=false):bc S (i+1)=bc S i:=by
 funext q
 simp -implicitDefEqProofs only[bc]
 by_cases h:q=i
 ·subst h;simp[hs]
 ·have e:decide (q<i+1)=decide (q<i):=by simp -implicitDefEqProofs only[decide_eq_decide];omega
  rw[e]
theorem u3 (S:Nat→Bool):bc S 0=fun _=>false:=by funext q;simp[bc]
set_option maxHeartbeats 1000000 in
theorem CF {H:ae}{bf w b h:Nat}{S:Nat→Bool}(hf:RF H bf w b h S)(b2:b≤65536):W env (.call 53 [.ptr bf 0]) H (fun o H'=>Ext H H'∧∃k,k≠.nil∧o=.val (.sl k ((xR b h (bc S b)).map eB))):=by
 refine W.cQ rfl rfl rfl ?_
 have sv:=Cz (b:=b) (by omega)
 have q1:(b+7)/8*1≤281474976710656:=by omega
 have q2:(b+7)/8≤9223372036854775807:=by omega
 simp -implicitDefEqProofs only[Iz,op,ef,cl,sq,reduceIte,q3,q4,q5,q6,q7,q9,j3,j4,j5,S1,S2,S3,hf.hb,U0,U1,U2,Ct,sv,aa,q1,q2,Nat.le_refl]
 obtain⟨H1,lT⟩:∃H1,H1=H++[B.cells (List.replicate ((b+7)/8) [T.int .u8 0]).flatten]:=⟨_,rfl⟩
 have cX:Ext H H1:=⟨_,lT⟩
 have c1:H1[H.length]?=some (.cells (aK eB (fW (fun _=>false) b))):=by
  rw[lT,bT rfl,xO];congr 2
  exact wj (enc:=eB) _ 0
 rw[←lT]
 have l5:=hf.ext cX
 refine W.ea [(0,_),(3,_),(4,_)] (fun (i:Nat) R H'=>At H' (fun H'=>H'[H.length]?=some (.cells (aK eB (fW (bc S i) b)))∧Ext H H')∧R 5=.int .i64 i∧i≤b) (fun i=>b-i) 0 ⟨.i ⟨by rw[u3];exact c1,cX⟩,rfl,Nat.zero_le _⟩ ?_
 rintro i R H2⟨⟨hc,hx⟩,g5,hi⟩
 have cR:=hf.ext hx
 by_cases aE:i<b
 rotate_left
 ·have l4:i=b:=by omega
  subst l4
  have Hu:=xQ uX hc (oQ (bc S i) i).symm
  obtain⟨k',H3,ha,cY,hk⟩:=tJ (H:=H2) (bytes:=1) ((zq i h).map eB) ((fW (bc S i) i).map eB) (fS (by simp -implicitDefEqProofs only[List.length_map,oQ,zq,List.length_cons,List.length_nil];omega)) tK
  have o6:jP H2 1 .full [[T.int .u8 ((i/16777216%256:Nat):Int)],[T.int .u8 ((i/65536%256:Nat):Int)],[T.int .u8 ((i/256%256:Nat):Int)],[T.int .u8 ((i%256:Nat):Int)],[T.int .u8 ((h%256:Nat):Int)]] ((fW (bc S i) i).map eB)=some (.sl k' ((zq i h).map eB++(fW (bc S i) i).map eB),H3):=ha
  simp -implicitDefEqProofs only[aA,aw,op,ef,cl,sq,reduceIte,q3,q4,q5,q6,q7,q9,j3,j4,j5,S1,g5,aE,cR.hb,Hu,o6]
  refine⟨hx.trans cY,k',hk,?_⟩
  rw[xR,List.map_append]
 have im:=tG (c:=w) aE
 have gg:=Fc (IS S aE)
 have qt:=aJ (show i<9223372036854775807 by omega)
 cases hs:S i
 ·rw[hs]at gg
  simp -implicitDefEqProofs only[aA,aw,op,ef,cl,sq,reduceIte,q3,q4,q5,q6,q7,q9,j3,j4,j5,S1,g5,aE,cR.hb,cR.hw,aa,im,gg,qt]
  exact⟨i+1,by omega,.i ⟨by rw[u2 S hs];exact hc,hx⟩,rfl,aE⟩
 rw[hs]at gg
 have q8:=M4 (p:=i) (by omega)
 have hj:i/8<(b+7)/8:=by omega
 have U3:=tG (c:=H.length) hj
 have hg:=wQ (bc S i) hj
 have g8:=Fa hg
 have ss:=fun (Hx:ae) y=>Fb hg Hx H.length y
 have ov:=or_val (p:=i) (tI (bc S i) (i/8))
 simp -implicitDefEqProofs only[aA,aw,op,ef,cl,sq,reduceIte,q3,q4,q5,q6,q7,q9,j3,j4,j5,S1,g5,aE,cR.hb,cR.hw,hc,aa,im,gg,q8,U3,g8,M3,ov,ss,qt]
 refine⟨i+1,by omega,.i ⟨?_,hx.set (Nat.le_refl _) _⟩,rfl,aE⟩
 rw[gh (bo hc),CE,u1 S hs]
end Go.Proofs.YtmgldhlcapjdkaaGreat.St
end

section
namespace Go.Proofs.YtmgldhlcapjdkaaGreat.St
open Go.Rmp Go.Proofs.YtmgldhlcapjdkaaGreat.Ir
set_option maxRecDepth 10000
structure dV where
 key:ByteArray
 id:Nat
 val:ByteArray
 cm:List Nat
def dG (kf:SK)(s:dV):List T:=[.str s.key,.int .u64 s.id,.str s.val,.sl kf (s.cm.map eB)]
theorem tL {F:Nat→Prop}{H H' x9:ae}(h:Ext H H')(hf:bX F H' x9)(hF:∀c,F c→H.length≤c):Ext H x9:=by
 refine⟨x9.drop H.length,?_⟩
 have hlen:=h.len
 have S5:=hf.1
 refine List.ext_getElem? fun i=>?_
 by_cases hi:i<H.length
 ·rw[List.getElem?_append_left hi,hf.2 i (by omega) fun hc=>by have:=hF i hc;omega]
  obtain⟨m,rfl⟩:=h
  rw[List.getElem?_append_left hi]
 ·rw[List.getElem?_append_right (by omega),List.getElem?_drop]
  congr 1;omega
end Go.Proofs.YtmgldhlcapjdkaaGreat.St
end

section
namespace Go.Proofs.YtmgldhlcapjdkaaGreat.St
open Go.Rmp Go.Proofs.YtmgldhlcapjdkaaGreat.Ir
set_option maxRecDepth 10000
def eF (bs:List Nat)(i:Nat):Nat:=bs.getD i 0
def Bytes (bs:List Nat):Prop:=∀x∈bs,x<256
theorem cn {bs:List Nat}(h:Bytes bs)(i:Nat):eF bs i<256:=by
 unfold eF
 rw[List.getD_eq_getElem?_getD]
 cases e:bs[i]? with
 | none=>decide
 | some x=>exact h x (List.mem_of_getElem? e)
theorem c8 {bs:List Nat}{i:Nat}(h:i<bs.length):bs[i]?=some (eF bs i):=by
 unfold eF
 rw[List.getD_eq_getElem?_getD,List.getElem?_eq_getElem h];rfl
def dH (bs:List Nat):Nat:=((eF bs 0*16777216 ||| eF bs 1*65536) ||| eF bs 2*256) ||| eF bs 3
def l6 (bs:List Nat):Nat:=eF bs 4
theorem u4 {a k x m:Nat}(hm:m=2^k)(h:x<m):a*m ||| x=a*m+x:=by
 subst hm
 rw[Nat.mul_comm]
 exact(Nat.two_pow_add_eq_or_of_lt h a).symm
theorem U4 {a b c d:Nat}(hb:b<256)(hc:c<256)(hd:d<256):((a*16777216 ||| b*65536) ||| c*256) ||| d=a*16777216+b*65536+c*256+d:=by
 rw[u4 (m:=16777216) (k:=24) (by decide) (by omega)]
 have e1:a*16777216+b*65536=(a*256+b)*65536:=by rw[Nat.add_mul,Nat.mul_assoc]
 rw[e1,u4 (m:=65536) (k:=16) (by decide) (by omega)]
 have e2:(a*256+b)*65536+c*256=((a*256+b)*256+c)*256:=by rw[Nat.add_mul _ c,Nat.mul_assoc]
 rw[e2,u4 (m:=256) (k:=8) (by decide) hd]
theorem CG {bs:List Nat}(h:Bytes bs):dH bs=eF bs 0*16777216+eF bs 1*65536+eF bs 2*256+eF bs 3:=U4 (cn h 1) (cn h 2) (cn h 3)
theorem IU {bs:List Nat}(h:Bytes bs):dH bs<4294967296:=by
 have h0:=cn h 0
 have h1:=cn h 1
 have h2:=cn h 2
 have h3:=cn h 3
 rw[CG h];omega
theorem ru {x m:Nat}(n:Int)(k:Nat)(hm:m=2^k)(hn:min n.toNat IntKind.i64.bits=k)(h:x*m<9223372036854775808):IntKind.i64.wrap (IntKind.i64.wrap (x:Int)*2^(min n.toNat IntKind.i64.bits))=((x*m:Nat):Int):=by
 have MU:1≤m:=by subst hm;exact Nat.two_pow_pos k
 have hx:x<9223372036854775808:=Nat.lt_of_le_of_lt (Nat.le_mul_of_pos_right x MU) h
 rw[hn,wrap64 (n:=(x:Int)) (by omega)]
 have e:(x:Int)*2^k=((x*m:Nat):Int):=by subst hm;simp
 rw[e,wrap64 (by omega)]
theorem IV {a b:Nat}(ha:a<9223372036854775808)(hb:b<9223372036854775808):IntKind.i64.wrap ((BitVec.ofInt IntKind.i64.bits (a:Int) ||| BitVec.ofInt IntKind.i64.bits (b:Int)).toNat:Nat)=((a ||| b:Nat):Int):=by
 have e:(BitVec.ofInt IntKind.i64.bits (a:Int) ||| BitVec.ofInt IntKind.i64.bits (b:Int)).toNat=a ||| b:=MZ 64 a b (by omega) (by omega)
 have hl:=Nat.or_lt_two_pow (n:=63) (x:=a) (y:=b) ha hb
 rw[e,wrap64 (by omega)]
theorem wR {bs:List Nat}(h:Bytes bs) :
  IntKind.i64.wrap ((BitVec.ofInt IntKind.i64.bits (IntKind.i64.wrap ((BitVec.ofInt IntKind.i64.bits (IntKind.i64.wrap ((BitVec.ofInt IntKind.i64.bits (IntKind.i64.wrap (IntKind.i64.wrap (eF bs 0:Int)*2^(min (24:Int).toNat IntKind.i64.bits))) ||| BitVec.ofInt IntKind.i64.bits (IntKind.i64.wrap (IntKind.i64.wrap (eF bs 1:Int)*2^(min (16:Int).toNat IntKind.i64.bits)))).toNat:Nat)) ||| BitVec.ofInt IntKind.i64.bits (IntKind.i64.wrap (IntKind.i64.wrap (eF bs 2:Int)*2^(min (8:Int).toNat IntKind.i64.bits)))).toNat:Nat)) ||| BitVec.ofInt IntKind.i64.bits (IntKind.i64.wrap (eF bs 3:Int))).toNat:Nat)=(dH bs:Int):=by
 have h0:=cn h 0
 have h1:=cn h 1
 have h2:=cn h 2
 have h3:=cn h 3
 have e3:IntKind.i64.wrap (eF bs 3:Int)=(eF bs 3:Int):=wrap64 (by omega)
 have o1:eF bs 0*16777216 ||| eF bs 1*65536<2^32:=Nat.or_lt_two_pow (n:=32) (by omega) (by omega)
 have o2:(eF bs 0*16777216 ||| eF bs 1*65536) ||| eF bs 2*256<2^32:=Nat.or_lt_two_pow (n:=32) o1 (by omega)
 rw[ru (m:=16777216) 24 24 rfl rfl (by omega),ru (m:=65536) 16 16 rfl rfl (by omega),ru (m:=256) 8 8 rfl rfl (by omega),e3,IV (by omega) (by omega),IV (by omega) (by omega),IV (by omega) (by omega)]
 rfl
def jU (bs:List Nat):Bool:=decide (dH bs%8=0)||decide (eF bs (bs.length-1)/2^(dH bs%8)=0)
def fA (bs:List Nat):Bool:=decide (5≤bs.length)&&lS (dH bs) (l6 bs)&&decide (bs.length=5+(dH bs+7)/8)&&jU bs
def iP (bs:List Nat)(q:Nat):Bool:=(eF bs (5+q/8)).testBit (q%8)
theorem mM {bs:List Nat}(h:Bytes bs)(hl:bs.length=5+(dH bs+7)/8):bs.drop 5=fW (iP bs) (dH bs):=by
 refine List.ext_getElem (by rw[List.length_drop,oQ];omega) fun i h1 h2=>?_
 rw[List.length_drop]at h1
 have hi:5+i<bs.length:=by omega
 have e1:(bs.drop 5)[i]'(by rw[List.length_drop];omega)=eF bs (5+i):=by
  rw[List.getElem_drop]
  have:=c8 hi
  rw[List.getElem?_eq_getElem hi]at this
  exact Option.some.inj this
 rw[e1]
 simp -implicitDefEqProofs only[fW,List.getElem_map,List.getElem_range]
 refine Nat.eq_of_testBit_eq fun j=>?_
 rw[kj,ew]
 by_cases hj:j<8
 ·have a1:(8*i+j)/8=i:=by omega
  have a2:(8*i+j)%8=j:=by omega
  simp -implicitDefEqProofs only[iP,a1,a2,hj,decide_true,Bool.true_and]
 ·have hb:=cn h (5+i)
  have:eF bs (5+i)<2^j:=Nat.lt_of_lt_of_le hb (by rw[show(256:Nat)=2^8 from rfl];exact Nat.pow_le_pow_right (by decide) (by omega))
  simp[Nat.testBit_lt_two_pow this,hj]
theorem IW {bs:List Nat}(h:Bytes bs)(hl:bs.length=5+(dH bs+7)/8)(h5:5≤bs.length)(ht:jU bs=true)(q:Nat)(hq:iP bs q=true):q<dH bs:=by
 refine Decidable.of_not_not fun hn=>?_
 unfold iP at hq
 by_cases h8:5+q/8<bs.length
 ·have hz:q/8=(dH bs+7)/8-1:=by omega
  have aY:dH bs%8≠0:=by omega
  have e1:bs.length-1=5+q/8:=by omega
  unfold jU at ht
  rw[decide_eq_false aY,Bool.false_or,e1,decide_eq_true_eq]at ht
  have aE:eF bs (5+q/8)<2^(dH bs%8):=by
   rcases Nat.div_eq_zero_iff.1 ht with h|h
   ·exact absurd h (Nat.ne_of_gt (Nat.two_pow_pos _))
   ·exact h
  have:eF bs (5+q/8)<2^(q%8):=Nat.lt_of_lt_of_le aE (Nat.pow_le_pow_right (by decide) (by omega))
  rw[Nat.testBit_lt_two_pow this]at hq
  cases hq
 ·have:eF bs (5+q/8)=0:=by
   unfold eF
   rw[List.getD_eq_getElem?_getD,List.getElem?_eq_none (by omega)];rfl
  rw[this]at hq;simp at hq
theorem Ff {bs:List Nat}(h:Bytes bs)(hl:bs.length=5+(dH bs+7)/8)(h5:5≤bs.length)(hs:∀q,iP bs q=true→q<dH bs):jU bs=true:=by
 unfold jU
 by_cases hz:dH bs%8=0
 ·rw[decide_eq_true hz];rfl
 rw[decide_eq_false hz,Bool.false_or,decide_eq_true_eq]
 refine Nat.div_eq_of_lt (Decidable.of_not_not fun hn=>?_)
 have dD:2^(dH bs%8)≤eF bs (bs.length-1):=by omega
 obtain⟨j,hj,hb⟩:=Nat.exists_ge_and_testBit_of_ge_two_pow dD
 have VV:j<8:=Decidable.of_not_not fun VW=>by
  have h1:=cn h (bs.length-1)
  have:eF bs (bs.length-1)<2^j:=Nat.lt_of_lt_of_le h1 (by rw[show(256:Nat)=2^8 from rfl];exact Nat.pow_le_pow_right (by decide) (by omega))
  rw[Nat.testBit_lt_two_pow this]at hb;cases hb
 have:=hs (8*((dH bs+7)/8-1)+j) (by
  unfold iP
  rw[show(8*((dH bs+7)/8-1)+j)/8=(dH bs+7)/8-1 by omega,show(8*((dH bs+7)/8-1)+j)%8=j by omega,show 5+((dH bs+7)/8-1)=bs.length-1 by omega]
  exact hb)
 omega
theorem tM (k:SK)(l:List Nat)(hk:k≠.nil)(hl:l.length≤1073741824)(H:ae):W env (.call 67 [.sl k (l.map eB)]) H (fun o H'=>Ext H H'∧∃k',pw k' l∧o=.val (.sl k' (l.map eB))):=by
 refine W.cQ rfl rfl rfl ?_
 obtain⟨k',H1,ha,hx,r6⟩:=tJ (H:=H) (bytes:=1) [] (l.map eB) (fS (by simp -implicitDefEqProofs only[List.length_map,List.length_nil];omega)) tK
 have cj:=all_map (enc:=eB) (n:=1) (fun _=>rfl) l
 by_cases he:k=.arg∧l=[]
 ·obtain⟨rfl,rfl⟩:=he
  have e0:mS .slice (.sl .arg []) (.sl .nil [])=none:=rfl
  simp -implicitDefEqProofs only[ES,op,ef,cl,sq,reduceIte,q3,q4,q5,q6,q7,q9,j3,j4,j5,S1,List.map_nil,e0,Option.map_none]
  intro t
  cases t
  ·rw[List.map_nil,List.nil_append]at ha
   simp -implicitDefEqProofs only[op,ef,cl,sq,reduceIte,q3,q4,q5,q6,q7,q9,j3,j4,j5,S1]
   simp -implicitDefEqProofs only[op,ef,cl,sq,reduceIte,q3,q4,q5,q6,q7,q9,j3,j4,j5,S1,ha]
   exact⟨hx,k',fun h=>absurd h r6,rfl⟩
  ·simp -implicitDefEqProofs only[op,ef,cl,sq,reduceIte,q3,q4,q5,q6,q7,q9,j3,j4,j5,S1]
   exact⟨Ext.rfl',.nil,fun _=>rfl,rfl⟩
 have jn:mS .slice (.sl k (l.map eB)) (.sl .nil [])=some false:=by
  cases k with
  | nil=>exact absurd rfl hk
  | arg=>cases l with
   | nil=>exact absurd ⟨rfl,rfl⟩ he
   | cons a l=>rfl
  | full=>rfl
  | own t e=>rfl
 simp -implicitDefEqProofs only[List.nil_append]at ha
 simp -implicitDefEqProofs only[ES,op,ef,cl,sq,reduceIte,q3,q4,q5,q6,q7,q9,j3,j4,j5,S1,jn,cj,ha]
 exact⟨hx,k',fun h=>absurd h r6,rfl⟩
structure PV (H:ae)(bf b h:Nat)(S:Nat→Bool):Prop where
 hb:∃k,H[bf]?=some (.cells [.int .i64 b,.int .i64 h,.sl k ((fW S b).map eB)])
theorem PV.ext {H H':ae}{bf b h:Nat}{S:Nat→Bool}(k:PV H bf b h S)(hx:Ext H H'):PV H' bf b h S:=⟨let ⟨kk,e⟩:=k.hb;⟨kk,hx.get e⟩⟩
theorem Fg {x n:Nat}(hn:n≤7):((x:Int).fdiv (2^(min ((n:Nat):Int).toNat IntKind.u8.bits)) != 0)=!decide (x/2^n=0):=by
 have e:min ((n:Nat):Int).toNat IntKind.u8.bits=n:=by rw[Int.toNat_natCast];exact Nat.min_eq_left (show n≤8 by omega)
 rw[e,NW]
 exact NP _ 0
set_option maxHeartbeats 2000000 in
theorem CH (k:SK)(bs:List Nat)(hk:k≠.nil∨bs=[])(hb:Bytes bs)(hl:bs.length≤1073741824)(H:ae):W env (.call 137 [.sl k (bs.map eB)]) H (fun o H'=>Ext H H'∧((fA bs=false∧o=.val (.bC [.bI,.int .i64 2]))∨(fA bs=true∧∃bf,o=.val (.bC [.ptr bf 0,.int .i64 0])∧PV H' bf (dH bs) (l6 bs) (iP bs)))):=by
 refine W.cQ rfl rfl rfl ?_
 by_cases h5:bs.length<5
 ·have e:fA bs=false:=by
   have:¬5≤bs.length:=by omega
   unfold fA;rw[decide_eq_false this];rfl
  simp -implicitDefEqProofs only[wD,op,ef,cl,sq,reduceIte,q3,q4,q5,q6,q7,q9,j3,j4,j5,S1,List.length_map,h5,e]
  exact⟨Ext.rfl',.inl trivial⟩
 have JB:5≤bs.length:=by omega
 have d5:decide (5≤bs.length)=true:=decide_eq_true JB
 have kk:k≠.nil:=hk.elim id fun e=>by subst e;simp at h5
 have i0:=cZ (e:=eB) (n:=1) (fun _=>rfl) (by decide) (k:=k) (c8 (bs:=bs) (i:=0) (by omega))
 have i1:=cZ (e:=eB) (n:=1) (fun _=>rfl) (by decide) (k:=k) (c8 (bs:=bs) (i:=1) (by omega))
 have i2:=cZ (e:=eB) (n:=1) (fun _=>rfl) (by decide) (k:=k) (c8 (bs:=bs) (i:=2) (by omega))
 have i3:=cZ (e:=eB) (n:=1) (fun _=>rfl) (by decide) (k:=k) (c8 (bs:=bs) (i:=3) (by omega))
 have i4:=cZ (e:=eB) (n:=1) (fun _=>rfl) (by decide) (k:=k) (c8 (bs:=bs) (i:=4) (by omega))
 have n0:bd (.int .i64 0)=some 0:=rfl
 have n1:bd (.int .i64 1)=some 1:=rfl
 have n2:bd (.int .i64 2)=some 2:=rfl
 have n3:bd (.int .i64 3)=some 3:=rfl
 have n4:bd (.int .i64 4)=some 4:=rfl
 have n5:bd (.int .i64 5)=some 5:=rfl
 have rv:=wR hb
 have rh:IntKind.i64.wrap (eF bs 4:Int)=(l6 bs:Int):=by
  have:=cn hb 4
  exact wrap64 (n:=(eF bs 4:Int)) (by omega)
 obtain⟨H1,lT⟩:∃H1,H1=H++[B.cells [T.int .i64 (dH bs:Nat),T.int .i64 (l6 bs:Nat)]]:=⟨_,rfl⟩
 have cX:Ext H H1:=⟨_,lT⟩
 have c1:H1[H.length]?=some (.cells [T.int .i64 (dH bs:Nat),T.int .i64 (l6 bs:Nat)]):=by rw[lT];exact bT rfl
 simp -implicitDefEqProofs only[wD,op,ef,cl,sq,reduceIte,q3,q4,q5,q6,q7,q9,j3,j4,j5,S1,S2,List.length_map,h5,i0,i1,i2,i3,i4,n0,n1,n2,n3,n4,eB,rv,rh]
 rw[←lT]
 refine af _ _ _ _ _ _ _ _ (M0 _ _ _) ?_
 rintro u H2⟨hu,bZ⟩
 cases hu
 have bZ:Ext H1 H2:=bZ
 have c2:=bZ.get c1
 cases hs:lS (dH bs) (l6 bs)
 ·have e:fA bs=false:=by unfold fA;rw[hs,Bool.and_false];rfl
  simp -implicitDefEqProofs only[op,ef,cl,sq,reduceIte,q3,q4,q5,q6,q7,q9,j3,j4,j5,S1,c1,c2,e]
  exact⟨cX.trans bZ,.inl trivial⟩
 obtain⟨m,j,em,ej,m1,m2,j1,j2⟩:=uY hs
 have em:dH bs=m:=by omega
 have ej:l6 bs=j:=by omega
 simp -implicitDefEqProofs only[op,ef,cl,sq,reduceIte,q3,q4,q5,q6,q7,q9,j3,j4,j5,S1,c1,c2,List.length_map]
 refine af _ _ _ _ _ _ _ _ (IQ (dH bs) _ (by omega) _) ?_
 rintro u H3⟨hu,cY⟩
 cases hu
 have cY:Ext H2 H3:=cY
 have c3:=cY.get c2
 have w5:IntKind.i64.wrap (5+(((dH bs+7)/8:Nat):Int))=((5+(dH bs+7)/8:Nat):Int):=by rw[wrap64 (by omega)];simp
 by_cases hlen:bs.length=5+(dH bs+7)/8
 rotate_left
 ·have e:fA bs=false:=by unfold fA;rw[decide_eq_false hlen,Bool.and_false];rfl
  simp -implicitDefEqProofs only[op,ef,cl,sq,reduceIte,q3,q4,q5,q6,q7,q9,j3,j4,j5,S1,c1,c2,c3,w5,hlen,e]
  exact⟨cX.trans (bZ.trans cY),.inl trivial⟩
 have r8:(dH bs:Int).tmod 8=((dH bs%8:Nat):Int):=(Int.ofNat_tmod _ 8).symm
 have wl:=mB (i:=bs.length) (by omega) (by omega)
 have il:=cZ (e:=eB) (n:=1) (fun _=>rfl) (by decide) (k:=k) (c8 (bs:=bs) (i:=bs.length-1) (by omega))
 have nn:¬((dH bs%8:Nat):Int)<0:=by omega
 have tv:=Fg (x:=eF bs (bs.length-1)) (n:=dH bs%8) (by omega)
 have tN:(bs.length=5+(dH bs+7)/8)=True:=eq_true hlen
 have IX:∀t,jU bs=t→fA bs=t:=fun t ht=>by unfold fA;rw[ht,d5,hs,decide_eq_true hlen];rfl
 have NY:((bs.map eB).take bs.length).drop 5=(bs.drop 5).map eB:=by rw[List.take_of_length_le (by simp),List.map_drop]
 have cj:=all_map (enc:=eB) (n:=1) (fun _=>rfl) bs
 have M6:(SK.cut k bs.length 5 bs.length)≠.nil:=by
  unfold SK.cut
  cases k<;>simp at kk ⊢
  split<;>simp
 by_cases h0:0<dH bs%8
 ·by_cases hz:eF bs (bs.length-1)/2^(dH bs%8)=0
  ·have ht:jU bs=true:=by unfold jU;rw[decide_eq_true hz];simp
   have e:=IX _ ht
   simp -implicitDefEqProofs only[op,ef,cl,sq,reduceIte,q3,q4,q5,q6,q7,q9,j3,j4,j5,S1,c1,c2,c3,w5,tN,List.length_map,r8,h0,wl,aa,il,eB,nn,tv,hz,n5,JB,Nat.le_refl,cj,NY,e]
   refine af _ _ _ _ _ _ _ _ (tM _ (bs.drop 5) M6 (by rw[List.length_drop];omega) _) ?_
   rintro u H4⟨dX,k4,_,hu⟩
   cases hu
   have dX:Ext H3 H4:=dX
   have c4:=dX.get c3
   simp -implicitDefEqProofs only[op,ef,cl,sq,reduceIte,q3,q4,q5,q6,q7,q9,j3,j4,j5,S1,S2,c3,c4]
   refine⟨(cX.trans (bZ.trans (cY.trans dX))).app _,.inr ⟨_,rfl,⟨k4,?_⟩⟩⟩
   rw[bT rfl,mM hb hlen]
  ·have ht:jU bs=false:=by
    unfold jU;rw[decide_eq_false hz,decide_eq_false (by omega)];rfl
   have e:=IX _ ht
   simp -implicitDefEqProofs only[op,ef,cl,sq,reduceIte,q3,q4,q5,q6,q7,q9,j3,j4,j5,S1,c1,c2,c3,w5,tN,List.length_map,r8,h0,wl,aa,il,eB,nn,tv,hz,e]
   exact⟨cX.trans (bZ.trans cY),.inl trivial⟩
 ·have ht:jU bs=true:=by unfold jU;rw[decide_eq_true (by omega)];rfl
  have e:=IX _ ht
  simp -implicitDefEqProofs only[op,ef,cl,sq,reduceIte,q3,q4,q5,q6,q7,q9,j3,j4,j5,S1,c1,c2,c3,w5,tN,List.length_map,r8,h0,n5,JB,Nat.le_refl,cj,NY,e]
  refine af _ _ _ _ _ _ _ _ (tM _ (bs.drop 5) M6 (by rw[List.length_drop];omega) _) ?_
  rintro u H4⟨dX,k4,_,hu⟩
  cases hu
  have dX:Ext H3 H4:=dX
  have c4:=dX.get c3
  simp -implicitDefEqProofs only[op,ef,cl,sq,reduceIte,q3,q4,q5,q6,q7,q9,j3,j4,j5,S1,S2,c3,c4]
  refine⟨(cX.trans (bZ.trans (cY.trans dX))).app _,.inr ⟨_,rfl,⟨k4,?_⟩⟩⟩
  rw[bT rfl,mM hb hlen]
theorem IY {H:ae}{c bf b h p:Nat}{S:Nat→Bool}(hc:H[c]?=some (.cells [.ptr bf 0]))(hf:PV H bf b h S)(hp:p<b)(b2:b≤65536):W env (.call 105 [.int .i64 p,.ptr c 0]) H (rN (.bool (!S p)) H):=by
 refine W.cQ rfl rfl rfl ?_
 obtain⟨k,hb⟩:=hf.hb
 have hj:p/8<(b+7)/8:=by omega
 have ib:=cZ (e:=eB) (n:=1) (fun _=>rfl) (by decide) (k:=k) (wQ S hj)
 have q8:=M4 (p:=p) (by omega)
 have bv:=Fe (p:=p) (tI S (p/8))
 rw[xP]at bv
 have r8:=M3 p
 cases hs:S p
 ·rw[hs]at bv
  simp -implicitDefEqProofs only[wC,op,ef,cl,sq,reduceIte,q3,q4,q5,q6,q7,q9,j3,j4,j5,S1,hc,hb,q8,aa,ib,eB,r8,bv]
 ·rw[hs]at bv
  simp -implicitDefEqProofs only[wC,op,ef,cl,sq,reduceIte,q3,q4,q5,q6,q7,q9,j3,j4,j5,S1,hc,hb,q8,aa,ib,eB,r8,bv]
theorem CI {l:List Nat}{S:Nat→Bool}{i y:Nat}(hy:l[i]?=some y):(l.take (i+1)).all S=((l.take i).all S&&S y):=by
 rw[List.take_add_one,hy];simp
theorem IZ {H:ae}{c bf b h:Nat}{S:Nat→Bool}(hc:H[c]?=some (.cells [.ptr bf 0]))(hf:PV H bf b h S)(b2:b≤65536)(k:SK)(l:List Nat)(hl:∀p∈l,p<b)(hJ:l.length≤16):W env (.call 138 [.sl k (l.map eI),.fn 105 [.ptr c 0]]) H (fun o H'=>H'=H∧∃n:Int,o=.val (.int .i64 n)∧decide (0≤n)=!l.all S):=by
 refine W.cQ rfl rfl rfl ?_
 simp -implicitDefEqProofs only[Bs,op,ef,cl,sq,reduceIte,q3,q4,q5,q6,q7,q9,j3,j4,j5,S1,List.length_map]
 refine W.ea [(0,_),(1,_),(7,_)] (fun (i:Nat) R H'=>H'=H∧R 8=.int .i64 i∧i≤l.length∧(l.take i).all S=true) (fun i=>l.length-i) 0 ⟨rfl,rfl,Nat.zero_le _,rfl⟩ ?_
 rintro i R H'⟨rfl,g8,hi,hm⟩
 by_cases aE:i<l.length
 rotate_left
 ·have l4:i=l.length:=by omega
  subst l4
  rw[List.take_length]at hm
  simp -implicitDefEqProofs only[aA,aw,op,ef,cl,sq,reduceIte,q3,q4,q5,q6,q7,q9,j3,j4,j5,S1,List.length_map,g8,aE,hm]
  exact⟨_,rfl,by decide⟩
 obtain⟨y,hy⟩:=dQ aE
 have ws:=aJ (show i<9223372036854775807 by omega)
 have iy:=cZ (e:=eI) (n:=1) (fun _=>rfl) (by decide) (k:=k) hy
 simp -implicitDefEqProofs only[aA,aw,op,ef,cl,sq,reduceIte,q3,q4,q5,q6,q7,q9,j3,j4,j5,S1,List.length_map,g8,aE,aa,iy,eI]
 refine TK _ _ _ _ _ _ _ ?_
 simp -implicitDefEqProofs only[op,ef,cl,sq,reduceIte,q3,q4,q5,q6,q7,q9,j3,j4,j5,S1,uH,List.cons_append,List.nil_append]
 refine af _ _ _ _ _ _ _ _ (IY hc hf (hl y (List.mem_of_getElem? hy)) b2) ?_
 rintro u H1⟨hu,rfl⟩
 cases hu
 cases hs:S y
 ·simp -implicitDefEqProofs only[op,ef,cl,sq,reduceIte,q3,q4,q5,q6,q7,q9,j3,j4,j5,S1]
  refine⟨_,rfl,?_⟩
  have:l.all S=false:=by
   rw[Bool.eq_false_iff];intro ha
   have:=List.all_eq_true.1 ha y (List.mem_of_getElem? hy)
   rw[hs]at this;cases this
  rw[this]
  exact decide_eq_true (by omega)
 ·simp -implicitDefEqProofs only[op,ef,cl,sq,reduceIte,q3,q4,q5,q6,q7,q9,j3,j4,j5,S1,g8,ws]
  exact⟨i+1,by omega,rfl,aE,by rw[CI hy,hm,hs];rfl⟩
theorem GQ {H:ae}{bf b h:Nat}{S:Nat→Bool}(hf:PV H bf b h S)(b1:1≤b)(b2:b≤65536)(h2:h≤16)(t:ByteArray)(ht:t.size<9223372036854775807):W env (.call 55 [.ptr bf 0,.str t]) H (fun o H'=>Ext H H'∧o=.val (.bool ((du t b h).all S))):=by
 refine W.cQ rfl rfl rfl ?_
 obtain⟨k,hb⟩:=hf.hb
 have lb:=bo hb
 obtain⟨H1,lT⟩:∃H1,H1=H++[B.cells [T.ptr bf 0]]:=⟨_,rfl⟩
 have cX:Ext H H1:=⟨_,lT⟩
 have c1:H1[H.length]?=some (.cells [T.ptr bf 0]):=by rw[lT];exact bT rfl
 have VX:=cX.get hb
 simp -implicitDefEqProofs only[IA,op,ef,cl,sq,reduceIte,q3,q4,q5,q6,q7,q9,j3,j4,j5,S1,S2,S3,hb,lb]
 rw[←lT]
 refine af _ _ _ _ _ _ _ _ (CA t b h b1 b2 h2 _ ht) ?_
 rintro u H2⟨bZ,k2,hu⟩
 cases hu
 have bZ:Ext H1 H2:=bZ
 have c2:=bZ.get c1
 simp -implicitDefEqProofs only[op,ef,cl,sq,reduceIte,q3,q4,q5,q6,q7,q9,j3,j4,j5,S1,c1,c2,yr,List.map_cons,List.map_nil]
 have M7:W env (.call 104 [.sl k2 ((du t b h).map eI),.fn 105 [.ptr H.length 0]]) H2 (rN (.bool (!(du t b h).all S)) H2):=by
  refine W.cQ rfl rfl rfl ?_
  simp -implicitDefEqProofs only[Bn,op,ef,cl,sq,reduceIte,q3,q4,q5,q6,q7,q9,j3,j4,j5,S1]
  refine af _ _ _ _ _ _ _ _ (IZ c2 (hf.ext (cX.trans bZ)) b2 k2 _ (fun p hp=>wL b1 hp) (by rw[lR];exact h2)) ?_
  rintro u H3⟨rfl,n,hu,hn⟩
  cases hu
  simp -implicitDefEqProofs only[op,ef,cl,sq,reduceIte,q3,q4,q5,q6,q7,q9,j3,j4,j5,S1,ge_iff_le,hn]
 refine af _ _ _ _ _ _ _ _ M7 ?_
 rintro u H3⟨hu,rfl⟩
 cases hu
 simp -implicitDefEqProofs only[op,ef,cl,sq,reduceIte,q3,q4,q5,q6,q7,q9,j3,j4,j5,S1,Bool.not_not]
 exact cX.trans bZ
def a8 (s:dV):Bool:=if s.id=0 then decide (s.val=⟨#[]⟩)&&decide (s.cm.length=0)else decide (65536≤s.id)&&fA s.cm&&(du s.key (dH s.cm) (l6 s.cm)).all (iP s.cm)
def ry (s:dV):Prop:=Bytes s.cm∧s.cm.length≤1073741824∧s.key.size<9223372036854775807
def gZ (H:ae)(s:dV)(t:T):Prop:=(s.id=0∧t=.bI)∨(s.id≠0∧∃bf,t=.ptr bf 0∧PV H bf (dH s.cm) (l6 s.cm) (iP s.cm))
theorem gZ.ext {H H':ae}{s:dV}{t:T}(h:gZ H s t)(hx:Ext H H'):gZ H' s t:=by
 rcases h with h|⟨h,bf,e,p⟩
 ·exact .inl h
 ·exact .inr ⟨h,bf,e,p.ext hx⟩
theorem gZ.mv {H H':ae}{s:dV}{t:T}(h:gZ H s t)(hx:∀(b:Nat) cs,H[b]?=some (.cells cs)→H'[b]?=some (.cells cs)):gZ H' s t:=by
 rcases h with h|⟨h,bf,e,p⟩
 ·exact .inl h
 ·obtain⟨k,hb⟩:=p.hb
  exact .inr ⟨h,bf,e,⟨k,hx _ _ hb⟩⟩
theorem gZ.erase {H:ae}{s:dV}{t:T}(h:gZ H s t):t.erase=t:=by
 rcases h with⟨_,rfl⟩|⟨_,bf,rfl,_⟩<;>rfl
theorem gZ.cell {H:ae}{s:dV}{t:T}(h:gZ H s t):t.cells?=some [t]:=by
 rcases h with⟨_,rfl⟩|⟨_,bf,rfl,_⟩<;>rfl
theorem nA {bs:List Nat}(h:fA bs=true):1≤dH bs∧dH bs≤65536∧1≤l6 bs∧l6 bs≤16:=by
 simp -implicitDefEqProofs only[fA,lS,Bool.and_eq_true,decide_eq_true_eq]at h
 omega
theorem xS (kf:SK)(s:dV)(hk:pw kf s.cm)(hb:ry s)(H:ae):W env (.call 103 [.agg (dG kf s)]) H (fun o H'=>Ext H H'∧((a8 s=false∧∃t,o=.val (.bC [t,.bool false])∧t=.bI)∨(a8 s=true∧∃t,gZ H' s t∧o=.val (.bC [t,.bool true])))):=by
 refine W.cQ rfl rfl rfl ?_
 obtain⟨H1,lT⟩:∃H1,H1=H++[B.cells (dG kf s)]:=⟨_,rfl⟩
 have cX:Ext H H1:=⟨_,lT⟩
 have c1:H1[H.length]?=some (.cells (dG kf s)):=by rw[lT];exact bT rfl
 unfold dG at c1
 have mN:=lT
 unfold dG at mN
 by_cases h0:s.id=0
 ·by_cases hv:s.val=⟨#[]⟩
  ·by_cases hl:s.cm.length=0
   ·have e:a8 s=true:=by unfold a8;rw[if_pos h0,decide_eq_true hv,decide_eq_true hl];rfl
    have e2:gZ H1 s .bI:=.inl ⟨h0,rfl⟩
    simp -implicitDefEqProofs only[qm,dG,op,ef,cl,sq,reduceIte,q3,q4,q5,q6,q7,q9,j3,j4,j5,S1,S2,h0,hv,hl,List.length_map]
    rw[h0,hv]at mN
    rw[←mN]
    exact⟨cX,.inr ⟨e,_,e2,rfl⟩⟩
   ·have e:a8 s=false:=by unfold a8;rw[if_pos h0,decide_eq_false hl,Bool.and_false]
    simp -implicitDefEqProofs only[qm,dG,op,ef,cl,sq,reduceIte,q3,q4,q5,q6,q7,q9,j3,j4,j5,S1,S2,h0,hv,hl,List.length_map,e]
    rw[h0,hv]at mN
    rw[←mN]
    exact⟨cX,.inl ⟨_,rfl,rfl⟩⟩
  ·have e:a8 s=false:=by unfold a8;rw[if_pos h0,decide_eq_false hv,Bool.false_and]
   simp -implicitDefEqProofs only[qm,dG,op,ef,cl,sq,reduceIte,q3,q4,q5,q6,q7,q9,j3,j4,j5,S1,S2,h0,hv,e]
   rw[h0]at mN
   rw[←mN]
   exact⟨cX,.inl ⟨_,rfl,rfl⟩⟩
 have kk:kf≠.nil∨s.cm=[]:=by
  by_cases e:kf=.nil
  ·exact .inr (hk e)
  ·exact .inl e
 simp -implicitDefEqProofs only[qm,dG,op,ef,cl,sq,reduceIte,q3,q4,q5,q6,q7,q9,j3,j4,j5,S1,S2,h0]
 rw[←mN]
 refine af _ _ _ _ _ _ _ _ (CH kf s.cm kk hb.1 hb.2.1 _) ?_
 rintro u H2⟨bZ,hu⟩
 have bZ:Ext H1 H2:=bZ
 have c2:=bZ.get c1
 rcases hu with⟨jn,hu⟩|⟨gk,bf,hu,ki⟩
 ·cases hu
  have e:a8 s=false:=by unfold a8;rw[if_neg h0,jn,Bool.and_false,Bool.false_and]
  by_cases h6:s.id<65536<;>(simp -implicitDefEqProofs only[op,ef,cl,sq,reduceIte,q3,q4,q5,q6,q7,q9,j3,j4,j5,S1,S2,c1,c2,h6,e];exact⟨cX.trans bZ,.inl ⟨_,rfl,rfl⟩⟩)
 cases hu
 by_cases h6:s.id<65536
 ·have Rg:¬65536≤s.id:=by omega
  have e:a8 s=false:=by unfold a8;rw[if_neg h0,decide_eq_false Rg,Bool.false_and,Bool.false_and]
  simp -implicitDefEqProofs only[op,ef,cl,sq,reduceIte,q3,q4,q5,q6,q7,q9,j3,j4,j5,S1,S2,c1,c2,h6,e]
  exact⟨cX.trans bZ,.inl ⟨_,rfl,rfl⟩⟩
 have Rg:65536≤s.id:=by omega
 obtain⟨b1,b2,j1,j2⟩:=nA gk
 simp -implicitDefEqProofs only[op,ef,cl,sq,reduceIte,q3,q4,q5,q6,q7,q9,j3,j4,j5,S1,S2,c1,c2,h6]
 refine af _ _ _ _ _ _ _ _ (GQ ki b1 b2 j2 s.key hb.2.2) ?_
 rintro u H3⟨cY,hu⟩
 cases hu
 have cY:Ext H2 H3:=cY
 have c3:=cY.get c2
 have e:a8 s=(du s.key (dH s.cm) (l6 s.cm)).all (iP s.cm):=by unfold a8;rw[if_neg h0,decide_eq_true Rg,gk];rfl
 rw[e]
 cases hh:(du s.key (dH s.cm) (l6 s.cm)).all (iP s.cm)
 ·simp -implicitDefEqProofs only[op,ef,cl,sq,reduceIte,q3,q4,q5,q6,q7,q9,j3,j4,j5,S1,c2,c3]
  exact⟨cX.trans (bZ.trans cY),.inl ⟨_,rfl,rfl⟩⟩
 ·simp -implicitDefEqProofs only[op,ef,cl,sq,reduceIte,q3,q4,q5,q6,q7,q9,j3,j4,j5,S1,c2,c3]
  exact⟨cX.trans (bZ.trans cY),.inr ⟨_,.inr ⟨h0,bf,rfl,ki.ext cY⟩,rfl⟩⟩
def formed (l:List dV):Bool:=decide (1≤l.length)&&decide (l.length≤1024)&&l.all a8&&decide ((l.map dV.key).Nodup)
theorem iJ {l:List dV}{i:Nat}{s:dV}(hs:l[i]?=some s)(h:a8 s=false∨s.key∈(l.take i).map dV.key):formed l=false:=by
 rcases h with h|h
 ·have:l.all a8=false:=by
   rw[Bool.eq_false_iff];intro ha
   have:=List.all_eq_true.1 ha s (List.mem_of_getElem? hs)
   rw[h]at this;cases this
  unfold formed;rw[this,Bool.and_false,Bool.false_and]
 ·have:¬(l.map dV.key).Nodup:=fun hn=>by
   have hi:=(List.getElem?_eq_some_iff.1 hs).1
   have e:l.map dV.key=(l.take i).map dV.key++(l.drop i).map dV.key:=by rw[←List.map_append,List.take_append_drop]
   rw[e,List.nodup_append]at hn
   refine hn.2.2 s.key h s.key ?_ rfl
   refine List.mem_map_of_mem (List.mem_iff_getElem?.2 ⟨0,?_⟩)
   rw[List.getElem?_drop];simpa using hs
  unfold formed;rw[decide_eq_false this,Bool.and_false]
def M8 (H:ae)(l:List dV)(ps:List T):Prop:=ps.length=l.length∧∀(i:Nat) s t,l[i]?=some s→ps[i]?=some t→gZ H s t
def eT (t:T):List T:=[t]
set_option maxHeartbeats 1000000 in
theorem qu (k:SK)(l:List dV)(hb:∀s∈l,ry s)(hl:l.length≤8000000)(H:ae):W env (.call 54 [.sl k (l.map (dG .arg))]) H (fun o H'=>Ext H H'∧((formed l=false∧∃kp,o=.val (.bC [.sl kp [],.bool false]))∨(formed l=true∧∃kp ps,M8 H' l ps∧o=.val (.bC [.sl kp (ps.map eT),.bool true])))):=by
 refine W.cQ rfl rfl rfl ?_
 by_cases h1:l.length<1
 ·have pr:¬1≤l.length:=by omega
  have e:formed l=false:=by unfold formed;rw[decide_eq_false pr,Bool.false_and,Bool.false_and,Bool.false_and]
  simp -implicitDefEqProofs only[Bk,op,ef,cl,sq,reduceIte,q3,q4,q5,q6,q7,q9,j3,j4,j5,S1,List.length_map,h1,e]
  exact⟨Ext.rfl',.inl ⟨_,rfl⟩⟩
 by_cases h2:1024<l.length
 ·have nG:¬l.length≤1024:=by omega
  have e:formed l=false:=by unfold formed;rw[decide_eq_false nG,Bool.and_false,Bool.false_and,Bool.false_and]
  simp -implicitDefEqProofs only[Bk,op,ef,cl,sq,reduceIte,q3,q4,q5,q6,q7,q9,j3,j4,j5,S1,List.length_map,h1,h2,e]
  exact⟨Ext.rfl',.inl ⟨_,rfl⟩⟩
 obtain⟨H1,lT⟩:∃H1,H1=H++[B.map []]:=⟨_,rfl⟩
 have cX:Ext H H1:=⟨_,lT⟩
 have c1:H1[H.length]?=some (.map (gI T.str [])):=by rw[lT];exact bT rfl
 simp -implicitDefEqProofs only[Bk,op,ef,cl,sq,reduceIte,q3,q4,q5,q6,q7,q9,j3,j4,j5,S1,List.length_map,h1,h2]
 rw[←lT]
 refine W.ea [(4,_),(19,_),(20,_)] (fun (i:Nat) R H'=>At H' (fun H'=>∃kp ps es,R 5=.sl kp (ps.map eT)∧Ext H H'∧rO H1.length H' kp∧M8 H' (l.take i) ps∧H'[H.length]?=some (.map (gI T.str es))∧∀key,(key∈(l.take i).map dV.key→fR es key=some (T.int .i64 1))∧(key∉(l.take i).map dV.key→fR es key=none))∧R 21=.int .i64 i∧i≤l.length∧(l.take i).all a8=true∧((l.take i).map dV.key).Nodup) (fun i=>l.length-i) 0 ⟨.i ⟨.nil,[],[],rfl,cX,jL _ _,⟨rfl,fun i s t a b=>by simp at b⟩,c1,fun key=>⟨fun h=>by simp at h,fun _=>rfl⟩⟩,rfl,Nat.zero_le _,rfl,List.nodup_nil⟩ ?_
 rintro i R H2⟨⟨kp,ps,es,g5,bZ,wP,rI,hm,iS⟩,GR,hi,cj,jR⟩
 by_cases aE:i<l.length
 rotate_left
 ·have l4:i=l.length:=by omega
  subst l4
  rw[List.take_length]at cj jR rI
  have e:formed l=true:=by unfold formed;rw[decide_eq_true (by omega),decide_eq_true (by omega),cj,decide_eq_true jR];rfl
  simp -implicitDefEqProofs only[aA,aw,op,ef,cl,sq,reduceIte,q3,q4,q5,q6,q7,q9,j3,j4,j5,S1,List.length_map,g5,GR,aE,e]
  exact⟨bZ,.inr ⟨kp,ps,rI,rfl⟩⟩
 obtain⟨s,hs⟩:=dQ aE
 have ix:=cZ (e:=dG .arg) (n:=4) (fun _=>rfl) (by decide) (k:=k) hs
 have ws:=aJ (show i<9223372036854775807 by omega)
 have Rh:H1.length≤H2.length:=by
  have:=bo hm;rw[lT];simp;omega
 obtain⟨H3,I0⟩:∃H3,H3=H2++[B.cells (dG .arg s)]:=⟨_,rfl⟩
 have cY:Ext H2 H3:=⟨_,I0⟩
 have c3:H3[H2.length]?=some (.cells (dG .arg s)):=by rw[I0];exact bT rfl
 unfold dG at c3
 have CJ:=I0
 unfold dG at CJ
 have Ri:∀Hx,iU Hx 4 (.bh (dG .arg s))=some [.str s.key,.int .u64 s.id,.str s.val,.sl .arg (s.cm.map eB)]:=fun _=>rfl
 simp -implicitDefEqProofs only[aA,aw,op,ef,cl,sq,reduceIte,q3,q4,q5,q6,q7,q9,j3,j4,j5,S1,S2,S3,List.length_map,GR,aE,aa,ix,Ri]
 rw[←CJ]
 refine af _ _ _ _ _ _ _ _ (xS .arg s (fun h=>by cases h) (hb s (List.mem_of_getElem? hs)) _) ?_
 rintro u H4⟨dX,hu⟩
 have dX:Ext H3 H4:=dX
 have c4:=dX.get c3
 have GS:=(cY.trans dX).get hm
 have M9:=bo GS
 have Fh:=bo c4
 have Fi:H.length≠H2.length:=by have:=bo hm;omega
 have Fj:Ext H (H4.set H.length (.map (gI T.str (kK es s.key (T.int .i64 1))))):=(bZ.trans (cY.trans dX)).set (Nat.le_refl _) _
 by_cases hk:s.key∈(l.take i).map dV.key
 ·have e:=iJ hs (.inr hk)
  have CK:fR es s.key=some (T.int .i64 1):=(iS _).1 hk
  have w2:IntKind.i64.wrap (1+1)=2:=rfl
  have I1:∀v,fR (kK es s.key v) s.key=some v:=fun v=>by rw[mE,if_pos rfl]
  have Na:Ext H (H4.set H.length (.map (gI T.str (kK es s.key (T.int .i64 2))))):=(bZ.trans (cY.trans dX)).set (Nat.le_refl _) _
  rcases hu with⟨jn,t,hu,rfl⟩|⟨gk,t,FL,hu⟩
  ·cases hu
   simp -implicitDefEqProofs only[op,ef,cl,sq,reduceIte,q3,q4,q5,q6,q7,q9,j3,j4,j5,S1,S2,c3,c4,GS,M9,Fh,Fi,CK,w2,e]
   exact⟨Na,.inl ⟨_,rfl⟩⟩
  ·cases hu
   simp -implicitDefEqProofs only[op,ef,cl,sq,reduceIte,q3,q4,q5,q6,q7,q9,j3,j4,j5,S1,S2,c3,c4,GS,M9,Fh,Fi,CK,w2,I1,e]
   exact⟨Na,.inl ⟨_,rfl⟩⟩
 have CK:fR es s.key=none:=(iS _).2 hk
 have w1:IntKind.i64.wrap (0+1)=1:=rfl
 have I1:∀v,fR (kK es s.key v) s.key=some v:=fun v=>by rw[mE,if_pos rfl]
 rcases hu with⟨jn,t,hu,rfl⟩|⟨gk,t,FL,hu⟩
 ·cases hu
  have e:=iJ hs (.inl jn)
  simp -implicitDefEqProofs only[op,ef,cl,sq,reduceIte,q3,q4,q5,q6,q7,q9,j3,j4,j5,S1,S2,c3,c4,GS,M9,Fh,Fi,CK,w1,e]
  exact⟨Fj,.inl ⟨_,rfl⟩⟩
 cases hu
 have he:=FL.erase
 have lg:=FL.cell
 obtain⟨H5,JC⟩:∃H5,H5=H4.set H.length (.map (gI T.str (kK es s.key (T.int .i64 1)))):=⟨_,rfl⟩
 rw[←JC]at Fj
 have I2:rO H1.length H5 kp:=by rw[JC];exact(wP.ext (cY.trans dX)).set GS (by simp) _
 have Nb:=all_map (enc:=eT) (n:=1) (fun _=>rfl) ps
 obtain⟨U5,H6,ha,uZ,po⟩:=oE (bytes:=8) (ps.map eT) [[t]] I2 (by rw[JC,List.length_set];exact Nat.le_trans Rh (cY.trans dX).len) (by simp) (fS (by rw[List.length_map,rI.1,List.length_take];simp -implicitDefEqProofs only[List.length_cons,List.length_nil];omega))
 have Rj:=po.ext H (by rw[lT];simp) Fj
 have m5:H5[H.length]?=some (.map (gI T.str (kK es s.key (T.int .i64 1)))):=by rw[JC];exact gh M9
 have m6:=po.cells I2 m5 (by simp)
 simp -implicitDefEqProofs only[op,ef,cl,sq,reduceIte,q3,q4,q5,q6,q7,q9,j3,j4,j5,S1,he]at ha
 simp -implicitDefEqProofs only[op,ef,cl,sq,reduceIte,q3,q4,q5,q6,q7,q9,j3,j4,j5,S1,S2,c3,c4,GS,M9,Fh,Fi,CK,w1,I1,he]
 rw[←JC]
 simp -implicitDefEqProofs only[aA,aw,op,ef,cl,sq,reduceIte,q3,q4,q5,q6,q7,q9,j3,j4,j5,S1,S2,g5,GR,lg,he,Nb,ha,ws]
 have Su:∀(b:Nat) cs,H4[b]?=some (.cells cs)→H5[b]?=some (.cells cs):=fun b cs hc=>by
  have aY:H.length≠b:=fun e=>by subst e;rw[hc]at GS;cases GS
  rw[JC,jS aY];exact hc
 have Sv:∀(b:Nat) cs,H5[b]?=some (.cells cs)→H6[b]?=some (.cells cs):=fun b cs hc=>po.cells I2 hc (by simp)
 have xU:l.take (i+1)=l.take i++[s]:=by rw[List.take_add_one,hs];rfl
 refine⟨i+1,by omega,.i ⟨U5,ps++[t],_,by rw[List.map_append];rfl,Rj,uZ,?_,m6,?_⟩,rfl,aE,?_,?_⟩
 ·rw[xU]
  refine⟨by simp[rI.1],fun j s' t' dW qL=>?_⟩
  by_cases hj:j<ps.length
  ·rw[List.getElem?_append_left (by rw[←rI.1];exact hj)]at dW
   rw[List.getElem?_append_left hj]at qL
   exact(((rI.2 j s' t' dW qL).ext (cY.trans dX)).mv Su).mv Sv
  ·have U6:j=ps.length:=by
    have:=(List.getElem?_eq_some_iff.1 qL).1
    simp at this;omega
   subst U6
   rw[rI.1,List.getElem?_append_right (Nat.le_refl _)]at dW
   rw[List.getElem?_append_right (Nat.le_refl _)]at qL
   simp at dW qL
   subst dW;subst qL
   exact(FL.mv Su).mv Sv
 ·intro key
  rw[xU,mE,List.map_append]
  by_cases e:key=s.key
  ·subst e
   exact⟨fun _=>by simp,fun h=>absurd (List.mem_append_right _ (by simp)) h⟩
  ·rw[if_neg e]
   refine⟨fun h=>(iS key).1 ?_,fun h=>(iS key).2 fun hh=>h (List.mem_append_left _ hh)⟩
   rcases List.mem_append.1 h with h|h
   ·exact h
   ·simp at h;exact absurd h e
 ·rw[xU,List.all_append,cj];simp[gk]
 ·rw[xU,List.map_append]
  rw[List.nodup_append]
  refine⟨jR,by simp,fun a ha b hb e=>?_⟩
  simp at hb
  subst hb;subst e
  exact hk ha
def newAt (l:List Nat)(j:Nat):Bool:=decide (j=0)||!decide (l.getD j 0=l.getD (j-1) 0)
def iZ (l:List Nat)(i:Nat):List Nat:=((List.range i).filter (newAt l)).map fun j=>l.getD j 0
theorem fX (l:List Nat)(i:Nat):iZ l (i+1)=iZ l i++if newAt l i then [l.getD i 0]else []:=by
 unfold iZ
 rw[List.range_succ,List.filter_append,List.map_append]
 congr 1
 cases h:newAt l i<;>simp[h]
theorem Fk (l:List Nat)(i:Nat):(iZ l i).length≤i:=by
 unfold iZ;rw[List.length_map];have:=List.length_filter_le (newAt l) (List.range i);simpa using this
theorem cu {l:List Nat}{i x:Nat}(h:l[i]?=some x):l.getD i 0=x:=by rw[List.getD_eq_getElem?_getD,h];rfl
theorem rz {l:List Nat}{x:Nat}:x∈iZ l l.length↔x∈l:=by
 constructor
 ·intro h
  unfold iZ at h
  obtain⟨j,hj,rfl⟩:=List.mem_map.1 h
  have hj:=List.mem_range.1 (List.mem_filter.1 hj).1
  rw[cu (List.getElem?_eq_getElem hj)]
  exact List.getElem_mem hj
 ·intro h
  obtain⟨j,hj,rfl⟩:=List.getElem_of_mem h
  have key:∀(j:Nat) (hj:j<l.length),l[j]∈iZ l (j+1):=by
   intro j
   induction j with
   | zero=>intro hj;rw[fX];simp[newAt,hj]
   | succ j ih =>
    intro hj
    rw[fX]
    cases hn:newAt l (j+1)
    ·simp -implicitDefEqProofs only[newAt,Nat.add_sub_cancel,Bool.or_eq_false_iff,decide_eq_false_iff_not,Bool.not_eq_false',decide_eq_true_eq]at hn
     have e:=hn.2
     rw[cu (List.getElem?_eq_getElem hj),cu (List.getElem?_eq_getElem (Nat.lt_of_succ_lt hj))]at e
     rw[e]
     exact List.mem_append_left _ (ih (by omega))
    ·rw[cu (List.getElem?_eq_getElem hj)];simp
  have mono:∀m,m≤l.length→j+1≤m→l[j]∈iZ l m:=by
   intro m
   induction m with
   | zero=>intro _ h;omega
   | succ m ih =>
    intro hm VY
    by_cases e:j+1=m+1
    ·rw[←e];exact key j hj
    ·rw[fX];exact List.mem_append_left _ (ih (by omega) (by omega))
  exact mono _ (Nat.le_refl _) hj
theorem tO {l:List Nat}(h:l.Pairwise (·≤·)):(iZ l l.length).Pairwise (· < ·):=by
 unfold iZ
 rw[List.pairwise_map]
 have h1:(List.range l.length).Pairwise (· < ·):=List.pairwise_lt_range
 have hle:∀i j,i≤j→j<l.length→l.getD i 0≤l.getD j 0:=fun i j GM hj=>by
  rw[cu (List.getElem?_eq_getElem hj),cu (List.getElem?_eq_getElem (Nat.lt_of_le_of_lt GM hj))]
  by_cases e:i=j
  ·subst e;exact Nat.le_refl _
  ·exact(List.pairwise_iff_getElem.1 h) i j (by omega) hj (by omega)
 refine(h1.filter _).imp_of_mem ?_
 intro i j hi hj GM
 have U7:=List.mem_range.1 (List.mem_filter.1 hj).1
 have Sw:=(List.mem_filter.1 hj).2
 simp -implicitDefEqProofs only[newAt,Bool.or_eq_true,decide_eq_true_eq,Bool.not_eq_true',decide_eq_false_iff_not]at Sw
 have a:=hle i (j-1) (by omega) (by omega)
 have b:=hle (j-1) j (by omega) U7
 have c:l.getD j 0≠l.getD (j-1) 0:=Sw.resolve_left (by omega)
 omega
theorem xV (cs:List T)(m:Nat):eY cs 0 m 1=eY (cs.take m) 0 m 1:=by
 unfold eY
 refine List.map_congr_left fun i hi=>?_
 have hi:=List.mem_range.1 hi
 rw[List.drop_take,List.take_take,Nat.min_eq_left (by omega)]
set_option maxHeartbeats 1000000 in
theorem u5 (b:Nat)(l:List Nat)(H:ae)(hb:H[b]?=some (.cells (aK eU l)))(h1:1≤l.length)(hl:l.length<4611686018427387903) :
  W env (.call 57 [.aB b 0 l.length 1]) H (fun o H'=>∃cs,o=.val (.aB b 0 (iZ l l.length).length 1)∧H'[b]?=some (.cells cs)∧cs.take (iZ l l.length).length=aK eU (iZ l l.length)∧bX (fun c=>c=b) H H'):=by
 refine W.cQ rfl rfl rfl ?_
 have VZ:(aK eU l).length=l.length:=by rw[cC (enc:=eU) (n:=1) (fun _=>rfl)];omega
 have e1:iZ l 1=l.take 1:=by
  cases l with
  | nil=>simp at h1
  | cons a l=>simp[iZ,newAt,List.range_succ]
 by_cases h2:l.length<2
 ·have U8:l.length=1:=by omega
  have e:iZ l l.length=l:=by rw[U8,e1];exact List.take_of_length_le (by omega)
  simp -implicitDefEqProofs only[EP,op,ef,cl,sq,reduceIte,q3,q4,q5,q6,q7,q9,j3,j4,j5,S1,h2]
  refine⟨_,by rw[e],hb,?_,bX.refl _ _⟩
  rw[e];exact List.take_of_length_le (by omega)
 simp -implicitDefEqProofs only[EP,op,ef,cl,sq,reduceIte,q3,q4,q5,q6,q7,q9,j3,j4,j5,S1,h2]
 refine W.ea [(0,_)] (fun (i:Nat) R H'=>H'=H∧R 3=.int .i64 i∧1≤i∧i≤l.length∧iZ l i=l.take i) (fun i=>l.length-i) 1 ⟨rfl,rfl,Nat.le_refl _,h1,e1⟩ ?_
 rintro i R H⟨rfl,g3,i1,hi,hd⟩
 by_cases aE:i<l.length
 rotate_left
 ·have l4:i=l.length:=by omega
  subst l4
  rw[List.take_length]at hd
  simp -implicitDefEqProofs only[aA,aw,op,ef,cl,sq,reduceIte,q3,q4,q5,q6,q7,q9,j3,j4,j5,S1,g3,aE]
  exact⟨_,by rw[hd],hb,by rw[hd];exact List.take_of_length_le (by omega),bX.refl _ _⟩
 obtain⟨x,hx⟩:=dQ aE
 obtain⟨y,hy⟩:=dQ (l:=l) (i:=i-1) (by omega)
 have ws:=aJ (show i<9223372036854775807 by omega)
 have wp:=mB (show i<9223372036854775807 by omega) i1
 have ii:=tG (c:=b) aE
 have ip:=tG (c:=b) (show i-1<l.length by omega)
 have gx:=cD (enc:=eU) (n:=1) (fun _=>rfl) hx 0 1 (by decide)
 have gy:=cD (enc:=eU) (n:=1) (fun _=>rfl) hy 0 1 (by decide)
 simp -implicitDefEqProofs only[Nat.add_zero,List.drop_zero,eU,List.take_succ_cons,List.take_zero]at gx gy
 by_cases he:x=y
 rotate_left
 ·have hn:newAt l i=true:=by
   simp -implicitDefEqProofs only[newAt,cu hx,cu hy,he,decide_false,Bool.not_false,Bool.or_true]
  simp -implicitDefEqProofs only[aA,aw,op,ef,cl,sq,reduceIte,q3,q4,q5,q6,q7,q9,j3,j4,j5,S1,g3,aE,aa,ii,ip,wp,hb,eU,gx,gy,he,ws]
  exact⟨i+1,by omega,rfl,by omega,aE,by rw[fX,hn,hd,List.take_add_one,hx,if_pos rfl,cu hx];rfl⟩
 have hn:newAt l i=false:=by
  have:¬i=0:=by omega
  simp -implicitDefEqProofs only[newAt,cu hx,cu hy,he,decide_true,Bool.not_true,Bool.or_false,this,decide_false]
 have Fl:i≤l.length:=by omega
 have Rk:¬i=l.length:=by omega
 simp -implicitDefEqProofs only[aA,aw,op,ef,cl,sq,reduceIte,q3,q4,q5,q6,q7,q9,j3,j4,j5,S1,g3,aE,aa,ii,ip,wp,hb,eU,gx,gy,he,Fl,Rk,and_self,Nat.le_refl]
 have oc:iZ l (i+1)=l.take i:=by rw[fX,hn,hd];simp
 refine W.ea [(0,_),(4,_)] (fun (j:Nat) R H'=>At H' (fun H'=>∃arr:List Nat,H'[b]?=some (.cells (aK eU arr))∧arr.length=l.length∧arr.take (iZ l (i+j)).length=iZ l (i+j)∧(∀p,(iZ l (i+j)).length≤p→arr[p]?=l[p]?)∧bX (fun c=>c=b) H H')∧R 5=.int .i64 j∧R 3=.int .i64 (iZ l (i+j)).length∧1≤j∧i+j≤l.length∧(iZ l (i+j)).length<i+j) (fun j=>l.length-j) 1 ⟨.i ⟨l,hb,rfl,?_,fun p _=>rfl,bX.refl _ _⟩,rfl,?_,Nat.le_refl _,aE,?_⟩ ?_
 ·rw[oc,List.length_take,Nat.min_eq_left Fl]
 ·rw[oc,List.length_take,Nat.min_eq_left Fl];exact g3
 ·rw[oc,List.length_take,Nat.min_eq_left Fl];omega
 rintro j R H2⟨⟨arr,pC,gR,xU,cA,ay⟩,g5,NZ,j1,hj,OJ⟩
 obtain⟨k,hk⟩:∃k,k=(iZ l (i+j)).length:=⟨_,rfl⟩
 rw[←hk]at xU cA NZ OJ
 have yh:(aK eU arr).length=l.length:=by rw[cC (enc:=eU) (n:=1) (fun _=>rfl)];omega
 by_cases pI:i+j<l.length
 rotate_left
 ·have I3:i+j=l.length:=by omega
  have CL:¬j<l.length-i:=by omega
  rw[I3]at hk xU
  have o9:k≤l.length:=by omega
  have Of:¬k=l.length:=by omega
  have Jp:1≤k:=by
   rw[hk]
   have hm:l[0]'(by omega)∈iZ l l.length:=rz.2 (List.getElem_mem (by omega))
   exact List.length_pos_of_mem hm
  have Rl:¬0=k:=by omega
  have lg:k*1+(l.length-k)*1≤(aK eU arr).length:=by rw[yh];omega
  simp -implicitDefEqProofs only[aA,aw,op,ef,cl,sq,reduceIte,q3,q4,q5,q6,q7,q9,j3,j4,j5,S1,g5,NZ,CL,aa,o9,Of,Rl,Nat.le_refl,Nat.zero_le,and_self,oA,pC,HZ,lg]
  refine⟨_,by rw[←hk,Nat.zero_mul,Nat.sub_zero],gh (bo pC),?_,ay.set (.inl rfl) _⟩
  rw[←hk,Nat.mul_one,List.append_assoc,List.take_append_of_le_length (by rw[List.length_take,yh];omega),List.take_take,Nat.min_self]
  have:=lL (enc:=eU) (n:=1) (fun _=>rfl) arr k
  rw[Nat.mul_one]at this
  rw[this,xU]
 have CL:j<l.length-i:=by omega
 obtain⟨x2,bZ⟩:=dQ pI
 obtain⟨y2,Rm⟩:=dQ (l:=l) (i:=i+(j-1)) (by omega)
 have U9:arr[i+j]?=some x2:=by rw[cA _ (by omega)];exact bZ
 have Va:arr[i+(j-1)]?=some y2:=by rw[cA _ (by omega)];exact Rm
 have xW:=aJ (show j<9223372036854775807 by omega)
 have Sx:=mB (show j<9223372036854775807 by omega) j1
 have Vb:=aJ (show k<9223372036854775807 by omega)
 have e7:i*1+j*1=(i+j)*1:=by omega
 have e8:i*1+(j-1)*1=(i+(j-1))*1:=by omega
 have ij:eW 1 j (.aB b (i*1) (l.length-i) 1)=some (.ptr b ((i+j)*1)):=by rw[fh,if_pos CL,if_neg (by decide),e7]
 have Sy:eW 1 (j-1) (.aB b (i*1) (l.length-i) 1)=some (.ptr b ((i+(j-1))*1)):=by rw[fh,if_pos (by omega),if_neg (by decide),e8]
 have ik:=tG (c:=b) (show k<l.length by omega)
 have Rn:=cD (enc:=eU) (n:=1) (fun _=>rfl) U9 0 1 (by decide)
 have Ro:=cD (enc:=eU) (n:=1) (fun _=>rfl) Va 0 1 (by decide)
 obtain⟨z,hz⟩:=dQ (l:=arr) (i:=k) (by omega)
 have ss:=fun Hx=>fx (enc:=eU) (n:=1) (y:=x2) (fun _=>rfl) hz Hx b (eU x2) 0 (by simp[eU]) (by simp[eU])
 simp -implicitDefEqProofs only[Nat.add_zero,List.drop_zero,eU,List.take_succ_cons,List.take_zero]at Rn Ro ss
 have e9:i+j-1=i+(j-1):=by omega
 have Vc:¬i+j=0:=by omega
 by_cases C2:x2=y2
 ·have Hs:newAt l (i+j)=false:=by
   simp -implicitDefEqProofs only[newAt,e9,cu bZ,cu Rm,C2,decide_true,Bool.not_true,Bool.or_false,Vc,decide_false]
  have bm:iZ l (i+(j+1))=iZ l (i+j):=by rw[show i+(j+1)=i+j+1 by omega,fX,Hs];simp
  simp -implicitDefEqProofs only[aA,aw,op,ef,cl,sq,reduceIte,q3,q4,q5,q6,q7,q9,j3,j4,j5,S1,g5,NZ,CL,aa,ij,Sy,Sx,pC,eU,Rn,Ro,C2,xW]
  refine⟨j+1,by omega,.i ⟨arr,pC,gR,by rw[bm,←hk];exact xU,by rw[bm,←hk];exact cA,ay⟩,rfl,by rw[bm,hk],by omega,by omega,by rw[bm,←hk];omega⟩
 ·have Hs:newAt l (i+j)=true:=by
   simp -implicitDefEqProofs only[newAt,e9,cu bZ,cu Rm,C2,decide_false,Bool.not_false,Bool.or_true]
  have bm:iZ l (i+(j+1))=iZ l (i+j)++[x2]:=by rw[show i+(j+1)=i+j+1 by omega,fX,Hs,cu bZ];simp
  have N0:(iZ l (i+(j+1))).length=k+1:=by rw[bm,List.length_append,←hk];rfl
  simp -implicitDefEqProofs only[aA,aw,op,ef,cl,sq,reduceIte,q3,q4,q5,q6,q7,q9,j3,j4,j5,S1,g5,NZ,CL,aa,ij,Sy,ik,Sx,pC,eU,Rn,Ro,C2,ss,xW,Vb]
  refine⟨j+1,by omega,.i ⟨arr.set k x2,gh (bo pC),by rw[List.length_set];exact gR,?_,?_,ay.set (.inl rfl) _⟩,rfl,by rw[N0],by omega,by omega,by rw[N0];omega⟩
  ·rw[N0,bm,List.take_add_one,List.getElem?_set_self (by omega),List.take_set_of_le (Nat.le_refl _),xU];rfl
  ·intro p hp
   rw[N0]at hp
   rw[List.getElem?_set_ne (by omega)]
   exact cA p (by omega)
theorem xX (b:Nat)(l:List Nat)(H:ae)(hb:H[b]?=some (.cells (aK eU l)))(h1:1≤l.length)(hl:l.length<4611686018427387903) :
  W env (.call 57 [.aB b 0 l.length 1]) H (fun o H'=>o=.val (.sl .arg ((iZ l l.length).map eU))∧bX (fun c=>c=b) H H'):=by
 refine .m8 _ (u5 b l H hb h1 hl) ?_
 rintro o H'⟨cs,ho,hc,ht,ay⟩
 refine⟨_,b,cs,ho,rfl,hc,?_,ay.set (.inl rfl) _⟩
 have hlen:(iZ l l.length).length≤cs.length:=by
  have h3:=congrArg List.length ht
  rw[List.length_take,cC (enc:=eU) (n:=1) (fun _=>rfl)]at h3
  omega
 have jC:0+(iZ l l.length).length*1≤cs.length:=by omega
 simp -implicitDefEqProofs only[rS,Go.Rmp.yv,jC,and_self,if_true]
 rw[xV,ht,wk (enc:=eU) (n:=1) (fun _=>rfl)]
def Fm (x:dV)(t:ByteArray):Bool:=(du t (dH x.cm) (l6 x.cm)).all (iP x.cm)
def gm (y x:dV):Bool:=decide (y.id<x.id)&&Fm x y.key
def bq (l:List dV)(y:dV):List Nat:=(l.filter (gm y)).map dV.id
def Fo (l:List Nat):List Nat:=l.mergeSort fun a b=>decide (a≤b)
def gC (l:List Nat):List Nat:=iZ (Fo l) (Fo l).length
theorem rA (l:List Nat):(Fo l).Perm l∧(Fo l).Pairwise (·≤·):=by
 refine⟨List.mergeSort_perm l _,?_⟩
 have h:=List.pairwise_mergeSort (le:=fun a b:Nat=>decide (a≤b)) (fun a b c h1 h2=>by simp at *;omega) (fun a b=>by simp;omega) l
 exact h.imp fun {a b} h=>by simpa using h
theorem jO {l:List Nat}{x:Nat}:x∈gC l↔x∈l:=by rw[gC,rz];exact(rA l).1.mem_iff
theorem tP (l:List Nat):(gC l).Pairwise (· < ·):=tO (rA l).2
theorem mO:∀{l l':List Nat},l.Pairwise (· < ·)→l'.Pairwise (· < ·)→(∀x,x∈l↔x∈l')→l=l'
 | [],[],_,_,_=>rfl
 | [],b :: l',_,_,h=>by have:=(h b).2 (by simp);simp at this
 | a :: l,[],_,_,h=>by have:=(h a).1 (by simp);simp at this
 | a :: l,b :: l',h1,h2,h=>by
  rw[List.pairwise_cons]at h1 h2
  have e:a=b:=by
   have ha:=(h a).1 (by simp)
   have hb:=(h b).2 (by simp)
   rcases List.mem_cons.1 ha with e|ha
   ·exact e
   rcases List.mem_cons.1 hb with e|hb
   ·exact e.symm
   have:=h1.1 b hb
   have:=h2.1 a ha
   omega
  subst e
  congr 1
  refine mO h1.2 h2.2 fun x=>⟨fun hx=>?_,fun hx=>?_⟩
  ·rcases List.mem_cons.1 ((h x).1 (List.mem_cons_of_mem _ hx))with e|ie
   ·subst e;exact absurd (h1.1 x hx) (Nat.lt_irrefl _)
   ·exact ie
  ·rcases List.mem_cons.1 ((h x).2 (List.mem_cons_of_mem _ hx))with e|ie
   ·subst e;exact absurd (h2.1 x hx) (Nat.lt_irrefl _)
   ·exact ie
theorem CM {l l':List Nat}(hp:l'.Perm l)(hs:l'.Pairwise (·≤·)):iZ l' l'.length=gC l:=mO (tO hs) (tP l) fun x=>by rw[rz,jO,hp.mem_iff]
abbrev Ak:=ByteArray×List Nat
def eA (a:Ak):List T:=[.str a.1,.sl .arg (a.2.map eU)]
def iQ (l:List dV)(y:dV):List Ak:=if bq l y=[]then []else [(y.key,gC (bq l y))]
def bH (l:List dV)(m:List dV):List Ak:=m.flatMap (iQ l)
theorem kP (l m:List dV):(bH l m).length≤m.length:=by
 induction m with
 | nil=>simp[bH]
 | cons y m ih =>
  simp -implicitDefEqProofs only[bH,List.flatMap_cons,List.length_append,List.length_cons]at ih ⊢
  have:(iQ l y).length≤1:=by unfold iQ;split<;>simp
  omega
theorem mZ (l m:List dV)(y:dV):bH l (m++[y])=bH l m++iQ l y:=by simp[bH]
theorem qv {l:List dV}(h:formed l=true):1≤l.length∧l.length≤1024∧(∀s∈l,a8 s=true)∧(l.map dV.key).Nodup:=by
 simp -implicitDefEqProofs only[formed,Bool.and_eq_true,decide_eq_true_eq,List.all_eq_true]at h
 exact⟨h.1.1.1,h.1.1.2,h.1.2,h.2⟩
theorem qw {s:dV}(h:a8 s=true)(h0:s.id≠0):fA s.cm=true:=by
 unfold a8 at h
 rw[if_neg h0]at h
 simp -implicitDefEqProofs only[Bool.and_eq_true]at h
 exact h.1.2
theorem m0 {α:Type}{p:α→Bool}{l:List α}{i:Nat}{x:α}(hx:l[i]?=some x):(l.take (i+1)).filter p=(l.take i).filter p++if p x then [x]else []:=by
 rw[List.take_add_one,hx,List.filter_append]
 congr 1
 cases h:p x<;>simp[h]
set_option maxHeartbeats 4000000 in
theorem Fp {N:Nat}(hS:B9 N)(k:SK)(l:List dV)(hb:∀s∈l,ry s)(hl:l.length≤8000000)(hN:l.length≤N)(H:ae):W env (.call 17 [.sl k (l.map (dG .arg))]) H (fun o H'=>Ext H H'∧((formed l=false∧∃ka,o=.val (.bC [.sl ka [],.int .i64 1]))∨(formed l=true∧∃ka,o=.val (.bC [.sl ka ((bH l l).map eA),.int .i64 0])))):=by
 refine W.cQ rfl rfl rfl ?_
 simp -implicitDefEqProofs only[Iq,op,ef,cl,sq,reduceIte,q3,q4,q5,q6,q7,q9,j3,j4,j5,S1]
 refine af _ _ _ _ _ _ _ _ (qu k l hb hl _) ?_
 rintro u H1⟨cX,⟨jn,kp,hu⟩|⟨gk,kp,ps,rI,hu⟩⟩
 ·cases hu
  simp -implicitDefEqProofs only[op,ef,cl,sq,reduceIte,q3,q4,q5,q6,q7,q9,j3,j4,j5,S1,jn]
  exact⟨cX,.inl ⟨_,rfl⟩⟩
 cases hu
 have cX:Ext H H1:=cX
 obtain⟨l1,l2,l9,jR⟩:=qv gk
 simp -implicitDefEqProofs only[op,ef,cl,sq,reduceIte,q3,q4,q5,q6,q7,q9,j3,j4,j5,S1,gk,List.length_map]
 refine W.ea [(0,_),(4,_),(19,_),(20,_)] (fun (i:Nat) R H'=>At H' (fun H'=>∃ka,R 6=.sl ka ((bH l (l.take i)).map eA)∧Ext H1 H'∧rO H1.length H' ka)∧R 21=.int .i64 i∧i≤l.length) (fun i=>l.length-i) 0 ⟨.i ⟨.nil,rfl,Ext.rfl',jL _ _⟩,rfl,Nat.zero_le _⟩ ?_
 rintro i R H2⟨⟨ka,g6,bZ,wP⟩,GR,hi⟩
 by_cases aE:i<l.length
 rotate_left
 ·have l4:i=l.length:=by omega
  subst l4
  rw[List.take_length]at g6
  simp -implicitDefEqProofs only[aA,aw,op,ef,cl,sq,reduceIte,q3,q4,q5,q6,q7,q9,j3,j4,j5,S1,List.length_map,g6,GR,aE]
  exact⟨cX.trans bZ,.inr ⟨ka,rfl⟩⟩
 obtain⟨y,hy⟩:=dQ aE
 have iy:=cZ (e:=dG .arg) (n:=4) (fun _=>rfl) (by decide) (k:=k) hy
 have ws:=aJ (show i<9223372036854775807 by omega)
 obtain⟨H3,I0⟩:∃H3,H3=H2++[B.cells (dG .arg y)]:=⟨_,rfl⟩
 have cY:Ext H2 H3:=⟨_,I0⟩
 have c3:H3[H2.length]?=some (.cells (dG .arg y)):=by rw[I0];exact bT rfl
 unfold dG at c3
 have CJ:=I0
 unfold dG at CJ
 have Ri:∀Hx,iU Hx 4 (.bh (dG .arg y))=some [.str y.key,.int .u64 y.id,.str y.val,.sl .arg (y.cm.map eB)]:=fun _=>rfl
 simp -implicitDefEqProofs only[aA,aw,op,ef,cl,sq,reduceIte,q3,q4,q5,q6,q7,q9,j3,j4,j5,S1,S2,S3,List.length_map,GR,aE,aa,iy,Ri]
 rw[←CJ]
 have Kf:=hb y (List.mem_of_getElem? hy)
 refine W.tf 2 [(0,_),(4,_),(6,_),(8,_),(19,_),(20,_),(21,_),(25,_),(26,_)] (fun (j:Nat) R H'=>At H' (fun H'=>uO eU 1 H3.length H' (R 9) (bq (l.take j) y)∧Ext H3 H')∧R 27=.int .i64 j∧j≤l.length) (fun j=>l.length-j) 0
  (fun R H'=>At H' (fun H'=>uO eU 1 H3.length H' (R 9) (bq l y)∧Ext H3 H')) ⟨.i ⟨nw _ _ _ _,Ext.rfl'⟩,rfl,Nat.zero_le _⟩ ?_ ?_
 ·rintro j R H4⟨⟨hm,dX⟩,JD,hj⟩
  have c4:=dX.get c3
  by_cases pI:j<l.length
  rotate_left
  ·have I3:j=l.length:=by omega
   subst I3
   rw[List.take_length]at hm
   have kz:¬l.length<ps.length:=by rw[rI.1];omega
   simp -implicitDefEqProofs only[aA,aw,op,ef,cl,sq,reduceIte,q3,q4,q5,q6,q7,q9,j3,j4,j5,S1,List.length_map,JD,rI.1,Nat.lt_irrefl,lJ]
   exact .i ⟨hm,dX⟩
  obtain⟨x,hx⟩:=dQ pI
  obtain⟨t,ht⟩:=dQ (l:=ps) (i:=j) (by rw[rI.1];exact pI)
  have it:=cZ (e:=eT) (n:=1) (fun _=>rfl) (by decide) (k:=kp) ht
  have Rp:=cZ (e:=dG .arg) (n:=4) (fun _=>rfl) (by decide) (k:=k) hx
  have xW:=aJ (show j<9223372036854775807 by omega)
  have x1:fH 1 (.bh (dG .arg x))=some (.bh [.int .u64 x.id,.str x.val,.sl .arg (x.cm.map eB)]):=rfl
  have FL:=((rI.2 j x t hx ht).ext (bZ.trans cY)).ext dX
  have jQ:=m0 (p:=gm y) hx
  have skip:gm y x=false→bq (l.take (j+1)) y=bq (l.take j) y:=fun e=>by
   unfold bq;rw[jQ,e];simp
  rcases FL with⟨N1,rfl⟩|⟨N1,bf,rfl,ki⟩
  ·have e:gm y x=false:=by unfold gm;rw[decide_eq_false (by omega),Bool.false_and]
   simp -implicitDefEqProofs only[aA,aw,op,ef,cl,sq,reduceIte,q3,q4,q5,q6,q7,q9,j3,j4,j5,S1,List.length_map,rI.1,JD,pI,aa,it,eT,mS,mR,xW]
   exact⟨j+1,by omega,.i ⟨by rw[skip e];exact hm,dX⟩,rfl,pI⟩
  by_cases fy:y.id<x.id
  rotate_left
  ·have e:gm y x=false:=by unfold gm;rw[decide_eq_false fy,Bool.false_and]
   simp -implicitDefEqProofs only[aA,aw,op,ef,cl,sq,reduceIte,q3,q4,q5,q6,q7,q9,j3,j4,j5,S1,List.length_map,rI.1,JD,pI,aa,it,eT,mS,mR,Rp,x1,c4,fy,xW]
   exact⟨j+1,by omega,.i ⟨by rw[skip e];exact hm,dX⟩,rfl,pI⟩
  obtain⟨b1,b2,j1,j2⟩:=nA (qw (l9 x (List.mem_of_getElem? hx)) N1)
  simp -implicitDefEqProofs only[aA,aw,op,ef,cl,sq,reduceIte,q3,q4,q5,q6,q7,q9,j3,j4,j5,S1,List.length_map,rI.1,JD,pI,aa,it,eT,mS,mR,Rp,x1,c4,fy]
  refine af _ _ _ _ _ _ _ _ (GQ ki b1 b2 j2 y.key Kf.2.2) ?_
  rintro u H5⟨nb,hu⟩
  cases hu
  have nb:Ext H4 H5:=nb
  have c5:=nb.get c4
  cases hh:(du y.key (dH x.cm) (l6 x.cm)).all (iP x.cm)
  ·have e:gm y x=false:=by unfold gm Fm;rw[hh,Bool.and_false]
   simp -implicitDefEqProofs only[op,ef,cl,sq,reduceIte,q3,q4,q5,q6,q7,q9,j3,j4,j5,S1,JD,c4,c5,xW]
   exact⟨j+1,by omega,.i ⟨by rw[skip e];exact hm.ext nb,dX.trans nb⟩,rfl,pI⟩
  have e:gm y x=true:=by unfold gm Fm;rw[hh,decide_eq_true fy];rfl
  have hJ:(bq (l.take j) y).length≤1024:=by
   unfold bq;rw[List.length_map]
   have:=List.length_filter_le (gm y) (l.take j)
   rw[List.length_take]at this;omega
  obtain⟨t',H6,ha,Vd,Rq⟩:=lM (enc:=eU) (n:=1) (fun _=>rfl) (bytes:=8) [x.id] (hm.ext nb) (dX.trans nb).len (by simp) (fS (by simp -implicitDefEqProofs only[List.length_cons,List.length_nil];omega))
  have I4:=rq (hm.ext nb)
  have o6:ko H5 1 8 (R 9) [[.int .u64 x.id]]=some (t',H6):=ha
  simp -implicitDefEqProofs only[op,ef,cl,sq,reduceIte,q3,q4,q5,q6,q7,q9,j3,j4,j5,S1,JD,c4,c5,aa,Rp,x1,I4,o6,xW]
  refine⟨j+1,by omega,.i ⟨?_,Rq.ext H3 (Nat.le_refl _) (dX.trans nb)⟩,rfl,pI⟩
  have e2:bq (l.take (j+1)) y=bq (l.take j) y++[x.id]:=by unfold bq;rw[jQ,e];simp
  rw[e2]
  exact Vd
 ·rintro R H4⟨hm,dX⟩
  have dX:Ext H3 H4:=dX
  have c4:=dX.get c3
  have Nc:=hm.len
  have hJ:(bq l y).length≤1024:=by
   unfold bq;rw[List.length_map]
   have:=List.length_filter_le (gm y) l
   omega
  have xU:bH l (l.take (i+1))=bH l (l.take i)++iQ l y:=by
   rw[List.take_add_one,hy];exact mZ _ _ _
  by_cases h0:bq l y=[]
  ·have e:bH l (l.take (i+1))=bH l (l.take i):=by rw[xU,iQ,if_pos h0,List.append_nil]
   have hz:gb H4 .sl (R 9)=some 0:=by rw[Nc,h0];rfl
   have V0:¬0<0:=by omega
   simp -implicitDefEqProofs only[aA,aw,op,ef,cl,sq,reduceIte,q3,q4,q5,q6,q7,q9,j3,j4,j5,S1,g6,GR,hz,ws]
   exact⟨i+1,by omega,.i ⟨ka,by rw[e],(bZ.trans cY).trans dX,(wP.ext cY).ext dX⟩,rfl,aE⟩
  have uq:0<(bq l y).length:=List.length_pos_iff.2 h0
  rcases hm with⟨h,_⟩|⟨c,g9,hc,N8⟩
  ·exact absurd h h0
  simp -implicitDefEqProofs only[aA,aw,op,ef,cl,sq,reduceIte,q3,q4,q5,q6,q7,q9,j3,j4,j5,S1,g9,gb,uq]
  have Ve:(bq l y).length≤N:=by
   unfold bq;rw[List.length_map]
   have:=List.length_filter_le (gm y) l
   omega
  refine af _ _ _ _ _ _ _ _ (hS c (bq l y) H4 hc Ve) ?_
  rintro u H5⟨hu,l',MW,Sz,E1,Rt⟩
  cases hu
  have Nd:l'.length=(bq l y).length:=Sz.length_eq
  have nb:Ext H3 H5:=tL dX Rt fun b hb=>by subst hb;exact N8
  have c5:=nb.get c3
  simp -implicitDefEqProofs only[op,ef,cl,sq,reduceIte,q3,q4,q5,q6,q7,q9,j3,j4,j5,S1,g9,c5]
  rw[←Nd]
  refine af _ _ _ _ _ _ _ _ (xX c _ H5 MW (by omega) (by omega)) ?_
  rintro u H6⟨hu,Ru⟩
  rw[CM Sz E1]at hu
  cases hu
  have ym:Ext H3 H6:=tL nb Ru fun b hb=>by subst hb;exact N8
  have c6:=ym.get c3
  have cj:=all_map (enc:=eA) (n:=2) (fun _=>rfl) (bH l (l.take i))
  have yh:=kP l (l.take i)
  rw[List.length_take]at yh
  obtain⟨k',H7,ha,uZ,po⟩:=oE (bytes:=40) ((bH l (l.take i)).map eA) [[T.str y.key,.sl .arg ((gC (bq l y)).map eU)]] ((wP.ext cY).ext ym) (Nat.le_trans bZ.len (cY.trans ym).len) (by simp) (fS (by simp -implicitDefEqProofs only[List.length_map,List.length_cons,List.length_nil];omega))
  simp -implicitDefEqProofs only[op,ef,cl,sq,reduceIte,q3,q4,q5,q6,q7,q9,j3,j4,j5,S1]at ha
  simp -implicitDefEqProofs only[op,ef,cl,sq,reduceIte,q3,q4,q5,q6,q7,q9,j3,j4,j5,S1,g6,GR,c5,c6,cj,ha,ws]
  refine⟨i+1,by omega,.i ⟨k',?_,po.ext H1 (Nat.le_refl _) ((bZ.trans cY).trans ym),uZ⟩,rfl,aE⟩
  rw[xU,iQ,if_neg h0,List.map_append];rfl
theorem fY:∀l:List Nat,bytesOf (l.map eB)=some (l.map UInt8.ofNat)
 | []=>rfl
 | n :: l=>by
  show bytesOf ([.int .u8 n] :: l.map eB)=_
  simp -implicitDefEqProofs only[bytesOf,fY l,Option.map_some,Int.toNat_natCast,List.map_cons]
def tQ (l:List Nat):ByteArray:=⟨(l.map UInt8.ofNat).toArray⟩
theorem I5 (k k':SK)(l l':List Nat)(H:ae):W env (.call 30 [.sl k (l.map eB),.sl k' (l'.map eB)]) H (rN (.bool (decide (tQ l=tQ l'))) H):=by
 refine W.cQ rfl rfl rfl ?_
 have h1:=all_map (enc:=eB) (n:=1) (fun _=>rfl) l
 have h2:=all_map (enc:=eB) (n:=1) (fun _=>rfl) l'
 simp -implicitDefEqProofs only[Iw,op,ef,cl,sq,reduceIte,q3,q4,q5,q6,q7,q9,j3,j4,j5,S1,h1,h2,fY,tQ]
 exact decide_eq_decide.2 Iff.rfl
theorem Fq (k k':SK)(s s':dV)(H:ae):W env (.call 13 [.agg (dG k s),.agg (dG k' s')]) H (fun o H'=>Ext H H'∧∃b,o=.val (.bool b)∧(b=true↔s.key=s'.key∧s.id=s'.id∧s.val=s'.val∧tQ s.cm=tQ s'.cm)):=by
 refine W.cQ rfl rfl rfl ?_
 by_cases h1:s.key=s'.key
 rotate_left
 ·simp -implicitDefEqProofs only[xK,dG,op,ef,cl,sq,reduceIte,q3,q4,q5,q6,q7,q9,j3,j4,j5,S1,S2,S3,h1]
  exact⟨(Ext.rfl'.app _).app _,_,rfl,by simp⟩
 by_cases h2:s.id=s'.id
 rotate_left
 ·simp -implicitDefEqProofs only[xK,dG,op,ef,cl,sq,reduceIte,q3,q4,q5,q6,q7,q9,j3,j4,j5,S1,S2,S3,h1,h2]
  exact⟨(Ext.rfl'.app _).app _,_,rfl,by simp⟩
 by_cases h3:s.val=s'.val
 rotate_left
 ·simp -implicitDefEqProofs only[xK,dG,op,ef,cl,sq,reduceIte,q3,q4,q5,q6,q7,q9,j3,j4,j5,S1,S2,S3,h1,h2,h3]
  exact⟨(Ext.rfl'.app _).app _,_,rfl,by simp⟩
 simp -implicitDefEqProofs only[xK,dG,op,ef,cl,sq,reduceIte,q3,q4,q5,q6,q7,q9,j3,j4,j5,S1,S2,S3,h1,h2,h3]
 refine af _ _ _ _ _ _ _ _ (I5 k k' s.cm s'.cm _) ?_
 rintro u H1⟨hu,rfl⟩
 cases hu
 simp -implicitDefEqProofs only[op,ef,cl,sq,reduceIte,q3,q4,q5,q6,q7,q9,j3,j4,j5,S1,S2,S3]
 exact⟨(Ext.rfl'.app _).app _,_,rfl,by simp⟩
theorem CN (k:SK)(l:List dV)(hb:∀s∈l,ry s)(hl:l.length≤8000000)(H:ae):W env (.call 16 [.sl k (l.map (dG .arg))]) H (fun o H'=>Ext H H'∧o=.val (.bool (formed l))):=by
 refine W.cQ rfl rfl rfl ?_
 simp -implicitDefEqProofs only[Ip,op,ef,cl,sq,reduceIte,q3,q4,q5,q6,q7,q9,j3,j4,j5,S1]
 refine af _ _ _ _ _ _ _ _ (qu k l hb hl _) ?_
 rintro u H1⟨cX,⟨jn,kp,hu⟩|⟨gk,kp,ps,rI,hu⟩⟩
 ·cases hu
  simp -implicitDefEqProofs only[op,ef,cl,sq,reduceIte,q3,q4,q5,q6,q7,q9,j3,j4,j5,S1,jn]
  exact cX
 ·cases hu
  simp -implicitDefEqProofs only[op,ef,cl,sq,reduceIte,q3,q4,q5,q6,q7,q9,j3,j4,j5,S1,gk]
  exact cX
theorem fG {α:Type}{l:List α}{i:Nat}{x:α}(hx:l[i]?=some x):l.take (i+1)=l.take i++[x]:=by rw[List.take_add_one,hx];rfl
abbrev Ln:=Nat×dV
def Vf:List T:=[.str ⟨#[115,112,97,114,101]⟩,.int .u64 0,.str ⟨#[]⟩,.sl .arg []]
def ua:Option Ln→List T
 | some q=>[.str q.2.key,.int .u64 q.2.id,.str q.2.val,.aB q.1 0 q.2.cm.length 1]
 | none=>Vf
theorem gD (q:Option Ln):(ua q).length=4:=by cases q<;>rfl
def u6 (ql:List Ln):List (Option Ln):=ql.map some++[none]
structure oS (H:ae)(t:T)(ql:List Ln):Prop where
 at_:∃b,t=.aB b 0 ql.length 4∧H[b]?=some (.fz (aK ua (u6 ql)))
 fl:∀q∈ql,H[q.1]?=some (.fz (aK eB (q.2.cm++[165])))
structure CO (H:ae)(t:T)(ql:List Ln):Prop where
 at_:∃b,t=.aB b 0 ql.length 4∧H[b]?=some (.cells (aK ua (u6 ql)))∧∀q∈ql,q.1≠b
 fl:∀q∈ql,H[q.1]?=some (.cells (aK eB (q.2.cm++[165])))
 nd:(ql.map (·.1)).Nodup
theorem oS.ext {H H':ae}{t:T}{ql:List Ln}(h:oS H t ql)(hx:Ext H H'):oS H' t ql:=by
 obtain⟨b,h1,h2⟩:=h.at_
 exact⟨⟨b,h1,hx.get h2⟩,fun q hq=>hx.get (h.fl q hq)⟩
theorem rB {ql:List Ln}{i:Nat}{q:Ln}(h:ql[i]?=some q):(u6 ql)[i]?=some (some q):=by
 have hi:=(List.getElem?_eq_some_iff.1 h).1
 unfold u6
 rw[List.getElem?_append_left (by simpa using hi),List.getElem?_map,h];rfl
theorem Fs (ql:List Ln):(u6 ql)[ql.length]?=some none:=by
 unfold u6
 rw[List.getElem?_append_right (by simp)];simp
theorem rC (n off:Nat)(cs:List T):jT n off (some (.fz cs))=jT n off (some (.cells cs)):=rfl
theorem u7 {α:Type}{enc:α→List T}{n:Nat}(hn:∀x,(enc x).length=n){xs:List α}{i j:Nat}{x:α}(hx:xs[i]?=some x)(hj:j<n):(aK enc xs)[i*n+j]?=(enc x)[j]?:=by
 have h:=cD hn hx j 1 (by omega)
 have hle:i*n+j+1≤(aK enc xs).length:=by
  rw[cC hn]
  have hi:=(List.getElem?_eq_some_iff.1 hx).1
  have:(i+1)*n≤xs.length*n:=Nat.mul_le_mul_right n hi
  rw[Nat.add_mul]at this;omega
 have JA:j<(enc x).length:=by rw[hn];exact hj
 simp -implicitDefEqProofs only[jT,if_pos hle,Option.some.injEq]at h
 have e1:(((aK enc xs).drop (i*n+j)).take 1)[0]?=(aK enc xs)[i*n+j]?:=by simp
 have e2:(((enc x).drop j).take 1)[0]?=(enc x)[j]?:=by simp
 rw[←e1,←e2,h]
theorem Ft {α:Type}{enc:α→List T}{n:Nat}(hn:∀x,(enc x).length=n)(h1:∀x,∀t∈enc x,t.one=true){H:ae}{b:Nat}{xs ys:List α}(hb:H[b]?=some (.fz (aK enc (xs++ys)))):Vw H (.aB b 0 xs.length n) (.sl .arg (xs.map enc)):=by
 have key:∀(i j:Nat) (c:List T) (t':T),(xs.map enc)[i]?=some c→c[j]?=some t'→(aK enc (xs++ys))[0+i*n+j]?=some t'∧t'.one=true:=fun i j c t' hi hj=>by
  rw[List.getElem?_map]at hi
  cases hx:xs[i]? with
  | none=>rw[hx]at hi;cases hi
  | some x =>
   rw[hx]at hi;cases hi
   have JA:j<n:=by have:=(List.getElem?_eq_some_iff.1 hj).1;rwa[hn]at this
   have lB:=(List.getElem?_eq_some_iff.1 hx).1
   have bZ:(xs++ys)[i]?=some x:=by rw[List.getElem?_append_left lB];exact hx
   rw[Nat.zero_add,u7 hn bZ JA]
   exact⟨hj,h1 x t' (List.mem_of_getElem? hj)⟩
 refine .ms (cs:=aK enc (xs++ys)) (fun i j=>((aK enc (xs++ys))[0+i*n+j]?).getD .bI) hb (by simp) (fun c hc=>?_) ?_ (fun i j c t' hi hj=>?_) (fun i j c t' hi hj=>?_)
 ·obtain⟨x,_,rfl⟩:=List.mem_map.1 hc;exact hn x
 ·rw[cC hn,List.length_append,Nat.add_mul];omega
 ·obtain⟨k1,k2⟩:=key i j c t' hi hj
  rw[k1];exact⟨rfl,k2⟩
 ·obtain⟨k1,_⟩:=key i j c t' hi hj
  rw[k1];exact .refl _
theorem oS.vw {H:ae}{t:T}{ql:List Ln}(h:oS H t ql):Vw H t (.sl .arg ((ql.map (·.2)).map (dG .arg))):=by
 obtain⟨b,rfl,hb⟩:=h.at_
 have hlen:(u6 ql).length=ql.length+1:=by simp[u6]
 refine .ms (cs:=aK ua (u6 ql)) (fun i j=>((aK ua (u6 ql))[i*4+j]?).getD .bI) hb (by simp) (fun c hc=>?_) (by rw[cC gD,hlen];omega) (fun i j c t' hi hj=>?_) (fun i j c t' hi hj=>?_)
 ·obtain⟨x,_,rfl⟩:=List.mem_map.1 hc;rfl
 all_goals
  rw[List.getElem?_map,List.getElem?_map]at hi
  cases hq:ql[i]? with
  | none=>rw[hq]at hi;cases hi
  | some q =>
   rw[hq]at hi
   simp -implicitDefEqProofs only[Option.map_some,Option.some.injEq]at hi
   subst hi
   have SA:j<4:=(List.getElem?_eq_some_iff.1 hj).1
   have Nt:=u7 (enc:=ua) (n:=4) gD (rB hq) SA
   simp -implicitDefEqProofs only[Nat.zero_add,Nt]
   match j,SA with
   | 0,_=>cases hj;first|exact⟨rfl,rfl⟩|exact .refl _
   | 1,_=>cases hj;first|exact⟨rfl,rfl⟩|exact .refl _
   | 2,_=>cases hj;first|exact⟨rfl,rfl⟩|exact .refl _
   | 3,_ =>
    cases hj
    first
    | exact⟨rfl,rfl⟩
    | exact Ft (enc:=eB) (n:=1) (fun _=>rfl) (fun x t ht=>by rw[List.mem_singleton.1 ht];rfl) (h.fl q (List.mem_of_getElem? hq))
theorem SB {E:Env}{f:Nat}{t t':T}{rest:List T}{H:ae}{Q:Out→ae→Prop}(hv:Vw H t t')(h:W E (.call f (t' :: rest)) H Q):W E (.call f (t :: rest)) H Q :=
 .vw (yB:=t' :: rest) rfl (fun i a b ha hb=>by
  cases i with
  | zero=>cases ha;cases hb;exact hv
  | succ i =>
   simp -implicitDefEqProofs only[List.getElem?_cons_succ]at ha hb
   rw[ha]at hb;cases hb;exact .refl _) h
theorem oS.call {E:Env}{f:Nat}{t:T}{ql:List Ln}{rest:List T}{H:ae}{Q:Out→ae→Prop}(hl:oS H t ql)(h:W E (.call f (.sl .arg ((ql.map (·.2)).map (dG .arg)) :: rest)) H Q):W E (.call f (t :: rest)) H Q:=SB hl.vw h
def nf (H:ae)(bs:List Nat):ae:=bs.foldl (fun (H:ae) (b:Nat)=>match H[b]? with|some (B.cells cs)=>H.set b (B.fz cs)|_=>H) H
theorem Jh.fz {H:ae}{az:List T}{b b0:Nat}{qz:List T}(h:Jh H az b)(hb:H[b0]?=some (.cells qz)):Jh (H.set b0 (.fz qz)) az b:=by
 obtain⟨i,b',off,len,n,h1,h2⟩:=h
 refine⟨i,b',off,len,n,h1,?_⟩
 rcases h2 with h2|⟨cs,j,yw,yx,n',h3,h4⟩
 ·exact .inl h2
 ·refine .inr ⟨cs,j,yw,yx,n',?_,h4⟩
  by_cases e:b'=b0
  ·subst e
   rw[hb]at h3
   rcases h3 with h3|h3
   ·cases h3;exact .inr (gh (bo hb))
   ·cases h3
  ·rw[List.getElem?_set_ne (fun h=>e h.symm)];exact h3
theorem I6 {E:Env}{f:Nat}{az:List T}{Q:Out→ae→Prop}:∀(bs:List Nat) (H:ae),(∀b∈bs,Jh H az b)→W E (.call f az) (nf H bs) Q→W E (.call f az) H Q
 | [],_,_,h=>h
 | b :: bs,H,hk,h=>by
  unfold nf at h
  simp -implicitDefEqProofs only[List.foldl_cons]at h
  split at h
  ·rename_i cs hb
   exact .Jj (hk b List.mem_cons_self) hb (I6 bs _ (fun b' eR=>Jh.fz (hk b' (List.mem_cons_of_mem _ eR)) hb) h)
  ·exact I6 bs H (fun b' eR=>hk b' (List.mem_cons_of_mem _ eR)) h
theorem oT:∀(bs:List Nat) (H:ae),(nf H bs).length=H.length
 | [],_=>rfl
 | b :: bs,H=>by
  unfold nf
  simp -implicitDefEqProofs only[List.foldl_cons]
  split
  ·rename_i cs _
   have:=oT bs (H.set b (B.fz cs));unfold nf at this;rw[this];simp
  ·exact oT bs H
theorem rD:∀(bs:List Nat) (H:ae) (b:Nat),b∉bs→(nf H bs)[b]?=H[b]?
 | [],_,_,_=>rfl
 | c :: bs,H,b,h=>by
  have h1:b≠c:=fun e=>h (by rw[e];exact List.mem_cons_self)
  have h2:b∉bs:=fun e=>h (List.mem_cons_of_mem _ e)
  unfold nf
  simp -implicitDefEqProofs only[List.foldl_cons]
  split
  ·rename_i cs _
   have:=rD bs (H.set c (B.fz cs)) b h2
   unfold nf at this;rw[this,List.getElem?_set_ne (fun e=>h1 e.symm)]
  ·exact rD bs H b h2
theorem nB:∀(bs:List Nat) (H:ae) (b:Nat) (cs:List T),b∈bs→H[b]?=some (.cells cs)→(nf H bs)[b]?=some (.fz cs)
 | c :: bs,H,b,cs,hm,hb=>by
  unfold nf
  simp -implicitDefEqProofs only[List.foldl_cons]
  by_cases e:b=c
  ·subst e
   rw[hb]
   simp only
   by_cases qQ:b∈bs
   ·have key:∀(l:List Nat) (H:ae),H[b]?=some (.fz cs)→(l.foldl (fun (H:ae) (b:Nat)=>match H[b]? with|some (B.cells cs)=>H.set b (B.fz cs)|_=>H) H)[b]?=some (.fz cs):=by
     intro l
     induction l with
     | nil=>exact fun _ h=>h
     | cons d l ih =>
      intro H h
      simp -implicitDefEqProofs only[List.foldl_cons]
      refine ih _ ?_
      split
      ·rename_i hd
       rw[List.getElem?_set_ne (by rintro rfl;rw[h]at hd;cases hd)];exact h
      ·exact h
    exact key bs _ (gh (bo hb))
   ·have:=rD bs (H.set b (.fz cs)) b qQ
    unfold nf at this;rw[this];exact gh (bo hb)
  ·have qQ:b∈bs:=(List.mem_cons.1 hm).resolve_left e
   split
   ·exact nB bs _ b cs qQ (by rw[List.getElem?_set_ne (fun h=>e h.symm)];exact hb)
   ·exact nB bs H b cs qQ hb
theorem CO.call {E:Env}{f:Nat}{t:T}{ql:List Ln}{rest:List T}{H:ae}{Q:Out→ae→Prop}(hl:CO H t ql)(h:∀H',oS H' t ql→H'.length=H.length→W E (.call f (.sl .arg ((ql.map (·.2)).map (dG .arg)) :: rest)) H' Q):W E (.call f (t :: rest)) H Q:=by
 obtain⟨b,e,hb,aY⟩:=hl.at_
 obtain⟨bs,rH⟩:∃bs,bs=b :: ql.map (·.1):=⟨_,rfl⟩
 have hL:oS (nf H bs) t ql:=⟨⟨b,e,nB bs H b _ (by rw[rH];exact List.mem_cons_self) hb⟩,fun q hq=>nB bs H q.1 _ (by rw[rH];exact List.mem_cons_of_mem _ (List.mem_map_of_mem hq)) (hl.fl q hq)⟩
 refine I6 bs H (fun c hc=>?_) (SB hL.vw (h _ hL (oT bs H)))
 rw[rH]at hc
 rcases List.mem_cons.1 hc with rfl|hc
 ·exact⟨0,c,0,ql.length,4,by rw[e];rfl,.inl rfl⟩
 ·obtain⟨q,hq,rfl⟩:=List.mem_map.1 hc
  obtain⟨i,hi,Vg⟩:=List.getElem_of_mem hq
  have Vh:ql[i]?=some q:=by rw[←Vg];exact List.getElem?_eq_getElem hi
  refine⟨0,b,0,ql.length,4,by rw[e];rfl,.inr ⟨_,i*4+3,0,q.2.cm.length,1,.inl hb,?_⟩⟩
  rw[u7 (enc:=ua) (n:=4) gD (rB Vh) (by decide)];rfl
theorem CP {R:ax}{Hx:ae}{a h c m k n:Nat}(ha:R a=.aB c 0 m n)(hh:R h=.int .i64 (k:Nat))(hk:k≤m):av R Hx (.kR n (.r a) none (some (.r h)) none)=some (.aB c 0 k n,Hx):=by
 have e1:fe R m (some (X.r h))=some k:=by simp -implicitDefEqProofs only[fe,X.ev,hh,aa]
 simp -implicitDefEqProofs only[av,X.ev,ha,e1,show fe R 0 none=some 0 from rfl,Nat.zero_le,hk,and_self,if_true]
 by_cases h0:k=0
 ·subst h0;simp
 ·simp[Ne.symm h0]
theorem CQ {R:ax}{Hx:ae}{a h c m k n:Nat}{cs:List T}(ha:R a=.aB c 0 m n)(hh:R h=.int .i64 (k:Nat))(hc:Hx[c]?=some (.fz cs))(h0:0<k)(hn:n≠0)(hk:k*n≤cs.length):av R Hx (.Da n (.r a) (.r h))=some (.aB c 0 k n,Hx):=by
 have e1:rR Hx c=cs.length:=by simp -implicitDefEqProofs only[rR,hc]
 simp -implicitDefEqProofs only[av,X.ev,ha,hh,aa,e1,hn,h0,Nat.zero_add,hk,ne_eq,not_false_eq_true,and_self,if_true]
theorem Nf (k:SK)(l:List Nat)(H:ae)(hl:l.length≤1073741824):W env (.call 29 [.sl k (l.map eB)]) H (fun o H'=>Ext H H'∧∃t',o=.val t'∧uO eB 1 H.length H' t' l):=by
 refine W.cQ rfl rfl rfl ?_
 have cj:=all_map (enc:=eB) (n:=1) (fun _=>rfl) l
 have I4:FB (.sl .nil [])=.sl .nil []:=rfl
 by_cases h0:l=[]
 ·subst h0
  simp -implicitDefEqProofs only[EO,op,ef,cl,sq,reduceIte,q3,q4,q5,q6,q7,q9,j3,j4,j5,S1,List.map_nil,I4,ko,vj,List.all_nil]
  exact⟨Ext.rfl',_,rfl,nw _ _ _ _⟩
 ·obtain⟨t',H',ha,hm,ji⟩:=lM (enc:=eB) (n:=1) (fun _=>rfl) (bytes:=1) l (nw eB 1 H.length H) (Nat.le_refl _) h0 (fS (by simp;omega))
  simp -implicitDefEqProofs only[EO,op,ef,cl,sq,reduceIte,q3,q4,q5,q6,q7,q9,j3,j4,j5,S1,cj,I4,ha]
  exact⟨ji.ext H (Nat.le_refl _) Ext.rfl',by simpa using hm⟩
def lV (p:SK×dV):List T:=dG p.1 p.2
theorem rE {α:Type}{enc:α→List T}{n n0:Nat}{H:ae}{t:T}{l:List α}(h:uO enc n n0 H t l)(hl:l≠[]):∃c,t=.aB c 0 l.length n∧H[c]?=some (.cells (aK enc l))∧n0≤c:=by
 rcases h with⟨e,_⟩|h
 ·exact absurd e hl
 ·exact h
set_option maxHeartbeats 2000000 in
theorem I7 (k:SK)(pl:List (SK×dV))(H:ae)(hl:pl.length≤8000000)(hf:∀s∈pl,s.2.cm.length≤1073741823):W env (.call 15 [.sl k (pl.map lV)]) H (fun o H'=>Ext H H'∧∃t ql,o=.val t∧ql.map (·.2)=pl.map (·.2)∧CO H' t ql):=by
 refine W.cQ rfl rfl rfl ?_
 obtain⟨l,kz⟩:∃l,l=pl.map (·.2):=⟨_,rfl⟩
 have hJ:l.length=pl.length:=by rw[kz];simp
 rw[←kz]
 rw[←hJ]at hl
 simp -implicitDefEqProofs only[Im,op,ef,cl,sq,reduceIte,q3,q4,q5,q6,q7,q9,j3,j4,j5,S1]
 refine W.ea [(0,_)] (fun (i:Nat) R H'=>At H' (fun H'=>∃tw ql,R 3=tw∧ql.map (·.2)=l.take i∧Ext H H'∧uO ua 4 H.length H' tw (ql.map some)∧(∀q∈ql,H.length≤q.1∧H'[q.1]?=some (.cells (aK eB (q.2.cm++[165]))))∧(ql.map (·.1)).Nodup∧∀q∈ql,tb tw≠some q.1)∧R 4=.int .i64 i∧i≤l.length) (fun i=>l.length-i) 0
  ⟨.i ⟨_,[],rfl,rfl,Ext.rfl',nw _ _ _ _,by simp,by simp,by simp⟩,rfl,Nat.zero_le _⟩ ?_
 rintro i R H2⟨⟨tw,ql,g3,GU,bZ,hm,hq,jR,aY⟩,g4,hi⟩
 have Ng:ql.length=i:=by have:=congrArg List.length GU;simp -implicitDefEqProofs only[List.length_map,List.length_take]at this;omega
 have I4:=rq hm
 by_cases aE:i<l.length
 rotate_left
 ·have l4:i=l.length:=by omega
  obtain⟨t',H3,ha,Vi,ji⟩:=lM (enc:=ua) (n:=4) gD (bytes:=64) [none] hm bZ.len (by simp) (fS (by simp -implicitDefEqProofs only[List.length_map,List.length_cons,List.length_nil];omega))
  have o6:ko H2 4 64 tw [[.str ⟨#[115,112,97,114,101]⟩,.int .u64 0,.str ⟨#[]⟩,.sl .arg []]]=some (t',H3):=ha
  obtain⟨c,rfl,hc,_⟩:=rE Vi (by simp)
  have Vj:(ql.map some++[none]:List (Option Ln)).length=ql.length+1:=by simp
  rw[Vj]at o6
  have hs:∀R Hx,R 51=.aB c 0 (ql.length+1) 4→R 53=.int .i64 (l.length:Nat)→av R Hx (.kR 4 (.r 51) none (some (.r 53)) none)=some (.aB c 0 l.length 4,Hx):=fun R Hx h1 h2=>CP h1 h2 (by omega)
  simp -implicitDefEqProofs only[aA,aw,op,ef,cl,sq,reduceIte,q3,q4,q5,q6,q7,q9,j3,j4,j5,S1,g3,g4,List.length_map,←hJ,aE,I4,o6,↓hs]
  rw[l4,List.take_length]at GU
  refine⟨ji.ext H (Nat.le_refl _) bZ,_,ql,rfl,GU,⟨c,by rw[Ng,l4],hc,fun q o4 e=>?_⟩,fun q o4=>ji.get _ _ (hq q o4).2 fun off len n e=>aY q o4 (by rw[e];rfl),jR⟩
  have h1:=wm o6 (by simp)
  have h2:=bo (hq q o4).2
  omega
 obtain⟨⟨ks,s⟩,Rv⟩:=dQ (l:=pl) (i:=i) (by omega)
 have hs:l[i]?=some s:=by rw[kz,List.getElem?_map,Rv];rfl
 have is:eW 4 i (.sl k (pl.map lV))=some (.bh (dG ks s)):=cZ (e:=lV) (n:=4) (fun _=>rfl) (by decide) (k:=k) Rv
 have qt:=aJ (show i<9223372036854775807 by omega)
 have Rw:=hf _ (List.mem_of_getElem? Rv)
 simp only at Rw
 have f3:fH 3 (.bh (dG ks s))=some (.bh [.sl ks (s.cm.map eB)]):=rfl
 have f0:fH 0 (.bh (dG ks s))=some (.bh (dG ks s)):=rfl
 have f1:fH 1 (.bh (dG ks s))=some (.bh [.int .u64 s.id,.str s.val,.sl ks (s.cm.map eB)]):=rfl
 have f2:fH 2 (.bh (dG ks s))=some (.bh [.str s.val,.sl ks (s.cm.map eB)]):=rfl
 have l0:∀Hx,iU Hx 1 (.bh (dG ks s))=some [.str s.key]:=fun _=>rfl
 simp -implicitDefEqProofs only[aA,aw,op,ef,cl,sq,reduceIte,q3,q4,q5,q6,q7,q9,j3,j4,j5,S1,g4,List.length_map,←hJ,aE,aa,is,f3,dP]
 refine af _ _ _ _ _ _ _ _ (Nf ks s.cm _ (by omega)) ?_
 rintro t3 H3⟨cY,V1,hu,m3⟩
 cases hu
 have cY:Ext H2 H3:=cY
 have Rx:=rq m3
 obtain⟨t4,H4,Vk,m4,Vl⟩:=lM (enc:=eB) (n:=1) (fun _=>rfl) (bytes:=1) [165] m3 cY.len (by simp) (fS (by simp -implicitDefEqProofs only[List.length_cons,List.length_nil];omega))
 have Nh:ko H3 1 1 t3 [[.int .u8 165]]=some (t4,H4):=Vk
 have dX:Ext H2 H4:=Vl.ext H2 (Nat.le_refl _) cY
 obtain⟨c,rfl,hc,o8⟩:=rE m4 (by simp)
 have Vm:(s.cm++[165]).length=s.cm.length+1:=by simp
 rw[Vm]at Nh
 have NY:∀R Hx,R 36=.aB c 0 (s.cm.length+1) 1→R 42=.int .i64 (s.cm.length:Nat)→av R Hx (.kR 1 (.r 36) none (some (.r 42)) none)=some (.aB c 0 s.cm.length 1,Hx):=fun R Hx h1 h2=>CP h1 h2 (by omega)
 have Vn:=uO.ext hm dX
 obtain⟨t5,H5,Vo,m5,SC⟩:=lM (enc:=ua) (n:=4) gD (bytes:=64) [some (c,s)] Vn (Nat.le_trans bZ.len dX.len) (by simp) (fS (by simp -implicitDefEqProofs only[List.length_map,List.length_cons,List.length_nil];omega))
 have Ni:ko H4 4 64 tw [[.str s.key,.int .u64 s.id,.str s.val,.aB c 0 s.cm.length 1]]=some (t5,H5):=Vo
 have Vp:∀a b n m,(T.aB a b n m).erase=.aB a b n m:=fun _ _ _ _=>rfl
 simp -implicitDefEqProofs only[op,ef,cl,sq,reduceIte,q3,q4,q5,q6,q7,q9,j3,j4,j5,S1,Rx,Nh,Vp,g3,g4,aa,is,f0,f1,f2,f3,l0,dP,List.length_map,↓NY,I4,Ni,qt]
 have Vq:∀c',tb tw=some c'→c'<H2.length:=fun c' h=>by
  rcases hm with⟨_,e⟩|⟨c2,e,h2,_⟩
  ·rw[e]at h;cases h
  ·rw[e]at h;cases h;exact bo h2
 have GV:∀b x,H4[b]?=some x→tb tw≠some b→H5[b]?=some x:=fun b x hb hn=>SC.get b x hb fun off len n e=>hn (by rw[e];rfl)
 have Nj:∀q∈ql,q.1<H2.length:=fun q o4=>bo (hq q o4).2
 refine⟨i+1,by omega,.i ⟨t5,ql++[(c,s)],rfl,?_,SC.ext H (Nat.le_refl _) (bZ.trans dX),by simpa using m5,fun q o4=>?_,?_,fun q o4 e=>?_⟩,rfl,aE⟩
 ·rw[fG hs,List.map_append,GU];rfl
 ·rcases List.mem_append.1 o4 with o4|o4
  ·exact⟨(hq q o4).1,GV _ _ (dX.get (hq q o4).2) (aY q o4)⟩
  ·cases List.mem_singleton.1 o4
   exact⟨Nat.le_trans bZ.len o8,GV _ _ hc fun e=>by have:=Vq c e;omega⟩
 ·rw[List.map_append]
  refine List.nodup_append.2 ⟨jR,by simp,fun a ha b hb e=>?_⟩
  obtain⟨q,o4,rfl⟩:=List.mem_map.1 ha
  simp at hb
  have:=Nj q o4
  omega
 ·obtain⟨c5,rfl,_,_⟩:=rE m5 (by simp)
  have h1:=wm Ni (by simp)
  cases e
  rcases List.mem_append.1 o4 with o4|o4
  ·have:=Nj q o4;have:=dX.len;omega
  ·cases List.mem_singleton.1 o4
   have:=bo hc;omega
theorem Fu (k k':SK)(l:List dV)(pl:List (SK×dV))(hl:pl.map (·.2)=l)(hn:pl.length≤8000000)(H:ae):W env (.call 38 [.sl k (l.map (dG .arg)),.sl k' (pl.map lV)]) H (fun o H'=>Ext H H'∧o=.val (.bool true)):=by
 have hJ:l.length=pl.length:=by rw[←hl];simp
 refine W.cQ rfl rfl rfl ?_
 simp -implicitDefEqProofs only[Ix,op,ef,cl,sq,reduceIte,q3,q4,q5,q6,q7,q9,j3,j4,j5,S1,List.length_map,hJ]
 refine W.ea [(0,_),(1,_)] (fun (i:Nat) R H'=>At H' (fun H'=>Ext H H')∧R 5=.int .i64 i∧i≤pl.length) (fun i=>pl.length-i) 0 ⟨.i Ext.rfl',rfl,Nat.zero_le _⟩ ?_
 rintro i R H2⟨bZ,g5,hi⟩
 have bZ:Ext H H2:=bZ
 by_cases aE:i<pl.length
 ·obtain⟨p,hp⟩:=dQ aE
  have hs:l[i]?=some p.2:=by rw[←hl,List.getElem?_map,hp];rfl
  have i1:=cZ (e:=dG .arg) (n:=4) (fun _=>rfl) (by decide) (k:=k) hs
  have i2:=cZ (e:=lV) (n:=4) (fun _=>rfl) (by decide) (k:=k') hp
  have l1:∀Hx,iU Hx 4 (.bh (dG .arg p.2))=some (dG .arg p.2):=fun _=>rfl
  have l2:∀Hx,iU Hx 4 (.bh (lV p))=some (dG p.1 p.2):=fun _=>rfl
  have qt:=aJ (show i<9223372036854775807 by omega)
  simp -implicitDefEqProofs only[aA,aw,op,ef,cl,sq,reduceIte,q3,q4,q5,q6,q7,q9,j3,j4,j5,S1,List.length_map,hJ,g5,aE,aa,i1,i2,l1,l2]
  refine af _ _ _ _ _ _ _ _ (Fq .arg p.1 p.2 p.2 _) ?_
  rintro u H3⟨cY,b,hu,hb⟩
  have:b=true:=hb.2 ⟨rfl,rfl,rfl,rfl⟩
  subst this
  cases hu
  have cY:Ext H2 H3:=cY
  simp -implicitDefEqProofs only[aA,aw,op,ef,cl,sq,reduceIte,q3,q4,q5,q6,q7,q9,j3,j4,j5,S1,g5,qt]
  exact⟨i+1,by omega,.i (bZ.trans cY),rfl,aE⟩
 ·simp -implicitDefEqProofs only[aA,aw,op,ef,cl,sq,reduceIte,q3,q4,q5,q6,q7,q9,j3,j4,j5,S1,List.length_map,hJ,g5,aE]
  exact bZ
theorem Fv {H:ae}{t:T}{ql:List Ln}(h:oS H t ql)(k:SK)(pl:List (SK×dV))(hl:pl.map (·.2)=ql.map (·.2))(hn:pl.length≤8000000)(hf:∀s∈pl,s.2.cm.length≤1073741823):W env (.call 20 [t,.sl k (pl.map lV)]) H (fun o H'=>Ext H H'∧o=.val (.bool true)):=by
 have hJ:ql.length=pl.length:=by have:=congrArg List.length hl;simpa using this.symm
 obtain⟨bM,ht,_⟩:=h.at_
 have SD:∀Hx,gb Hx .sl t=some pl.length:=fun Hx=>by rw[ht,hJ];rfl
 refine W.cQ rfl rfl rfl ?_
 simp -implicitDefEqProofs only[Iu,op,ef,cl,sq,reduceIte,q3,q4,q5,q6,q7,q9,j3,j4,j5,S1]
 refine af _ _ _ _ _ _ _ _ (h.call (Fu .arg k _ pl hl hn _)) ?_
 rintro u H1⟨cX,hu⟩
 cases hu
 have cX:Ext H H1:=cX
 have h1:=h.ext cX
 obtain⟨b,qL,hb⟩:=h1.at_
 rw[ht]at qL
 cases qL
 subst ht
 have wn:=aJ (show pl.length<9223372036854775807 by omega)
 have lg:(aK ua (u6 ql)).length=(pl.length+1)*4:=by rw[cC gD];simp[u6,hJ]
 have hs:∀R Hx,R 11=.aB bM 0 ql.length 4→R 14=.int .i64 ((pl.length+1:Nat):Int)→Hx[bM]?=some (.fz (aK ua (u6 ql)))→av R Hx (.Da 4 (.r 11) (.r 14))=some (.aB bM 0 (pl.length+1) 4,Hx):=fun R Hx a1 a2 a3=>CQ a1 a2 a3 (by omega) (by decide) (by omega)
 have ia:eW 4 pl.length (.aB bM 0 (pl.length+1) 4)=some (.ptr bM (pl.length*4)):=by rw[fh];simp
 have ld:jT 1 (pl.length*4+0) (some (.fz (aK ua (u6 ql))))=some [.str ⟨#[115,112,97,114,101]⟩]:=by
  rw[rC];have:=cD (enc:=ua) (n:=4) gD (Fs ql) 0 1 (by decide);rw[hJ]at this;exact this
 simp -implicitDefEqProofs only[op,ef,cl,sq,reduceIte,q3,q4,q5,q6,q7,q9,j3,j4,j5,S1,List.length_map,wn,↓hs,hb,aa,ia,ld]
 refine W.ea [(0,_),(1,_)] (fun (i:Nat) R H'=>H'=H1∧R 5=.int .i64 i∧i≤pl.length) (fun i=>pl.length-i) 0 ⟨rfl,rfl,Nat.zero_le _⟩ ?_
 rintro i R H2⟨rfl,g5,hi⟩
 by_cases aE:i<pl.length
 ·obtain⟨p,hp⟩:=dQ aE
  obtain⟨q,hq⟩:=dQ (l:=ql) (i:=i) (by omega)
  have Jo:p.2=q.2:=by
   have:=congrArg (fun l=>l[i]?) hl
   simp -implicitDefEqProofs only[List.getElem?_map,hp,hq,Option.map_some,Option.some.injEq]at this
   exact this
  have jQ:=h1.fl q (List.mem_of_getElem? hq)
  have Rw:=hf _ (List.mem_of_getElem? hp)
  rw[Jo]at Rw
  have i1:eW 4 i (.aB bM 0 pl.length 4)=some (.ptr bM (i*4)):=by rw[fh];simp[aE]
  have i2:=cZ (e:=lV) (n:=4) (fun _=>rfl) (by decide) (k:=k) hp
  have f3:fH 3 (.bh (lV p))=some (.bh [.sl p.1 (q.2.cm.map eB)]):=by rw[←Jo];rfl
  have lf:jT 1 (i*4+3) (some (.fz (aK ua (u6 ql))))=some [.aB q.1 0 q.2.cm.length 1]:=by
   rw[rC];exact cD (enc:=ua) (n:=4) gD (rB hq) 3 1 (by decide)
  have wf:=aJ (show q.2.cm.length<9223372036854775807 by omega)
  have qt:=aJ (show i<9223372036854775807 by omega)
  have V2:(aK eB (q.2.cm++[165])).length=q.2.cm.length+1:=by rw[cC (n:=1) (fun _=>rfl)];simp
  have fo:∀R Hx,R 33=.aB q.1 0 q.2.cm.length 1→R 40=.int .i64 ((q.2.cm.length+1:Nat):Int)→Hx[q.1]?=some (.fz (aK eB (q.2.cm++[165])))→av R Hx (.Da 1 (.r 33) (.r 40))=some (.aB q.1 0 (q.2.cm.length+1) 1,Hx):=fun R Hx a1 a2 a3=>CQ a1 a2 a3 (by omega) (by decide) (by omega)
  have Vr:eW 1 q.2.cm.length (.aB q.1 0 (q.2.cm.length+1) 1)=some (.ptr q.1 (q.2.cm.length*1)):=by rw[fh];simp
  have lb:jT 1 (q.2.cm.length*1) (some (.fz (aK eB (q.2.cm++[165]))))=some [.int .u8 165]:=by
   rw[rC]
   have hx:(q.2.cm++[165])[q.2.cm.length]?=some 165:=by rw[List.getElem?_append_right (Nat.le_refl _)];simp
   exact cD (enc:=eB) (n:=1) (fun _=>rfl) hx 0 1 (by decide)
  simp -implicitDefEqProofs only[aA,aw,op,ef,cl,sq,reduceIte,q3,q4,q5,q6,q7,q9,j3,j4,j5,S1,List.length_map,hJ,g5,aE,aa,i1,i2,f3,hb,lf,dP,wf,↓fo,jQ,Vr,lb,qt]
  exact⟨i+1,by omega,rfl,aE⟩
 ·simp -implicitDefEqProofs only[aA,aw,op,ef,cl,sq,reduceIte,q3,q4,q5,q6,q7,q9,j3,j4,j5,S1,List.length_map,hJ,g5,aE]
  exact cX
theorem CR:∀{l l':List Nat},Bytes l→Bytes l'→tQ l=tQ l'→l=l':=by
 intro l l' h h' e
 have e2:l.map UInt8.ofNat=l'.map UInt8.ofNat:=by
  have:=congrArg (fun s:ByteArray=>s.data.toList) e
  simpa[tQ]using this
 clear e
 induction l generalizing l' with
 | nil=>cases l' with
  | nil=>rfl
  | cons b l'=>simp at e2
 | cons a l ih=>cases l' with
  | nil=>simp at e2
  | cons b l' =>
   simp -implicitDefEqProofs only[List.map_cons,List.cons.injEq]at e2
   have ha:=h a (by simp)
   have hb:=h' b (by simp)
   have:a=b:=by
    have:=congrArg UInt8.toNat e2.1
    simp -implicitDefEqProofs only[UInt8.toNat_ofNat']at this
    omega
   rw[this,ih (fun x hx=>h x (List.mem_cons_of_mem _ hx)) (fun x hx=>h' x (List.mem_cons_of_mem _ hx)) e2.2]
theorem u9 (b h:Nat)(S:Nat→Bool):Bytes (xR b h S):=fun x hx=>by
 rcases List.mem_append.1 hx with hx|hx
 ·simp -implicitDefEqProofs only[zq,List.mem_cons,List.not_mem_nil,or_false]at hx
  omega
 ·obtain⟨j,_,rfl⟩:=List.mem_map.1 hx
  exact tq _ 8
theorem Nk:∀{bs:List Nat},5≤bs.length→bs=eF bs 0 :: eF bs 1 :: eF bs 2 :: eF bs 3 :: eF bs 4 :: bs.drop 5
 | _ :: _ :: _ :: _ :: _ :: _,_=>rfl
theorem Fx {bs:List Nat}(hb:Bytes bs)(h5:5≤bs.length)(hl:bs.length=5+(dH bs+7)/8):xR (dH bs) (l6 bs) (bc (iP bs) (dH bs))=bs↔jU bs=true:=by
 have hd:=mM hb hl
 have ht:=Nk h5
 have Ry:zq (dH bs) (l6 bs)=[eF bs 0,eF bs 1,eF bs 2,eF bs 3,eF bs 4]:=by
  have h0:=cn hb 0
  have h1:=cn hb 1
  have h2:=cn hb 2
  have h3:=cn hb 3
  have h4:=cn hb 4
  have e:=CG hb
  simp -implicitDefEqProofs only[zq,l6,List.cons.injEq,and_true]
  refine⟨by omega,by omega,by omega,by omega,by omega⟩
 constructor
 ·intro e
  refine Ff hb hl h5 fun q hq=>?_
  refine Decidable.of_not_not fun hn=>?_
  by_cases h8:q/8<(dH bs+7)/8
  ·have e2:fW (bc (iP bs) (dH bs)) (dH bs)=fW (iP bs) (dH bs):=by
    rw[←hd]
    have:=congrArg (List.drop 5) e
    rw[←this];rfl
   have e3:=congrArg (fun l=>l[q/8]?) e2
   simp -implicitDefEqProofs only[fW,List.getElem?_map,List.getElem?_range h8,Option.map_some,Option.some.injEq]at e3
   have e4:=congrArg (fun n=>n.testBit (q%8)) e3
   simp -implicitDefEqProofs only[kj,ew]at e4
   have e5:8*(q/8)+q%8=q:=by omega
   have e6:q%8<8:=by omega
   rw[e5]at e4
   simp -implicitDefEqProofs only[e6,decide_true,Bool.true_and,bc,hq,hn,decide_false]at e4
   cases e4
  ·have hz:eF bs (5+q/8)=0:=by
    unfold eF
    rw[List.getD_eq_getElem?_getD,List.getElem?_eq_none (by omega)];rfl
   unfold iP at hq
   rw[hz]at hq;simp at hq
 ·intro hz
  have hS:bc (iP bs) (dH bs)=iP bs:=by
   funext q
   unfold bc
   cases hq:iP bs q
   ·rfl
   ·have:=IW hb hl h5 hz q hq
    simp[this]
  rw[xR,hS,←hd,Ry]
  exact ht.symm
theorem iK {S:Nat→Bool}{b p:Nat}(h:p<b):(u0 S b)[p]?=some (S p):=by simp[u0,h]
theorem CS {H:ae}{bf w b h:Nat}{S:Nat→Bool}(hf:RF H bf w b h S)(b1:1≤b)(b2:b≤65536)(h1:1≤h)(h2:h≤16)(t:ByteArray)(ht:t.size<9223372036854775807):W env (.call 59 [.ptr bf 0,.str t]) H (fun o H'=>Ext H H'∧o=.val (.bool ((du t b h).all S))):=by
 refine W.cQ rfl rfl rfl ?_
 simp -implicitDefEqProofs only[IC,op,ef,cl,sq,reduceIte,q3,q4,q5,q6,q7,q9,j3,j4,j5,S1,hf.hb]
 refine af _ _ _ _ _ _ _ _ (xN t b h b1 b2 h1 h2 _ ht) ?_
 rintro u H1⟨cX,k,hu⟩
 cases hu
 have cX:Ext H H1:=cX
 have f1:=hf.ext cX
 have kz:(du t b h).length≤16:=by rw[lR];exact h2
 simp -implicitDefEqProofs only[op,ef,cl,sq,reduceIte,q3,q4,q5,q6,q7,q9,j3,j4,j5,S1]
 refine W.ea [(0,_),(5,_)] (fun (i:Nat) R H'=>H'=H1∧R 7=.int .i64 i∧i≤(du t b h).length∧∀j p,j<i→(du t b h)[j]?=some p→S p=true) (fun i=>(du t b h).length-i) 0 ⟨rfl,rfl,Nat.zero_le _,fun j p hj=>by omega⟩ ?_
 rintro i R H2⟨rfl,g7,hi,cj⟩
 by_cases aE:i<(du t b h).length
 ·obtain⟨p,hp⟩:=dQ aE
  have SE:p<b:=wL b1 (List.mem_of_getElem? hp)
  have ip:=cZ (e:=eI) (n:=1) (fun _=>rfl) (by decide) (k:=k) hp
  have iw:eW 1 p (.aB w 0 b 1)=some (.ptr w (p*1)):=by rw[fh];simp[SE]
  have lw:jT 1 (p*1) (some (.cells (aK eO (u0 S b))))=some [.bool (S p)]:=cD (enc:=eO) (n:=1) (fun _=>rfl) (iK SE) 0 1 (by decide)
  have qt:=aJ (show i<9223372036854775807 by omega)
  cases hS:S p
  ·rw[hS]at lw
   have jn:(du t b h).all S=false:=by
    rw[Bool.eq_false_iff];intro ha
    have:=List.all_eq_true.1 ha p (List.mem_of_getElem? hp)
    rw[hS]at this;cases this
   simp -implicitDefEqProofs only[aA,aw,op,ef,cl,sq,reduceIte,q3,q4,q5,q6,q7,q9,j3,j4,j5,S1,List.length_map,g7,aE,aa,f1.hb,f1.hw,ip,eI,iw,lw,jn]
   exact cX
  ·rw[hS]at lw
   simp -implicitDefEqProofs only[aA,aw,op,ef,cl,sq,reduceIte,q3,q4,q5,q6,q7,q9,j3,j4,j5,S1,List.length_map,g7,aE,aa,f1.hb,f1.hw,ip,eI,iw,lw,qt]
   refine⟨i+1,by omega,rfl,by omega,fun j q hj hq=>?_⟩
   by_cases e:j=i
   ·subst e;rw[hp]at hq;cases hq;exact hS
   ·exact cj j q (by omega) hq
 ·have gk:(du t b h).all S=true:=List.all_eq_true.2 fun p hp=>by
   obtain⟨j,hj,rfl⟩:=List.getElem_of_mem hp
   exact cj j _ (by omega) (List.getElem?_eq_getElem hj)
  simp -implicitDefEqProofs only[aA,aw,op,ef,cl,sq,reduceIte,q3,q4,q5,q6,q7,q9,j3,j4,j5,S1,List.length_map,g7,aE,gk]
  exact cX
theorem CT {x n:Nat}(hx:x<256)(hn:n<8):(IntKind.u8.wrap ((BitVec.ofInt IntKind.u8.bits ((x:Int).fdiv (2^(min ((n:Nat):Int).toNat IntKind.u8.bits))) &&& BitVec.ofInt IntKind.u8.bits 1).toNat:Nat)==1)=x.testBit n:=by
 have:∀x:Fin 256,∀n:Fin 8,(IntKind.u8.wrap ((BitVec.ofInt IntKind.u8.bits (((x.val:Nat):Int).fdiv (2^(min ((n.val:Nat):Int).toNat IntKind.u8.bits))) &&& BitVec.ofInt IntKind.u8.bits 1).toNat:Nat)==1)=x.val.testBit n.val:=by decide +kernel
 exact this ⟨x,hx⟩ ⟨n,hn⟩
set_option maxHeartbeats 2000000 in
theorem wT (k:SK)(bs:List Nat)(hb:Bytes bs)(hl:bs.length≤1073741824)(H:ae):W env (.call 58 [.sl k (bs.map eB)]) H (fun o H'=>Ext H H'∧((fA bs=false∧o=.val (.bC [.bI,.int .i64 2]))∨(fA bs=true∧∃bf w,o=.val (.bC [.ptr bf 0,.int .i64 0])∧RF H' bf w (dH bs) (l6 bs) (iP bs)))):=by
 refine W.cQ rfl rfl rfl ?_
 by_cases h5:bs.length<5
 ·have e:fA bs=false:=by
   have:¬5≤bs.length:=by omega
   unfold fA;rw[decide_eq_false this];rfl
  simp -implicitDefEqProofs only[ER,op,ef,cl,sq,reduceIte,q3,q4,q5,q6,q7,q9,j3,j4,j5,S1,List.length_map,h5,e]
  exact⟨Ext.rfl',.inl trivial⟩
 have JB:5≤bs.length:=by omega
 have d5:decide (5≤bs.length)=true:=decide_eq_true JB
 have i0:=cZ (e:=eB) (n:=1) (fun _=>rfl) (by decide) (k:=k) (c8 (bs:=bs) (i:=0) (by omega))
 have i1:=cZ (e:=eB) (n:=1) (fun _=>rfl) (by decide) (k:=k) (c8 (bs:=bs) (i:=1) (by omega))
 have i2:=cZ (e:=eB) (n:=1) (fun _=>rfl) (by decide) (k:=k) (c8 (bs:=bs) (i:=2) (by omega))
 have i3:=cZ (e:=eB) (n:=1) (fun _=>rfl) (by decide) (k:=k) (c8 (bs:=bs) (i:=3) (by omega))
 have i4:=cZ (e:=eB) (n:=1) (fun _=>rfl) (by decide) (k:=k) (c8 (bs:=bs) (i:=4) (by omega))
 have n0:bd (.int .i64 0)=some 0:=rfl
 have n1:bd (.int .i64 1)=some 1:=rfl
 have n2:bd (.int .i64 2)=some 2:=rfl
 have n3:bd (.int .i64 3)=some 3:=rfl
 have n4:bd (.int .i64 4)=some 4:=rfl
 have rv:=wR hb
 have rh:IntKind.i64.wrap (eF bs 4:Int)=(l6 bs:Int):=by
  have:=cn hb 4
  exact wrap64 (n:=(eF bs 4:Int)) (by omega)
 have V3:=IU hb
 simp -implicitDefEqProofs only[ER,op,ef,cl,sq,reduceIte,q3,q4,q5,q6,q7,q9,j3,j4,j5,S1,S2,List.length_map,h5,i0,i1,i2,i3,i4,n0,n1,n2,n3,n4,eB,rv,rh]
 refine af _ _ _ _ _ _ _ _ (IT _ _ _) ?_
 rintro u H1⟨cX,⟨hs,hu,hh⟩|⟨hs,bf,w,hu,f1,f2,f3,C7⟩⟩
 ·cases hu
  have e:fA bs=false:=by unfold fA;rw[hs,Bool.and_false];rfl
  simp -implicitDefEqProofs only[op,ef,cl,sq,reduceIte,q3,q4,q5,q6,q7,q9,j3,j4,j5,S1,e]
  exact⟨cX,.inl trivial⟩
 cases hu
 have cX:Ext H H1:=cX
 have C7:=C7 _ _ rfl rfl
 obtain⟨m,j,em,ej,m1,m2,j1,j2⟩:=uY hs
 have em:dH bs=m:=by omega
 have ej:l6 bs=j:=by omega
 obtain⟨b,Gm⟩:∃b,b=dH bs:=⟨_,rfl⟩
 have b2:b≤65536:=by omega
 have b1:1≤b:=by omega
 rw[←Gm]at C7
 have w7:IntKind.i64.wrap ((b:Int)+7)=((b+7:Nat):Int):=by rw[wrap64 (by omega)];simp
 have q8:IntKind.i64.wrap (((b+7:Nat):Int).tdiv 8)=(((b+7)/8:Nat):Int):=by
  have:((b+7:Nat):Int).tdiv 8=(((b+7)/8:Nat):Int):=(Int.ofNat_tdiv _ 8).symm
  rw[this,wrap64 (by omega)]
 have w5:IntKind.i64.wrap (5+(((b+7)/8:Nat):Int))=((5+(b+7)/8:Nat):Int):=by rw[wrap64 (by omega)];simp
 have z8:((8:Int)=0)=False:=by simp
 by_cases hlen:bs.length=5+(b+7)/8
 rotate_left
 ·have e:fA bs=false:=by unfold fA;rw[←Gm,decide_eq_false hlen,Bool.and_false];rfl
  simp -implicitDefEqProofs only[op,ef,cl,sq,reduceIte,q3,q4,q5,q6,q7,q9,j3,j4,j5,S1,C7.hb,List.length_map,w7,z8,q8,w5,hlen,e]
  exact⟨cX,.inl trivial⟩
 have tN:(bs.length=5+(b+7)/8)=True:=eq_true hlen
 simp -implicitDefEqProofs only[op,ef,cl,sq,reduceIte,q3,q4,q5,q6,q7,q9,j3,j4,j5,S1,C7.hb,List.length_map,w7,z8,q8,w5,tN]
 refine W.tf 0 [(0,_),(4,_)] (fun (i:Nat) R H'=>At H' (fun H'=>Ext H H'∧RF H' bf w b (l6 bs) (bc (iP bs) i))∧R 6=.int .i64 i∧i≤b) (fun i=>b-i) 0 (fun _ H'=>At H' (fun H'=>Ext H H'∧RF H' bf w b (l6 bs) (iP bs))) ⟨.i ⟨cX,by
   have:bc (iP bs) 0=fun _=>false:=by funext q;simp[bc]
   rw[this];exact C7⟩,rfl,Nat.zero_le _⟩ ?_ ?_
 ·rintro i R H2⟨⟨bZ,h2⟩,g6,hi⟩
  have bZ:Ext H H2:=bZ
  have h2:RF H2 bf w b (l6 bs) (bc (iP bs) i):=h2
  by_cases aE:i<b
  ·have qt:=aJ (show i<9223372036854775807 by omega)
   have qi:IntKind.i64.wrap ((i:Int).tdiv 8)=((i/8:Nat):Int):=by
    have:(i:Int).tdiv 8=((i/8:Nat):Int):=(Int.ofNat_tdiv _ 8).symm
    rw[this,wrap64 (by omega)]
   have ri:(i:Int).tmod 8=((i%8:Nat):Int):=(Int.ofNat_tmod _ 8).symm
   have Vs:IntKind.i64.wrap (5+((i/8:Nat):Int))=((5+i/8:Nat):Int):=by rw[wrap64 (by omega)];simp
   have ib:=cZ (e:=eB) (n:=1) (fun _=>rfl) (by decide) (k:=k) (c8 (bs:=bs) (i:=5+i/8) (by omega))
   have nn:¬((i%8:Nat):Int)<0:=by omega
   have bv:=CT (x:=eF bs (5+i/8)) (n:=i%8) (cn hb _) (by omega)
   have bv:(IntKind.u8.wrap ((BitVec.ofInt IntKind.u8.bits ((eF bs (5+i/8):Int).fdiv (2^(min ((i%8:Nat):Int).toNat IntKind.u8.bits))) &&& BitVec.ofInt IntKind.u8.bits 1).toNat:Nat)==1)=iP bs i:=bv
   have iw:eW 1 i (.aB w 0 b 1)=some (.ptr w (i*1)):=by rw[fh];simp[aE]
   have ji:=fx (enc:=eO) (n:=1) (fun _=>rfl) (y:=iP bs i) (iK (S:=bc (iP bs) i) aE) H2 w [.bool (iP bs i)] 0 (by simp) rfl
   simp -implicitDefEqProofs only[Nat.add_zero]at ji
   have qG:(u0 (bc (iP bs) i) b).set i (iP bs i)=u0 (bc (iP bs) (i+1)) b:=by
    refine List.ext_getElem? fun q=>?_
    by_cases hq:q<b
    ·by_cases e:q=i
     ·subst e
      rw[List.getElem?_set_self (by rw[lU];exact hq),iK hq];simp[bc]
     ·rw[List.getElem?_set_ne (fun h=>e h.symm),iK hq,iK hq]
      have:(q<i)↔(q<i+1):=by omega
      simp[bc,this]
    ·rw[List.getElem?_eq_none (by rw[List.length_set,lU];omega),List.getElem?_eq_none (by rw[lU];omega)]
   rw[qG]at ji
   have aY:w≠bf:=f3
   simp -implicitDefEqProofs only[aA,aw,op,ef,cl,sq,reduceIte,q3,q4,q5,q6,q7,q9,j3,j4,j5,S1,g6,aE,h2.hb,List.length_map,z8,qi,ri,Vs,aa,ib,eB,nn,bv,iw,h2.hw,ji,qt]
   refine⟨i+1,by omega,.i ⟨bZ.set (by have:=cX.len;omega) _,⟨by rw[jS aY];exact h2.hb,gh (bo h2.hw)⟩⟩,rfl,aE⟩
  ·have l4:i=b:=by omega
   subst l4
   simp -implicitDefEqProofs only[aA,aw,op,ef,cl,sq,reduceIte,q3,q4,q5,q6,q7,q9,j3,j4,j5,S1,g6,aE,h2.hb]
   refine .i ⟨bZ,⟨h2.hb,?_⟩⟩
   rw[h2.hw]
   have:u0 (bc (iP bs) i) i=u0 (iP bs) i:=by
    refine List.ext_getElem? fun q=>?_
    by_cases hq:q<i
    ·rw[iK hq,iK hq];simp[bc,hq]
    ·rw[List.getElem?_eq_none (by rw[lU];omega),List.getElem?_eq_none (by rw[lU];omega)]
   rw[this]
 ·rintro R H3⟨cY,h3⟩
  have cY:Ext H H3:=cY
  have h3:RF H3 bf w b (l6 bs) (iP bs):=h3
  have cj:=all_map (enc:=eB) (n:=1) (fun _=>rfl) bs
  simp -implicitDefEqProofs only[aA,aw,op,ef,cl,sq,reduceIte,q3,q4,q5,q6,q7,q9,j3,j4,j5,S1,cj,fY]
  obtain⟨fl,jQ⟩:∃fl,fl=xR b (l6 bs) (bc (iP bs) b):=⟨_,rfl⟩
  have GW:=CF h3 b2
  rw[←jQ]at GW
  refine af _ _ _ _ _ _ _ _ GW ?_
  rintro u H4⟨dX,k4,_,hu⟩
  cases hu
  have dX:Ext H3 H4:=dX
  have GX:=all_map (enc:=eB) (n:=1) (fun _=>rfl) fl
  have SF:=Fx hb JB (by rw[←Gm];exact hlen)
  rw[←Gm,←jQ]at SF
  have hz:fA bs=jU bs:=by unfold fA;rw[d5,hs,←Gm,decide_eq_true hlen,Bool.true_and,Bool.true_and,Bool.true_and]
  have I8:((⟨(fl.map UInt8.ofNat).toArray⟩:ByteArray)=⟨(bs.map UInt8.ofNat).toArray⟩)↔jU bs=true:=by
   rw[←SF]
   exact⟨fun e=>CR (by rw[jQ];exact u9 _ _ _) hb e,fun e=>by rw[e]⟩
  obtain⟨sa,Hq⟩:∃sa:ByteArray,sa=⟨(fl.map UInt8.ofNat).toArray⟩:=⟨_,rfl⟩
  obtain⟨sb,FH⟩:∃sb:ByteArray,sb=⟨(bs.map UInt8.ofNat).toArray⟩:=⟨_,rfl⟩
  rw[←Hq,←FH]at I8
  rw[hz]
  cases Jt:jU bs
  ·have aY:(sa=sb)=False:=eq_false fun e=>by have:=I8.1 e;rw[Jt]at this;cases this
   simp -implicitDefEqProofs only[op,ef,cl,sq,reduceIte,q3,q4,q5,q6,q7,q9,j3,j4,j5,S1,cj,GX,fY,←Hq,←FH,aY]
   exact⟨cY.trans dX,.inl trivial⟩
  ·have heq:(sa=sb)=True:=eq_true (I8.2 Jt)
   simp -implicitDefEqProofs only[op,ef,cl,sq,reduceIte,q3,q4,q5,q6,q7,q9,j3,j4,j5,S1,cj,GX,fY,←Hq,←FH,heq]
   exact⟨cY.trans dX,.inr ⟨bf,w,rfl,Gm▸h3.ext dX⟩⟩
theorem xY {α:Type}{l:List α}{i j:Nat}{x:α}(hj:j<i)(h:l[j]?=some x):x∈l.take i:=List.mem_of_getElem? (i:=j) (by rw[List.getElem?_take,if_pos hj];exact h)
theorem Fy (k:SK)(s:dV)(hb:ry s)(H:ae):W env (.call 61 [.agg (dG k s)]) H (fun o H'=>Ext H H'∧o=.val (.bool (a8 s))):=by
 refine W.cQ rfl rfl rfl ?_
 obtain⟨H1,lT⟩:∃H1,H1=H++[B.cells (dG k s)]:=⟨_,rfl⟩
 have cX:Ext H H1:=⟨_,lT⟩
 have c1:H1[H.length]?=some (.cells (dG k s)):=by rw[lT];exact bT rfl
 unfold dG at c1
 have mN:=lT
 unfold dG at mN
 by_cases h0:s.id=0
 ·have hz:((s.id:Nat):Int)=0:=by omega
  by_cases hv:s.val=⟨#[]⟩
  ·have e:a8 s=decide (s.cm.length=0):=by unfold a8;rw[if_pos h0,decide_eq_true hv,Bool.true_and]
   simp -implicitDefEqProofs only[Bl,dG,op,ef,cl,sq,reduceIte,q3,q4,q5,q6,q7,q9,j3,j4,j5,S1]
   rw[←mN]
   simp -implicitDefEqProofs only[op,ef,cl,sq,reduceIte,q3,q4,q5,q6,q7,q9,j3,j4,j5,S1,c1,h0,hv,List.length_map]
   exact⟨cX,by rw[e]⟩
  ·have e:a8 s=false:=by unfold a8;rw[if_pos h0,decide_eq_false hv,Bool.false_and]
   simp -implicitDefEqProofs only[Bl,dG,op,ef,cl,sq,reduceIte,q3,q4,q5,q6,q7,q9,j3,j4,j5,S1]
   rw[←mN]
   simp -implicitDefEqProofs only[op,ef,cl,sq,reduceIte,q3,q4,q5,q6,q7,q9,j3,j4,j5,S1,c1,h0,hv,e]
   exact cX
 simp -implicitDefEqProofs only[Bl,dG,op,ef,cl,sq,reduceIte,q3,q4,q5,q6,q7,q9,j3,j4,j5,S1]
 rw[←mN]
 simp -implicitDefEqProofs only[op,ef,cl,sq,reduceIte,q3,q4,q5,q6,q7,q9,j3,j4,j5,S1,c1,h0]
 refine af _ _ _ _ _ _ _ _ (wT k s.cm hb.1 hb.2.1 _) ?_
 rintro u H2⟨bZ,⟨jn,hu⟩|⟨gk,bf,w,hu,C7⟩⟩
 ·cases hu
  have bZ:Ext H1 H2:=bZ
  have c2:=bZ.get c1
  have e:a8 s=false:=by unfold a8;rw[if_neg h0,jn];simp
  by_cases hi:65536≤s.id
  ·simp -implicitDefEqProofs only[op,ef,cl,sq,reduceIte,q3,q4,q5,q6,q7,q9,j3,j4,j5,S1,c2,hi,e]
   exact cX.trans bZ
  ·simp -implicitDefEqProofs only[op,ef,cl,sq,reduceIte,q3,q4,q5,q6,q7,q9,j3,j4,j5,S1,c2,hi,e]
   exact cX.trans bZ
 cases hu
 have bZ:Ext H1 H2:=bZ
 have c2:=bZ.get c1
 obtain⟨b1,b2,h1,h2⟩:=nA gk
 by_cases hi:65536≤s.id
 rotate_left
 ·have e:a8 s=false:=by unfold a8;rw[if_neg h0,decide_eq_false hi];rfl
  simp -implicitDefEqProofs only[op,ef,cl,sq,reduceIte,q3,q4,q5,q6,q7,q9,j3,j4,j5,S1,c2,hi,e]
  exact cX.trans bZ
 have e:a8 s=(du s.key (dH s.cm) (l6 s.cm)).all (iP s.cm):=by unfold a8;rw[if_neg h0,decide_eq_true hi,gk];rfl
 simp -implicitDefEqProofs only[op,ef,cl,sq,reduceIte,q3,q4,q5,q6,q7,q9,j3,j4,j5,S1,c2,hi]
 refine af _ _ _ _ _ _ _ _ (CS C7 b1 b2 h1 h2 s.key hb.2.2) ?_
 rintro u H3⟨cY,hu⟩
 cases hu
 simp -implicitDefEqProofs only[op,ef,cl,sq,reduceIte,q3,q4,q5,q6,q7,q9,j3,j4,j5,S1,e]
 exact cX.trans (bZ.trans cY)
theorem mP (k:SK)(pl:List (SK×dV))(l:List dV)(kz:pl.map (·.2)=l)(hb:∀s∈l,ry s)(hl:l.length≤8000000)(H:ae):W env (.call 19 [.sl k (pl.map lV)]) H (fun o H'=>Ext H H'∧o=.val (.bool (formed l))):=by
 have hJ:pl.length=l.length:=by rw[←kz];simp
 refine W.cQ rfl rfl rfl ?_
 by_cases h1:1≤l.length
 rotate_left
 ·have e:formed l=false:=by unfold formed;rw[decide_eq_false h1];rfl
  have pr:l.length<1:=by omega
  simp -implicitDefEqProofs only[Bj,op,ef,cl,sq,reduceIte,q3,q4,q5,q6,q7,q9,j3,j4,j5,S1,List.length_map,hJ,pr,e]
  exact Ext.rfl'
 have pr:¬l.length<1:=by omega
 by_cases h2:l.length≤1024
 rotate_left
 ·have e:formed l=false:=by unfold formed;rw[decide_eq_false h2,Bool.and_false];rfl
  have nG:1024<l.length:=by omega
  simp -implicitDefEqProofs only[Bj,op,ef,cl,sq,reduceIte,q3,q4,q5,q6,q7,q9,j3,j4,j5,S1,List.length_map,hJ,pr,nG,e]
  exact Ext.rfl'
 have nG:¬1024<l.length:=by omega
 simp -implicitDefEqProofs only[Bj,op,ef,cl,sq,reduceIte,q3,q4,q5,q6,q7,q9,j3,j4,j5,S1,List.length_map,hJ,pr,nG]
 refine W.ea [(0,_)] (fun (i:Nat) R H'=>At H' (fun H'=>Ext H H')∧R 3=.int .i64 i∧i≤l.length∧(∀s∈l.take i,a8 s=true)∧((l.take i).map dV.key).Nodup) (fun i=>l.length-i) 0 ⟨.i Ext.rfl',rfl,Nat.zero_le _,by simp,by simp⟩ ?_
 rintro i R H2⟨bZ,g3,hi,l9,jR⟩
 have bZ:Ext H H2:=bZ
 by_cases aE:i<l.length
 rotate_left
 ·have l4:i=l.length:=by omega
  subst l4
  rw[List.take_length]at l9 jR
  have e:formed l=true:=by
   unfold formed
   rw[decide_eq_true h1,decide_eq_true h2,decide_eq_true jR]
   simp -implicitDefEqProofs only[Bool.true_and,Bool.and_true,List.all_eq_true]
   exact l9
  simp -implicitDefEqProofs only[aA,aw,op,ef,cl,sq,reduceIte,q3,q4,q5,q6,q7,q9,j3,j4,j5,S1,List.length_map,hJ,g3,aE,e]
  exact bZ
 obtain⟨p,hp⟩:=dQ (l:=pl) (i:=i) (by omega)
 have hs:l[i]?=some p.2:=by rw[←kz,List.getElem?_map,hp];rfl
 have ip:=cZ (e:=lV) (n:=4) (fun _=>rfl) (by decide) (k:=k) hp
 have lp:∀Hx,iU Hx 4 (.bh (lV p))=some (dG p.1 p.2):=fun _=>rfl
 have qt:=aJ (show i<9223372036854775807 by omega)
 simp -implicitDefEqProofs only[aA,aw,op,ef,cl,sq,reduceIte,q3,q4,q5,q6,q7,q9,j3,j4,j5,S1,List.length_map,hJ,g3,aE,aa,ip,lp]
 refine af _ _ _ _ _ _ _ _ (Fy p.1 p.2 (hb _ (List.mem_of_getElem? hs)) _) ?_
 rintro u H3⟨cY,hu⟩
 cases hu
 have cY:Ext H2 H3:=cY
 cases N2:a8 p.2
 ·have e:=iJ hs (.inl N2)
  simp -implicitDefEqProofs only[aA,aw,op,ef,cl,sq,reduceIte,q3,q4,q5,q6,q7,q9,j3,j4,j5,S1,N2,e]
  exact bZ.trans cY
 simp -implicitDefEqProofs only[aA,aw,op,ef,cl,sq,reduceIte,q3,q4,q5,q6,q7,q9,j3,j4,j5,S1,N2]
 refine W.tf 2 [(0,_),(3,_)] (fun (j:Nat) R H'=>H'=H3∧R 4=.int .i64 j∧j≤i∧∀s∈l.take j,s.key≠p.2.key) (fun j=>i-j) 0 (fun R H'=>H'=H3∧∀s∈l.take i,s.key≠p.2.key) ⟨rfl,rfl,Nat.zero_le _,by simp⟩ ?_ ?_
 ·rintro j R H4⟨rfl,g4,hj,aY⟩
  by_cases yd:j<i
  ·obtain⟨q,hq⟩:=dQ (l:=pl) (i:=j) (by omega)
   have fo:l[j]?=some q.2:=by rw[←kz,List.getElem?_map,hq];rfl
   have iq:=cZ (e:=lV) (n:=4) (fun _=>rfl) (by decide) (k:=k) hq
   have fq:fH 0 (.bh (lV q))=some (.bh (lV q)):=rfl
   have fp:fH 0 (.bh (lV p))=some (.bh (lV p)):=rfl
   have lq:∀Hx,iU Hx 1 (.bh (lV q))=some [.str q.2.key]:=fun _=>rfl
   have SG:∀Hx,iU Hx 1 (.bh (lV p))=some [.str p.2.key]:=fun _=>rfl
   have xW:=aJ (show j<9223372036854775807 by omega)
   by_cases hk:q.2.key=p.2.key
   ·have e:=iJ hs (.inr (by rw[←hk];exact List.mem_map_of_mem (xY yd fo)))
    simp -implicitDefEqProofs only[aA,aw,op,ef,cl,sq,reduceIte,q3,q4,q5,q6,q7,q9,j3,j4,j5,S1,g3,g4,yd,aa,iq,ip,fq,fp,lq,SG,hk,e]
    exact bZ.trans cY
   ·simp -implicitDefEqProofs only[aA,aw,op,ef,cl,sq,reduceIte,q3,q4,q5,q6,q7,q9,j3,j4,j5,S1,g3,g4,yd,aa,iq,ip,fq,fp,lq,SG,hk,xW]
    refine⟨j+1,by omega,rfl,yd,fun s pt=>?_⟩
    rw[fG fo]at pt
    rcases List.mem_append.1 pt with h|h
    ·exact aY s h
    ·cases List.mem_singleton.1 h;exact hk
  ·have I3:j=i:=by omega
   subst I3
   simp -implicitDefEqProofs only[aA,aw,op,ef,cl,sq,reduceIte,q3,q4,q5,q6,q7,q9,j3,j4,j5,S1,g3,g4,yd]
   exact aY
 ·rintro R H4⟨rfl,aY⟩
  simp -implicitDefEqProofs only[aA,aw,op,ef,cl,sq,reduceIte,q3,q4,q5,q6,q7,q9,j3,j4,j5,S1,g3,qt]
  refine⟨i+1,by omega,.i (bZ.trans cY),rfl,aE,fun s pt=>?_,?_⟩
  ·rw[fG hs]at pt
   rcases List.mem_append.1 pt with h|h
   ·exact l9 s h
   ·cases List.mem_singleton.1 h;exact N2
  ·rw[fG hs,List.map_append]
   refine List.nodup_append.2 ⟨jR,by simp,fun a ha b hb e=>?_⟩
   simp at hb
   obtain⟨s,Vt,rfl⟩:=List.mem_map.1 ha
   exact aY s Vt (e.trans hb)
theorem nC {α:Type}{e:α→List T}{bytes n0:Nat}{H:ae}{k:SK}(es new:List α)(he:∀x,(e x).map T.erase=e x)(hk:rO n0 H k)(xd:n0≤H.length)(hr:dv (es.length+new.length) bytes=true):∃k1 H3,jP H bytes k (es.map e) (new.map e)=some (.sl k1 ((es++new).map e),H3)∧rO n0 H3 k1∧∀H0:ae,H0.length≤n0→Ext H0 H→Ext H0 H3:=by
 by_cases h0:new=[]
 ·subst h0
  exact⟨k,H,by simp[jP],hk,fun _ _ h=>h⟩
 ·obtain⟨k1,H3,ha,wP,ji⟩:=oE (n0:=n0) (bytes:=bytes) (es.map e) (new.map e) hk xd (by simpa using h0) (by simpa using hr)
  have hm:(new.map e).map (·.map T.erase)=new.map e:=(List.map_congr_left fun c hc=>by obtain⟨x,_,rfl⟩:=List.mem_map.1 hc;exact he x).trans (List.map_id _)
  refine⟨k1,H3,?_,wP,ji.ext⟩
  rw[ha,hm,List.map_append]
theorem I9 (k:SK)(l:List Nat)(x:Nat)(hr:l.Pairwise (· < ·))(hl:l.length≤8000000)(H:ae):W env (.call 60 [.sl k (l.map eU),.int .u64 x]) H (fun o H'=>Ext H H'∧∃k',∃l':List Nat,o=.val (.sl k' (l'.map eU))∧l'.Pairwise (· < ·)∧(∀y,y∈l'↔y∈l∨y=x)∧l'.length≤l.length+1):=by
 refine W.cQ rfl rfl rfl ?_
 simp -implicitDefEqProofs only[ID,op,ef,cl,sq,reduceIte,q3,q4,q5,q6,q7,q9,j3,j4,j5,S1]
 refine W.tf 0 [(0,_),(1,_)] (fun (i:Nat) R H'=>H'=H∧R 5=.int .i64 i∧i≤l.length∧∀y∈l.take i,y<x) (fun i=>l.length-i) 0 (fun R H'=>H'=H∧∃i,R 5=.int .i64 (i:Nat)∧i≤l.length∧(∀y∈l.take i,y<x)∧∀y,l[i]?=some y→x≤y) ⟨rfl,rfl,Nat.zero_le _,by simp⟩ ?_ ?_
 ·rintro i R H2⟨rfl,g5,hi,pF⟩
  by_cases aE:i<l.length
  ·obtain⟨y,hy⟩:=dQ aE
   have iy:=cZ (e:=eU) (n:=1) (fun _=>rfl) (by decide) (k:=k) hy
   have qt:=aJ (show i<9223372036854775807 by omega)
   by_cases Rz:y<x
   ·simp -implicitDefEqProofs only[aA,aw,op,ef,cl,sq,reduceIte,q3,q4,q5,q6,q7,q9,j3,j4,j5,S1,List.length_map,g5,aE,aa,iy,eU,Rz,qt]
    refine⟨i+1,by omega,rfl,aE,fun z hz=>?_⟩
    rw[fG hy]at hz
    rcases List.mem_append.1 hz with h|h
    ·exact pF z h
    ·cases List.mem_singleton.1 h;exact Rz
   ·simp -implicitDefEqProofs only[aA,aw,op,ef,cl,sq,reduceIte,q3,q4,q5,q6,q7,q9,j3,j4,j5,S1,List.length_map,g5,aE,aa,iy,eU,Rz]
    exact⟨i,rfl,hi,pF,fun z hz=>by rw[hy]at hz;cases hz;omega⟩
  ·simp -implicitDefEqProofs only[aA,aw,op,ef,cl,sq,reduceIte,q3,q4,q5,q6,q7,q9,j3,j4,j5,S1,List.length_map,g5,aE]
   exact⟨i,rfl,hi,pF,fun z hz=>by have:=(List.getElem?_eq_some_iff.1 hz).1;omega⟩
 rintro R H2⟨rfl,i,g5,hi,pF,zd⟩
 by_cases heq:l[i]?=some x
 ·have aE:=(List.getElem?_eq_some_iff.1 heq).1
  have iy:=cZ (e:=eU) (n:=1) (fun _=>rfl) (by decide) (k:=k) heq
  simp -implicitDefEqProofs only[aA,aw,op,ef,cl,sq,reduceIte,q3,q4,q5,q6,q7,q9,j3,j4,j5,S1,List.length_map,g5,aE,aa,iy,eU]
  exact⟨Ext.rfl',k,l,rfl,hr,fun y=>⟨.inl,fun h=>h.elim id fun e=>by rw[e];exact List.mem_of_getElem? heq⟩,by omega⟩
 have fy:∀y,l[i]?=some y→x<y:=fun y hy=>by
  have:=zd y hy
  rcases Nat.lt_or_ge x y with h|h
  ·exact h
  ·have:y=x:=by omega
   subst this;exact absurd hy heq
 have GY:∀y∈l.drop i,x<y:=fun y hy=>by
  obtain⟨j,hj,rfl⟩:=List.getElem_of_mem hy
  rw[List.length_drop]at hj
  obtain⟨z,hz⟩:=dQ (l:=l) (i:=i) (by omega)
  have h1:=fy z hz
  rw[List.getElem_drop]
  rcases Nat.eq_zero_or_pos j with h|h
  ·subst h
   have:=(List.getElem?_eq_some_iff.1 hz).2
   simp -implicitDefEqProofs only[Nat.add_zero,this];exact h1
  ·have:=List.pairwise_iff_getElem.1 hr i (i+j) (by omega) (by omega) (by omega)
   rw[(List.getElem?_eq_some_iff.1 hz).2]at this
   omega
 obtain⟨k1,H3,Dl,iX,cX⟩:=nC (e:=eU) (bytes:=8) (n0:=H2.length) (H:=H2) [] (l.take i) (fun _=>rfl) (jL _ _) (Nat.le_refl _) (fS (by simp;omega))
 have cY:=cX H2 (Nat.le_refl _) Ext.rfl'
 obtain⟨k2,H4,o6,oj,bZ⟩:=nC (e:=eU) (bytes:=8) (l.take i) [x] (fun _=>rfl) iX cY.len (fS (by simp;omega))
 have dX:=bZ H2 (Nat.le_refl _) cY
 obtain⟨k3,H5,SH,C5,nb⟩:=nC (e:=eU) (bytes:=8) (l.take i++[x]) (l.drop i) (fun _=>rfl) oj dX.len (fS (by simp;omega))
 have nb:=nb H2 (Nat.le_refl _) dX
 simp -implicitDefEqProofs only[List.nil_append,List.map_nil]at Dl
 have o6:jP H3 8 k1 ((l.take i).map eU) [[.int .u64 x]]=some (.sl k2 ((l.take i++[x]).map eU),H4):=o6
 have al:=all_map (enc:=eU) (n:=1) (fun _=>rfl) l
 have a1:=all_map (enc:=eU) (n:=1) (fun _=>rfl) (l.take i)
 have a2:=all_map (enc:=eU) (n:=1) (fun _=>rfl) (l.take i++[x])
 have a3:=all_map (enc:=eU) (n:=1) (fun _=>rfl) (l.drop i)
 have t1:((l.map eU).take i).drop 0=(l.take i).map eU:=by rw[List.drop_zero,List.map_take]
 have t2:((l.map eU).take l.length).drop i=(l.drop i).map eU:=by rw[List.take_of_length_le (by simp),List.map_drop]
 have fin:Ext H2 H5∧∃k',∃l':List Nat,Out.val (T.sl k3 ((l.take i++[x]++l.drop i).map eU))=Out.val (T.sl k' (l'.map eU))∧l'.Pairwise (· < ·)∧(∀y,y∈l'↔y∈l∨y=x)∧l'.length≤l.length+1:=by
  refine⟨nb,k3,_,rfl,?_,fun y=>?_,by simp;omega⟩
  ·have yg:=hr.sublist (List.take_sublist i l)
   have Et:=hr.sublist (List.drop_sublist i l)
   rw[List.append_assoc,List.pairwise_append]
   refine⟨yg,List.pairwise_append.2 ⟨by simp,Et,fun a ha b hb=>by cases List.mem_singleton.1 ha;exact GY b hb⟩,fun a ha b hb=>?_⟩
   rcases List.mem_append.1 hb with hb|hb
   ·cases List.mem_singleton.1 hb;exact pF a ha
   ·exact Nat.lt_trans (pF a ha) (GY b hb)
  ·have:y∈l↔y∈l.take i∨y∈l.drop i:=by rw[←List.mem_append,List.take_append_drop]
   simp -implicitDefEqProofs only[List.mem_append,List.mem_singleton,this]
   constructor
   ·rintro ((h|h)|h)
    ·exact .inl (.inl h)
    ·exact .inr h
    ·exact .inl (.inr h)
   ·rintro ((h|h)|h)
    ·exact .inl (.inl h)
    ·exact .inr h
    ·exact .inl (.inr h)
 by_cases aE:i<l.length
 ·obtain⟨y,hy⟩:=dQ aE
  have iy:=cZ (e:=eU) (n:=1) (fun _=>rfl) (by decide) (k:=k) hy
  have aY:¬y=x:=fun e=>heq (e▸hy)
  simp -implicitDefEqProofs only[aA,aw,op,ef,cl,sq,reduceIte,q3,q4,q5,q6,q7,q9,j3,j4,j5,S1,List.length_map,g5,aE,aa,iy,eU,aY,Nat.zero_le,hi,al,t1,a1,Dl,o6,a2,t2,a3,SH,Nat.le_refl,and_self]
  exact fin
 ·simp -implicitDefEqProofs only[aA,aw,op,ef,cl,sq,reduceIte,q3,q4,q5,q6,q7,q9,j3,j4,j5,S1,List.length_map,g5,aE,aa,Nat.zero_le,hi,al,t1,a1,Dl,o6,a2,t2,a3,SH,Nat.le_refl,and_self]
  exact fin
theorem vd {l:List dV}{j:Nat}{x y:dV}(hx:l[j]?=some x):bq (l.take (j+1)) y=bq (l.take j) y++if gm y x then [x.id]else []:=by
 unfold bq
 rw[m0 (p:=gm y) hx,List.map_append]
 cases gm y x<;>rfl
set_option maxHeartbeats 2000000 in
theorem tR (k:SK)(pl:List (SK×dV))(l:List dV)(kz:pl.map (·.2)=l)(hb:∀s∈l,ry s)(hl:l.length≤8000000)(H:ae):W env (.call 18 [.sl k (pl.map lV)]) H (fun o H'=>Ext H H'∧((formed l=false∧∃ka,o=.val (.bC [.sl ka [],.int .i64 1]))∨(formed l=true∧∃ka,o=.val (.bC [.sl ka ((bH l l).map eA),.int .i64 0])))):=by
 have hJ:pl.length=l.length:=by rw[←kz];simp
 refine W.cQ rfl rfl rfl ?_
 simp -implicitDefEqProofs only[Is,op,ef,cl,sq,reduceIte,q3,q4,q5,q6,q7,q9,j3,j4,j5,S1]
 refine af _ _ _ _ _ _ _ _ (mP k pl l kz hb hl _) ?_
 rintro u H1⟨cX,hu⟩
 cases hu
 have cX:Ext H H1:=cX
 cases CY:formed l
 ·simp -implicitDefEqProofs only[op,ef,cl,sq,reduceIte,q3,q4,q5,q6,q7,q9,j3,j4,j5,S1,CY]
  exact⟨cX,.inl ⟨_,rfl⟩⟩
 obtain⟨l1,l2,l9,jR⟩:=qv CY
 simp -implicitDefEqProofs only[op,ef,cl,sq,reduceIte,q3,q4,q5,q6,q7,q9,j3,j4,j5,S1,CY]
 refine W.ea [(0,_)] (fun (i:Nat) R H'=>At H' (fun H'=>∃ka,R 4=.sl ka ((bH l (l.take i)).map eA)∧Ext H1 H'∧rO H1.length H' ka)∧R 5=.int .i64 i∧i≤l.length) (fun i=>l.length-i) 0 ⟨.i ⟨.nil,rfl,Ext.rfl',jL _ _⟩,rfl,Nat.zero_le _⟩ ?_
 rintro i R H2⟨⟨ka,g4,bZ,wP⟩,g5,hi⟩
 have bZ:Ext H1 H2:=bZ
 by_cases aE:i<l.length
 rotate_left
 ·have l4:i=l.length:=by omega
  subst l4
  rw[List.take_length]at g4
  simp -implicitDefEqProofs only[aA,aw,op,ef,cl,sq,reduceIte,q3,q4,q5,q6,q7,q9,j3,j4,j5,S1,List.length_map,hJ,g4,g5,aE]
  exact⟨cX.trans bZ,.inr ⟨ka,rfl⟩⟩
 obtain⟨py,SI⟩:=dQ (l:=pl) (i:=i) (by omega)
 obtain⟨y,RA⟩:∃y,y=py.2:=⟨_,rfl⟩
 have hy:l[i]?=some y:=by rw[←kz,List.getElem?_map,SI,RA];rfl
 have iy:=cZ (e:=lV) (n:=4) (fun _=>rfl) (by decide) (k:=k) SI
 have ws:=aJ (show i<9223372036854775807 by omega)
 have SJ:fH 0 (.bh (lV py))=some (.bh (lV py)):=rfl
 have SL:fH 1 (.bh (lV py))=some (.bh [.int .u64 y.id,.str y.val,.sl py.1 (y.cm.map eB)]):=by rw[RA];rfl
 have SM:∀Hx,iU Hx 1 (.bh (lV py))=some [.str y.key]:=fun _=>by rw[RA];rfl
 have Kf:=hb y (List.mem_of_getElem? hy)
 simp -implicitDefEqProofs only[aA,aw,op,ef,cl,sq,reduceIte,q3,q4,q5,q6,q7,q9,j3,j4,j5,S1,List.length_map,hJ,g5,aE]
 refine W.tf 2 [(0,_),(4,_),(5,_)] (fun (j:Nat) R H'=>At H' (fun H'=>∃kk ids,R 6=.sl kk (ids.map eU)∧ids.Pairwise (· < ·)∧(∀z,z∈ids↔z∈bq (l.take j) y)∧ids.length≤j∧Ext H2 H')∧R 7=.int .i64 j∧j≤l.length) (fun j=>l.length-j) 0
  (fun R H'=>At H' (fun H'=>∃kk,R 6=.sl kk ((gC (bq l y)).map eU)∧Ext H2 H')) ⟨.i ⟨.nil,[],rfl,by simp,by simp[bq],by simp,Ext.rfl'⟩,rfl,Nat.zero_le _⟩ ?_ ?_
 ·rintro j R H3⟨⟨kk,ids,g6,hr,hm,hlen,cY⟩,g7,hj⟩
  have cY:Ext H2 H3:=cY
  by_cases pI:j<l.length
  rotate_left
  ·have I3:j=l.length:=by omega
   subst I3
   rw[List.take_length]at hm
   have e:ids=gC (bq l y):=mO hr (tP _) fun z=>by rw[hm,jO]
   simp -implicitDefEqProofs only[aA,aw,op,ef,cl,sq,reduceIte,q3,q4,q5,q6,q7,q9,j3,j4,j5,S1,List.length_map,hJ,g6,g7,pI]
   exact .i ⟨kk,by rw[e],cY⟩
  obtain⟨px,SN⟩:=dQ (l:=pl) (i:=j) (by omega)
  obtain⟨x,Fj⟩:∃x,x=px.2:=⟨_,rfl⟩
  have hx:l[j]?=some x:=by rw[←kz,List.getElem?_map,SN,Fj];rfl
  have SO:=hb x (List.mem_of_getElem? hx)
  have iY:=l9 x (List.mem_of_getElem? hx)
  have ix:=cZ (e:=lV) (n:=4) (fun _=>rfl) (by decide) (k:=k) SN
  have RB:fH 1 (.bh (lV px))=some (.bh [.int .u64 x.id,.str x.val,.sl px.1 (x.cm.map eB)]):=by rw[Fj];rfl
  have Vu:fH 3 (.bh (lV px))=some (.bh [.sl px.1 (x.cm.map eB)]):=by rw[Fj];rfl
  have xW:=aJ (show j<9223372036854775807 by omega)
  have ve:=vd (y:=y) hx
  by_cases fy:y.id<x.id
  rotate_left
  ·have e:gm y x=false:=by unfold gm;rw[decide_eq_false fy,Bool.false_and]
   rw[e]at ve
   simp -implicitDefEqProofs only[Bool.false_eq_true,if_false,List.append_nil]at ve
   simp -implicitDefEqProofs only[aA,aw,op,ef,cl,sq,reduceIte,q3,q4,q5,q6,q7,q9,j3,j4,j5,S1,List.length_map,hJ,g5,g6,g7,pI,aa,ix,iy,RB,SL,dP,fy,xW]
   exact⟨j+1,by omega,.i ⟨kk,ids,rfl,hr,by rw[ve];exact hm,by omega,cY⟩,rfl,pI⟩
  have NQ:=qw iY (by omega)
  obtain⟨b1,b2,h1,h2⟩:=nA NQ
  simp -implicitDefEqProofs only[aA,aw,op,ef,cl,sq,reduceIte,q3,q4,q5,q6,q7,q9,j3,j4,j5,S1,List.length_map,hJ,g5,g6,g7,pI,aa,ix,iy,RB,Vu,SL,dP,fy]
  refine af _ _ _ _ _ _ _ _ (wT px.1 x.cm SO.1 SO.2.1 _) ?_
  rintro u H4⟨dX,⟨jn,hu⟩|⟨_,bf,w,hu,C7⟩⟩
  ·rw[NQ]at jn;cases jn
  cases hu
  have dX:Ext H3 H4:=dX
  simp -implicitDefEqProofs only[aA,aw,op,ef,cl,sq,reduceIte,q3,q4,q5,q6,q7,q9,j3,j4,j5,S1,g5,aa,iy,SJ,SM]
  refine af _ _ _ _ _ _ _ _ (CS C7 b1 b2 h1 h2 y.key Kf.2.2) ?_
  rintro u H5⟨nb,hu⟩
  cases hu
  have nb:Ext H4 H5:=nb
  have e:gm y x=(du y.key (dH x.cm) (l6 x.cm)).all (iP x.cm):=by unfold gm Fm;rw[decide_eq_true fy,Bool.true_and]
  rw[←e]
  cases Js:gm y x
  ·rw[Js]at ve
   simp -implicitDefEqProofs only[Bool.false_eq_true,if_false,List.append_nil]at ve
   simp -implicitDefEqProofs only[aA,aw,op,ef,cl,sq,reduceIte,q3,q4,q5,q6,q7,q9,j3,j4,j5,S1,g6,g7,xW]
   exact⟨j+1,by omega,.i ⟨kk,ids,rfl,hr,by rw[ve];exact hm,by omega,cY.trans (dX.trans nb)⟩,rfl,pI⟩
  ·rw[Js]at ve
   simp -implicitDefEqProofs only[if_true]at ve
   simp -implicitDefEqProofs only[aA,aw,op,ef,cl,sq,reduceIte,q3,q4,q5,q6,q7,q9,j3,j4,j5,S1,g6,g7,aa,ix,RB,dP]
   refine af _ _ _ _ _ _ _ _ (I9 kk ids x.id hr (by omega) _) ?_
   rintro u H6⟨ym,k',l',hu,jE,DC,NH⟩
   cases hu
   have ym:Ext H5 H6:=ym
   simp -implicitDefEqProofs only[aA,aw,op,ef,cl,sq,reduceIte,q3,q4,q5,q6,q7,q9,j3,j4,j5,S1,g7,xW]
   exact⟨j+1,by omega,.i ⟨k',l',rfl,jE,fun z=>by rw[DC,hm,ve];simp,by omega,cY.trans (dX.trans (nb.trans ym))⟩,rfl,pI⟩
 ·rintro R H3⟨kk,g6,cY⟩
  have cY:Ext H2 H3:=cY
  have ve:=mZ l (l.take i) y
  rw[←fG hy]at ve
  by_cases he:bq l y=[]
  ·have e1:iQ l y=[]:=by unfold iQ;rw[if_pos he]
   have e2:gC (bq l y)=[]:=by
    rw[he];exact List.eq_nil_iff_forall_not_mem.2 fun z hz=>by rw[jO]at hz;cases hz
   rw[e2]at g6
   rw[e1,List.append_nil]at ve
   simp -implicitDefEqProofs only[aA,aw,op,ef,cl,sq,reduceIte,q3,q4,q5,q6,q7,q9,j3,j4,j5,S1,g4,g5,g6,List.map_nil,List.length_nil,ws]
   exact⟨i+1,by omega,.i ⟨ka,by rw[ve],bZ.trans cY,wP.ext cY⟩,rfl,aE⟩
  ·have e1:iQ l y=[(y.key,gC (bq l y))]:=by unfold iQ;rw[if_neg he]
   have uq:0<(gC (bq l y)).length:=by
    obtain⟨z,hz⟩:=List.exists_mem_of_ne_nil _ he
    exact List.length_pos_of_mem (jO.2 hz)
   rw[e1]at ve
   have yh:=kP l (l.take i)
   obtain⟨k1,H4,ha,iX,Fj⟩:=nC (e:=eA) (bytes:=40) (bH l (l.take i)) [(y.key,gC (bq l y))] (fun _=>rfl) (wP.ext cY) (by have:=bZ.len;have:=cY.len;omega) (fS (by simp at yh ⊢;omega))
   have o6:jP H3 40 ka ((bH l (l.take i)).map eA) [[.str y.key,.sl .arg ((gC (bq l y)).map eU)]]=some (.sl k1 ((bH l (l.take i)++[(y.key,gC (bq l y))]).map eA),H4):=ha
   have cj:=all_map (enc:=eA) (n:=2) (fun _=>rfl) (bH l (l.take i))
   simp -implicitDefEqProofs only[aA,aw,op,ef,cl,sq,reduceIte,q3,q4,q5,q6,q7,q9,j3,j4,j5,S1,g4,g5,g6,List.length_map,uq,aa,iy,SJ,SM,cj,o6,ws]
   exact⟨i+1,by omega,.i ⟨k1,by rw[ve],Fj H1 (Nat.le_refl _) (bZ.trans cY),iX⟩,rfl,aE⟩
theorem xZ (k k':SK)(l:List Nat)(hl:l.length≤8000000)(H:ae):W env (.call 21 [.sl k (l.map eU),.sl k' (l.map eU)]) H (rN (.bool true) H):=by
 refine W.cQ rfl rfl rfl ?_
 simp -implicitDefEqProofs only[Iv,op,ef,cl,sq,reduceIte,q3,q4,q5,q6,q7,q9,j3,j4,j5,S1,List.length_map]
 refine W.ea [(0,_),(1,_)] (fun (i:Nat) R H'=>H'=H∧R 5=.int .i64 i∧i≤l.length) (fun i=>l.length-i) 0 ⟨rfl,rfl,Nat.zero_le _⟩ ?_
 rintro i R H2⟨rfl,g5,hi⟩
 by_cases aE:i<l.length
 ·obtain⟨x,hx⟩:=dQ aE
  have i1:=cZ (e:=eU) (n:=1) (fun _=>rfl) (by decide) (k:=k) hx
  have i2:=cZ (e:=eU) (n:=1) (fun _=>rfl) (by decide) (k:=k') hx
  have qt:=aJ (show i<9223372036854775807 by omega)
  simp -implicitDefEqProofs only[aA,aw,op,ef,cl,sq,reduceIte,q3,q4,q5,q6,q7,q9,j3,j4,j5,S1,List.length_map,g5,aE,aa,i1,i2,eU,qt]
  exact⟨i+1,by omega,rfl,aE⟩
 ·simp -implicitDefEqProofs only[aA,aw,op,ef,cl,sq,reduceIte,q3,q4,q5,q6,q7,q9,j3,j4,j5,S1,List.length_map,g5,aE]
theorem Nl {N:Nat}(hS:B9 N)(k:SK)(pl:List (SK×dV))(hb:∀s∈pl,ry s.2)(hf:∀s∈pl,s.2.cm.length≤1073741823)(hl:pl.length≤8000000)(hN:pl.length≤N):W env (.call 4 [.sl k (pl.map lV)]) [] (fun o _=>o=.val (.bool true)):=by
 obtain⟨l,kz⟩:∃l,pl.map (·.2)=l:=⟨_,rfl⟩
 have hJ:pl.length=l.length:=by rw[←kz];simp
 have iW:∀s∈l,ry s:=fun s hs=>by rw[←kz]at hs;obtain⟨p,hp,rfl⟩:=List.mem_map.1 hs;exact hb p hp
 refine W.cQ rfl rfl rfl ?_
 simp -implicitDefEqProofs only[O4,op,ef,cl,sq,reduceIte,q3,q4,q5,q6,q7,q9,j3,j4,j5,S1]
 refine af _ _ _ _ _ _ _ _ B0 ?_
 rintro u H1 hu
 cases hu
 simp -implicitDefEqProofs only[op,ef,cl,sq,reduceIte,q3,q4,q5,q6,q7,q9,j3,j4,j5,S1]
 refine af _ _ _ _ _ _ _ _ (I7 k pl H1 hl hf) ?_
 rintro t H2⟨bZ,t',ql,hu,GU,FI⟩
 cases hu
 rw[kz]at GU
 have SP:(ql.map (·.2)).map (dG .arg)=l.map (dG .arg):=by rw[GU]
 simp -implicitDefEqProofs only[op,ef,cl,sq,reduceIte,q3,q4,q5,q6,q7,q9,j3,j4,j5,S1]
 refine af _ _ _ _ _ _ _ _ (FI.call (Q:=fun o H'=>oS H' t ql∧o=.val (.bool (formed l))) fun H3 N3 _=>?_) ?_
 ·rw[SP]
  exact(CN .arg l iW (by omega) H3).use fun o H' ⟨hx,ho⟩=>⟨N3.ext hx,ho⟩
 rintro u H3⟨N3,hu⟩
 cases hu
 simp -implicitDefEqProofs only[op,ef,cl,sq,reduceIte,q3,q4,q5,q6,q7,q9,j3,j4,j5,S1]
 refine af _ _ _ _ _ _ _ _ (N3.call (by rw[SP];exact Fp hS .arg l iW (by omega) (by omega) H3)) ?_
 rintro u H4⟨dX,hu⟩
 have Vv:=N3.ext dX
 have Nm:=fun H5 (hx:Ext H4 H5)=>Fv (Vv.ext hx) k pl (by rw[kz,GU]) hl hf
 rcases hu with⟨jn,ka,hu⟩|⟨gk,ka,hu⟩
 ·cases hu
  simp -implicitDefEqProofs only[op,ef,cl,sq,reduceIte,q3,q4,q5,q6,q7,q9,j3,j4,j5,S1]
  refine af _ _ _ _ _ _ _ _ (tR k pl l kz iW (by omega) _) ?_
  rintro u H5⟨nb,⟨_,kb,hu⟩|⟨gk,_⟩⟩
  rotate_left
  ·rw[jn]at gk;cases gk
  cases hu
  simp -implicitDefEqProofs only[op,ef,cl,sq,reduceIte,q3,q4,q5,q6,q7,q9,j3,j4,j5,S1,jn]
  refine af _ _ _ _ _ _ _ _ (mP k pl l kz iW (by omega) _) ?_
  rintro u H6⟨ym,hu⟩
  cases hu
  simp -implicitDefEqProofs only[op,ef,cl,sq,reduceIte,q3,q4,q5,q6,q7,q9,j3,j4,j5,S1,jn,List.length_nil]
  refine af _ _ _ _ _ _ _ _ (Nm _ (nb.trans ym)) ?_
  rintro u H7⟨Vx,hu⟩
  cases hu
  simp -implicitDefEqProofs only[op,ef,cl,sq,reduceIte,q3,q4,q5,q6,q7,q9,j3,j4,j5,S1]
  refine W.ea [(5,_)] (fun (i:Nat) R H'=>R 9=.int .i64 i) (fun i=>1-i) 0 rfl ?_
  rintro i R H8 g9
  have hi:¬i<0:=by omega
  simp -implicitDefEqProofs only[aA,aw,op,ef,cl,sq,reduceIte,q3,q4,q5,q6,q7,q9,j3,j4,j5,S1,g9,List.length_nil,hi]
 ·cases hu
  simp -implicitDefEqProofs only[op,ef,cl,sq,reduceIte,q3,q4,q5,q6,q7,q9,j3,j4,j5,S1]
  refine af _ _ _ _ _ _ _ _ (tR k pl l kz iW (by omega) _) ?_
  rintro u H5⟨nb,⟨jn,_⟩|⟨_,kb,hu⟩⟩
  ·rw[gk]at jn;cases jn
  cases hu
  simp -implicitDefEqProofs only[op,ef,cl,sq,reduceIte,q3,q4,q5,q6,q7,q9,j3,j4,j5,S1,gk]
  refine af _ _ _ _ _ _ _ _ (mP k pl l kz iW (by omega) _) ?_
  rintro u H6⟨ym,hu⟩
  cases hu
  simp -implicitDefEqProofs only[op,ef,cl,sq,reduceIte,q3,q4,q5,q6,q7,q9,j3,j4,j5,S1,gk,List.length_map]
  refine af _ _ _ _ _ _ _ _ (Nm _ (nb.trans ym)) ?_
  rintro u H7⟨Vx,hu⟩
  cases hu
  have yh:=kP l l
  have N1:∀y,(bq l y).length≤l.length:=fun y=>by unfold bq;rw[List.length_map];exact List.length_filter_le _ _
  have Nn:∀a∈bH l l,a.2.length≤l.length:=fun a ha=>by
   unfold bH at ha
   obtain⟨y,_,hy⟩:=List.mem_flatMap.1 ha
   unfold iQ at hy
   split at hy
   ·cases hy
   ·cases List.mem_singleton.1 hy
    refine Nat.le_trans ?_ (N1 y)
    have h1:=(rA (bq l y)).1.length_eq
    rw[←h1]
    exact Fk _ _
  simp -implicitDefEqProofs only[op,ef,cl,sq,reduceIte,q3,q4,q5,q6,q7,q9,j3,j4,j5,S1]
  refine W.ea [(5,_),(7,_)] (fun (i:Nat) R H'=>R 9=.int .i64 i∧i≤(bH l l).length) (fun i=>(bH l l).length-i) 0 ⟨rfl,Nat.zero_le _⟩ ?_
  rintro i R H8⟨g9,hi⟩
  by_cases aE:i<(bH l l).length
  ·obtain⟨a,ha⟩:=dQ aE
   have i1:=cZ (e:=eA) (n:=2) (fun _=>rfl) (by decide) (k:=ka) ha
   have i2:=cZ (e:=eA) (n:=2) (fun _=>rfl) (by decide) (k:=kb) ha
   have f0:fH 0 (.bh (eA a))=some (.bh (eA a)):=rfl
   have f1:fH 1 (.bh (eA a))=some (.bh [.sl .arg (a.2.map eU)]):=rfl
   have l0:∀Hx,iU Hx 1 (.bh (eA a))=some [.str a.1]:=fun _=>rfl
   have qt:=aJ (show i<9223372036854775807 by omega)
   simp -implicitDefEqProofs only[aA,aw,op,ef,cl,sq,reduceIte,q3,q4,q5,q6,q7,q9,j3,j4,j5,S1,List.length_map,g9,aE,aa,i1,i2,f0,f1,l0,dP]
   refine af _ _ _ _ _ _ _ _ (xZ .arg .arg a.2 (by have:=Nn a (List.mem_of_getElem? ha);omega) _) ?_
   rintro u H9⟨hu,rfl⟩
   cases hu
   simp -implicitDefEqProofs only[aA,aw,op,ef,cl,sq,reduceIte,q3,q4,q5,q6,q7,q9,j3,j4,j5,S1,g9,qt]
   exact⟨i+1,by omega,rfl,aE⟩
  ·simp -implicitDefEqProofs only[aA,aw,op,ef,cl,sq,reduceIte,q3,q4,q5,q6,q7,q9,j3,j4,j5,S1,List.length_map,g9,aE]
end Go.Proofs.YtmgldhlcapjdkaaGreat.St
end

section
namespace Go.Proofs.YtmgldhlcapjdkaaGreat
open Go.ChangeShapes Go.WideShapes Go.ChangeAt Go.RowKit
namespace Law
theorem own:ownKnob Tryz.prog.godebug=none:=by kernel_rfl
theorem kids:Kids Tryz.prog (·<Tryz.prog.types.size):=kids_rows (by kernel_rfl) (by kernel_rfl)
noncomputable def Vy:Bool:=(List.range Tryz.prog.types.size).all fun t=>match Tryz.prog.underlying t with
 | some (.slice e)=>decide (0<Tryz.prog.cellsOf e)
 | _=>true
theorem Ja:Vy=true:=by kernel_rfl
theorem hz:∀t e,t<Tryz.prog.types.size→Tryz.prog.underlying t=some (.slice e)→0<Tryz.prog.cellsOf e:=fun t e ht h=>by
 have:=(List.all_eq_true.1 Ja) t (List.mem_range.2 ht)
 rw[h]at this
 simpa using this
mutual
theorem nD {H:Type}:∀d:DataW H,Go.Rmp.bn d=Rows.uptoBulk d
 | .lit l=>by cases l<;>simp[Go.Rmp.bn,Rows.uptoBulk]
 | .nil=>by simp[Go.Rmp.bn,Rows.uptoBulk]
 | .ptr d=>by simp[Go.Rmp.bn,Rows.uptoBulk,nD d]
 | .slice elems spare=>by simp[Go.Rmp.bn,Rows.uptoBulk,jB elems,jB spare]
 | .agg parts=>by simp[Go.Rmp.bn,Rows.uptoBulk,jB parts]
 | .iface _ d=>by simp[Go.Rmp.bn,Rows.uptoBulk,nD d]
 | .map entries=>by simp[Go.Rmp.bn,Rows.uptoBulk,tT entries]
 | .held _=>by simp[Go.Rmp.bn,Rows.uptoBulk]
theorem jB {H:Type}:∀l:List (DataW H),Go.Rmp.ba l=Rows.uptoBulkAll l
 | []=>by simp[Go.Rmp.ba,Rows.uptoBulkAll]
 | d :: r=>by simp[Go.Rmp.ba,Rows.uptoBulkAll,nD d,jB r]
theorem tT {H:Type}:∀l:List (Lit×DataW H),Go.Rmp.dN l=Rows.uptoBulkEntries l
 | []=>by simp[Go.Rmp.dN,Rows.uptoBulkEntries]
 | x :: r=>by simp[Go.Rmp.dN,Rows.uptoBulkEntries,x0 x,tT r]
theorem x0 {H:Type}:∀x:Lit×DataW H,Go.Rmp.kG x=Rows.uptoBulkEntry x
 | (l,d)=>by cases l<;>simp[Go.Rmp.kG,Rows.uptoBulkEntry,nD d]
end
theorem Fz {H:Type}{ds:List (DataW H)}(h:Rows.uptoSmall H ds=true):Go.Rmp.ba ds≤1048576:=by
 rw[jB];simpa[Rows.uptoSmall]using h
theorem No {B:Nat}{t:Go.Rmp.T}(h:Go.Rmp.dq B .str t):∃s,t=.str s∧s.size≤B:=by
 cases h with|str h hB=>exact⟨_,rfl,hB⟩
theorem RC {B:Nat}{t:Go.Rmp.T}(h:Go.Rmp.dq B (.int .u64) t):∃n:Nat,t=.int .u64 n∧n<18446744073709551616:=by
 cases h with|int h =>
  rename_i n
  simp -implicitDefEqProofs only[Lit.wf,IntKind.min,IntKind.max,IntKind.signed,IntKind.bits]at h
  simp at h
  exact⟨n.toNat,by congr 1;omega,by omega⟩
theorem Np {B:Nat}{t:Go.Rmp.T}(h:Go.Rmp.dq B (.int .u8) t):∃n:Nat,t=.int .u8 n∧n<256:=by
 cases h with|int h =>
  rename_i n
  simp -implicitDefEqProofs only[Lit.wf,IntKind.min,IntKind.max,IntKind.signed,IntKind.bits]at h
  simp at h
  exact⟨n.toNat,by congr 1;omega,by omega⟩
end Law
namespace St
open Go.Rmp
theorem CU {α:Type}{P:α→Prop}(enc:α→List T)(es:List (List T))(h:∀c∈es,∃x,c=enc x∧P x):∃l:List α,es=l.map enc∧∀x∈l,P x:=by
 induction es with
 | nil=>exact⟨[],rfl,by simp⟩
 | cons c es ih =>
  obtain⟨l,rfl,hl⟩:=ih (fun c hc=>h c (List.mem_cons_of_mem _ hc))
  obtain⟨x,rfl,hx⟩:=h _ List.mem_cons_self
  exact⟨x :: l,rfl,fun y hy=>by rcases List.mem_cons.1 hy with rfl|hy;exact hx;exact hl y hy⟩
theorem Jb {B:Nat}{t:T}(h:dq B (.sl [.int .u8]) t):∃k l,t=.sl k (List.map eB l)∧pw k l∧l.length≤B∧Bytes l:=by
 cases h with
 | nil=>exact⟨.nil,[],rfl,fun _=>rfl,Nat.zero_le _,fun x hx=>by simp at hx⟩
 | sl hl hB h0 h =>
  rename_i es
  obtain⟨l,rfl,hP⟩:=CU (P:=fun s:Nat=>s<256) eB es fun c hc=>by
   have lz:=h0 c hc
   match c,lz with
   | [a],_=>obtain⟨s,rfl,hs⟩:=Law.Np (h _ hc 0 (.int .u8) a rfl rfl);exact⟨s,rfl,hs⟩
  exact⟨.arg,l,rfl,fun h=>(by cases h),by simpa using hB,hP⟩
theorem Jc {B:Nat}{t:T}(h:dq B (.sl [.str,.int .u64,.str,.sl [.int .u8]]) t):∃(k:SK) (l:List (SK×dV)),t=.sl k (l.map (fun p=>dG p.1 p.2))∧pw k l∧l.length≤B∧∀p∈l,pw p.1 p.2.cm∧p.2.cm.length≤B∧Bytes p.2.cm∧p.2.key.size≤B∧p.2.val.size≤B:=by
 cases h with
 | nil=>exact⟨.nil,[],rfl,fun _=>rfl,Nat.zero_le _,by simp⟩
 | sl hl hB h0 h =>
  rename_i es
  obtain⟨l,rfl,hP⟩:=CU (P:=fun p:SK×dV=>pw p.1 p.2.cm∧p.2.cm.length≤B∧Bytes p.2.cm∧p.2.key.size≤B∧p.2.val.size≤B) (fun p=>dG p.1 p.2) es fun c hc=>by
   have lz:=h0 c hc
   match c,lz with
   | [a,b,c,d],_ =>
    obtain⟨s,rfl,hs⟩:=Law.No (h _ hc 0 .str a rfl rfl)
    obtain⟨n,rfl,_⟩:=Law.RC (h _ hc 1 (.int .u64) b rfl rfl)
    obtain⟨s',rfl,dW⟩:=Law.No (h _ hc 2 .str c rfl rfl)
    obtain⟨k,l,rfl,hk,hl,hb⟩:=Jb (h _ hc 3 (.sl [.int .u8]) d rfl rfl)
    exact⟨(k,⟨s,n,s',l⟩),rfl,hk,hl,hb,hs,dW⟩
  exact⟨.arg,l,rfl,fun h=>(by cases h),by simpa using hB,hP⟩
end St
namespace Law
theorem rF (yB:List Go.Rmp.T)(hs:Go.Rmp.kH 1048576 [.sl [.str,.int .u64,.str,.sl [.int .u8]]] yB):Go.Rmp.W Ir.env (.call 4 yB) [] (fun o _=>o=.val (.bool true)):=by
 cases hs with|cons h2 hs =>
 cases hs
 obtain⟨k2,l,rfl,_,n3,n4⟩:=St.Jc h2
 exact St.Nl St.IM k2 l (fun p hp=>⟨(n4 p hp).2.2.1,by have:=(n4 p hp).2.1;omega,by have:=(n4 p hp).2.2.2.1;omega⟩) (fun p hp=>by have:=(n4 p hp).2.1;omega) (by omega) (by omega)
theorem pq (H:Type):∀ds:List (DataW H),ds.length=Tryz.f4.params.toList.length→Rows.hybridAsksSpec.fn H ds={ results:=[.lit (.bool true)],args:=ds }:=by
 have hn:Tryz.f4.params.toList.length=1:=by kernel_rfl
 rw[hn]
 intro ds zn
 cases ds with|nil=>simp at zn|cons d0 ds =>
 cases ds with|cons=>simp at zn|nil =>
 rfl
set_option maxRecDepth 100000 in
theorem lW (os:Os)(started:os.Started)(H:Type)(enc:TypeId×Value→H)(F:Stop.Interp) :
  ReturnsInHanded {} Tryz.checked os 4 .any ((Rows.OpenSpec.upto Rows.hybridAsksSpec).pre6 enc Tryz.prog Tryz.f4 Rows.hybridAsksUptoRow.domain false) (((Rows.OpenSpec.upto Rows.hybridAsksSpec).at F).post enc Tryz.prog Tryz.f4 false true false false):=by
 refine returnsInHanded_of_cond (C:=Tryz.checked) (s:=Rows.OpenSpec.upto Rows.hybridAsksSpec) (k:=Rows.uptoSmall) rfl own started (by kernel_rfl) Tryz.func4
  (OpenSpec.witness (enc:=enc) (C:=Tryz.checked) (s:=Rows.OpenSpec.upto Rows.hybridAsksSpec) (k:=Rows.uptoSmall) rfl false ⟨#[],#[.slice .none 0 0],[]⟩ 8 (by kernel_rfl) (by kernel_rfl) (by kernel_rfl)
   (x:=([.nil],[],[])) (by kernel_rfl) rfl (by kernel_rfl)) ?_
 intro W base args ds gs before sR hW _ hk _
 exact Go.Rmp.qU (s:=Rows.hybridAsksSpec) (yj:=[.sl [.str,.int .u64,.str,.sl [.int .u8]]]) (B:=1048576) (tb:=Tryz.f4.resultTypes[0]!) Ir.MF kids hz (by kernel_rfl) (by intro t ht;exact of_decide_eq_true ((List.all_eq_true.1 (show Tryz.f4.params.toList.all (fun t=>decide (t<Tryz.prog.types.size))=true by kernel_rfl)) t ht)) (by kernel_rfl) (by kernel_rfl) rfl (pq H) rF base args ds gs before sR hW (Fz hk)
theorem ng:Rows.hybridAsksUptoRow.holds Tryz.pinned (Rows.OpenSpec.upto Rows.hybridAsksSpec) :=
 OpenClaim.holds_of_cond 4 Tryz.f4 rfl rfl rfl rfl rfl rfl rfl ⟨rfl,rfl,rfl,rfl,rfl⟩ rfl rfl rfl rfl rfl (by kernel_rfl) Tryz.func4 (by kernel_rfl)
  (of_decide_eq_true (by kernel_rfl)) (by unfold Func.isWrapper;first|(rw[if_pos (by decide +kernel)];kernel_rfl)|(rw[if_neg (by decide +kernel)];exact⟨rfl,rfl⟩))
  (fun os started H enc _ F=>lW os started H enc F)
theorem hybridAsks_proved:Rows.HybridAsksUptoSaid:=ng
end Law
end Go.Proofs.YtmgldhlcapjdkaaGreat
end
