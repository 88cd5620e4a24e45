/- Part of a proof of a law of this seat: the machine of plain values, its simulation, and the contracts of the functions that the law reaches. Conditions: none beyond the given row. -/
import Derived.Test.YtaplookbfhicoaaGreatDoorM1
import Derived.Test.YtaplookbfhicoaaGreatDoorProg
import Derived.KernelRfl
import Derived.Test.YtaplookbfhicoaaGreatDoorRows
import Derived.WalkKit
import Derived.ProofKit
import Derived.OpenShut
import Derived.JoinedCond
import Derived.ChangeBears
import Derived.Test.YtaplookbfhicoaaGreatDoorCards
import Derived.Test.YtaplookbfhicoaaGreatDoorTie
import Derived.Deep.DeepHandedRow
import Derived.Lib.LaidTab
open Int renaming reduceLT → q6, reduceLE → q7, reduceBEq → q8, reduceBNe → q9, reduceEq → j3
open Nat renaming reduceAdd → j4, reduceLeDiff → j5, reduceLT → j6, reduceEqDiff → j7
set_option linter.unusedSimpArgs false
set_option linter.unusedVariables false
set_option linter.unnecessarySimpa false
set_option maxHeartbeats 4000000
section
namespace Go.Rmp
theorem kc (l:List T):(T.agg l).cells?=some l:=rfl
theorem kd (k:IntKind)(n:Int):(T.int k n).cells?=some [.int k n]:=rfl
theorem ke (s:ByteArray):(T.str s).cells?=some [.str s]:=rfl
theorem iY (s:Bool):(T.bool s).cells?=some [.bool s]:=rfl
theorem mC (k:SK)(l:List (List T)):(T.sl k l).cells?=some [.sl k l]:=rfl
theorem kf (a b c d:Nat):(T.aO a b c d).cells?=some [.aO a b c d]:=rfl
theorem kg (b:Nat):(T.map b).cells?=some [.map b]:=rfl
theorem ki (a b:Nat):(T.ptr a b).cells?=some [.ptr a b]:=rfl
theorem iZ:(T.bL).cells?=some [.bL]:=rfl
theorem ja:(T.bE).cells?=some [.bE]:=rfl
theorem Az (v:T):o3 [v]=v:=rfl
theorem AA (v w:T):o3 [v,w]=.bl [v,w]:=rfl
theorem AB (v w x:T):o3 [v,w,x]=.bl [v,w,x]:=rfl
theorem sA (k:IntKind)(n:Int):(T.int k n).erase=.int k n:=rfl
theorem sB (s:ByteArray):(T.str s).erase=.str s:=rfl
theorem oN (s:Bool):(T.bool s).erase=.bool s:=rfl
theorem w8 (k:SK)(l:List (List T)):(T.sl k l).erase=.sl .arg l:=rfl
theorem sC (a b:Nat):(T.ptr a b).erase=.ptr a b:=rfl
theorem sD (b:Nat):(T.map b).erase=.map b:=rfl
theorem oO:(T.bL).erase=.bL:=rfl
theorem oP:(T.bE).erase=.bE:=rfl
theorem w9 (H:aa)(n:Nat)(k:SK)(es:List (List T)):aI H n (.sl k es)=if es.all (·.length==n)then some es else none:=rfl
theorem sE (R:ah):aq R Option.none=true:=rfl
theorem sF (p:Prop):(True→p)=p:=by simp
theorem xa (p:Prop):(p→True)=True:=by simp
theorem xb (p:Prop):(true=true→p)=p:=by simp
theorem xc (p:Prop):(false=true→p)=True:=by simp
theorem sG (b:Bool):y0 .not (.bool b)=some (.bool !b):=rfl
theorem sH (k:IntKind)(a b:Int):aM .add (.int k a) (.int k b)=some (.int k (k.wrap (a+b))):=by simp[aM]
theorem sI (k:IntKind)(a b:Int):aM .sub (.int k a) (.int k b)=some (.int k (k.wrap (a-b))):=by simp[aM]
theorem sJ (k:IntKind)(a b:Int):aM .mul (.int k a) (.int k b)=some (.int k (k.wrap (a*b))):=by simp[aM]
theorem sK (k:IntKind)(a b:Int):aM .quo (.int k a) (.int k b)=if b=0 then none else some (.int k (k.wrap (a.tdiv b))):=by simp[aM]
theorem sL (k:IntKind)(a b:Int):aM .rem (.int k a) (.int k b)=if b=0 then none else some (.int k (a.tmod b)):=by simp[aM]
theorem sM (k k':IntKind)(a b:Int):aM .shl (.int k a) (.int k' b)=if b<0 then none else some (.int k (k.wrap (a*2^(min b.toNat k.bits)))):=by simp[aM]
theorem sN (k k':IntKind)(a b:Int):aM .shr (.int k a) (.int k' b)=if b<0 then none else some (.int k (a.fdiv (2^(min b.toNat k.bits)))):=by simp[aM]
theorem sO (k:IntKind)(a b:Int):aM .and (.int k a) (.int k b)=some (.int k (k.wrap (BitVec.ofInt k.bits a &&& BitVec.ofInt k.bits b).toNat)):=by simp[aM]
theorem xd (k:IntKind)(a b:Int):aM .or (.int k a) (.int k b)=some (.int k (k.wrap (BitVec.ofInt k.bits a ||| BitVec.ofInt k.bits b).toNat)):=by simp[aM]
theorem sP (k:IntKind)(a b:Int):aM .xor (.int k a) (.int k b)=some (.int k (k.wrap (BitVec.ofInt k.bits a ^^^ BitVec.ofInt k.bits b).toNat)):=by simp[aM]
theorem sQ (k:IntKind)(a b:Int):aM .eql (.int k a) (.int k b)=some (.bool (a==b)):=by simp[aM]
theorem sR (k:IntKind)(a b:Int):aM .neq (.int k a) (.int k b)=some (.bool (a != b)):=by simp[aM]
theorem sS (k:IntKind)(a b:Int):aM .lss (.int k a) (.int k b)=some (.bool (a<b)):=by simp[aM]
theorem sU (k:IntKind)(a b:Int):aM .leq (.int k a) (.int k b)=some (.bool (a≤b)):=by simp[aM]
theorem sV (k:IntKind)(a b:Int):aM .gtr (.int k a) (.int k b)=some (.bool (b<a)):=by simp[aM]
theorem sW (k:IntKind)(a b:Int):aM .geq (.int k a) (.int k b)=some (.bool (b≤a)):=by simp[aM]
theorem sX (a b:ByteArray):aM .eql (.str a) (.str b)=some (.bool (decide (a=b))):=by simp[aM,b6]
theorem sY (a b:ByteArray):aM .neq (.str a) (.str b)=some (.bool (!decide (a=b))):=by simp[aM,b6]
theorem sZ (a b:ByteArray):aM .lss (.str a) (.str b)=some (.bool (strLt a b)):=by rfl
theorem s0 (a b:ByteArray):aM .leq (.str a) (.str b)=some (.bool (!strLt b a)):=by have:=not_le b a;simp only[aM,Option.some.injEq,T.bool.injEq];rw[←this];simp
theorem s7 (a b:ByteArray):aM .gtr (.str a) (.str b)=some (.bool (strLt b a)):=by have:=not_le b a;simp only[aM,Option.some.injEq,T.bool.injEq];exact this
theorem s8 (a b:ByteArray):aM .geq (.str a) (.str b)=some (.bool (!strLt a b)):=by rfl
theorem s9 (a b:ByteArray):aM .add (.str a) (.str b)=if a.size+b.size≤9223372036854775807 then some (.str (a++b))else none:=rfl
theorem ta (a b:Nat):decide ((a:Int)<(no_index (OfNat.ofNat b)))=decide (a<OfNat.ofNat b):=B7 a b
theorem td (a b:Nat):decide ((no_index (OfNat.ofNat b):Int)<(a:Int))=decide (OfNat.ofNat b<a):=B7 b a
theorem te (a b:Nat):decide ((a:Int)≤(no_index (OfNat.ofNat b)))=decide (a≤OfNat.ofNat b):=B8 a b
theorem tf (a b:Nat):decide ((no_index (OfNat.ofNat b):Int)≤(a:Int))=decide (OfNat.ofNat b≤a):=B8 b a
theorem tg (a b:Nat):((a:Int)==(no_index (OfNat.ofNat b)))=decide (a=OfNat.ofNat b):=B9 a b
theorem th (a b:Nat):((a:Int) != (no_index (OfNat.ofNat b)))=!decide (a=OfNat.ofNat b):=C3 a b
set_option linter.defProp false in
theorem S1:type_of% (And.intro (@Am)<|And.intro (@ae.eq_37)<|And.intro (@ae.eq_38)<|And.intro (@ae.eq_43)<|And.intro (@ae.eq_44)<|And.intro (@ae.eq_45)<|And.intro (@Ar)<|And.intro (@As)<|And.intro (@Au)<|And.intro (@cU.eq_1)<|And.intro (@cU.eq_2)<|And.intro (@sE)<|And.intro (@sF)<|And.intro (@xa)<|And.intro (@xb)<|And.intro (@xc)<|And.intro (@rL)<|And.intro (@List.nil_append.{0})<|And.intro (@List.append_nil.{0})<|And.intro (@List.cons_append.{0})<|And.intro (@sA)<|And.intro (@sB)<|And.intro (@oN)<|And.intro (@w8)<|And.intro (@sC)<|And.intro (@sD)<|And.intro (@oO)<|And.intro (@oP)<|And.intro (@w9)<|And.intro (@bT.eq_1)<|And.intro (@bT.eq_2)<|And.intro (@e7.eq_1)<|And.intro (@e7.eq_2)<|And.intro (@dA.eq_1)<|And.intro (@dA.eq_2)<|And.intro (@dB.eq_1)<|And.intro (@dB.eq_2)<|And.intro (@List.replicate_zero.{0})<|And.intro (@List.replicate_succ.{0})<|And.intro (@List.set_cons_zero.{0})<|And.intro (@List.set_cons_succ.{0})<|And.intro (@List.all_cons.{0})<|And.intro (@List.all_nil.{0})<|And.intro (@Bool.and_true)<|And.intro (@Bool.true_and)<|And.intro (@mj)<|And.intro (@oK)<|And.intro (@r7)<|And.intro (@oL)<|And.intro (@r8)<|And.intro (@oM)<|And.intro (@ta)<|And.intro (@td)<|And.intro (@te)<|And.intro (@tf)<|And.intro (@tg)<|And.intro (@th)<|And.intro (@wR)<|And.intro (@Ef)<|And.intro (@Eg)<|And.intro (@Eh)<|And.intro (@Al)<|And.intro (@rM)<|And.intro (@wS)<|And.intro (@wT)<|And.intro (@rN)<|And.intro (@rO)<|And.intro (@rP)<|And.intro (@wU)<|And.intro (@oB)<|And.intro (@wV)<|And.intro (@rQ)<|And.intro (@oC)<|And.intro (@rR)<|And.intro (@wW)<|And.intro (@rS)<|And.intro (@oD)<|And.intro (@oE)<|And.intro (@rT)<|And.intro (@rU)<|And.intro (@rV)<|And.intro (@rW)<|And.intro (@rX)<|And.intro (@wX)<|And.intro (@wY)<|And.intro (@wZ)<|And.intro (@Bool.false_eq_true)<|And.intro (@rY)<|And.intro (@rZ)<|And.intro (@w4)<|And.intro (@w7)<|And.intro (@w5)<|And.intro (@w6)<|And.intro (@mh)<|And.intro (@jZ)<|And.intro (@List.length_cons.{0})<|And.intro (@List.length_nil.{0})<|And.intro (@List.drop_succ_cons.{0})<|And.intro (@List.drop_zero.{0})<|And.intro (@List.take_succ_cons.{0})<|And.intro (@List.take_zero.{0})<|And.intro (@kc)<|And.intro (@kd)<|And.intro (@ke)<|And.intro (@iY)<|And.intro (@mC)<|And.intro (@kf)<|And.intro (@kg)<|And.intro (@ki)<|And.intro (@iZ)<|And.intro (@ja)<|And.intro (@kv.eq_1)<|And.intro (@kv.eq_2)<|And.intro (@Nat.zero_add)<|And.intro (@Ai)<|And.intro (@Aj)<|And.intro (@ll.eq_1)<|And.intro (@ll.eq_2)<|And.intro (@rF)<|And.intro (@rG)<|And.intro (@rH)<|And.intro (@oA)<|And.intro (@oG)<|And.intro (@oH)<|And.intro (@oI)<|And.intro (@oJ)<|And.intro (@true_and)<|And.intro (@and_true)<|And.intro (@Option.map_some.{0,0})<|And.intro (@Option.bind_some.{0,0})<|And.intro (@sG)<|And.intro (@eo.eq_1)<|And.intro (@eo.eq_2)<|And.intro (@eo.eq_3)<|And.intro (@eo.eq_4)<|And.intro (@eo.eq_5)<|And.intro (@cT)<|And.intro (@Ap)<|And.intro (@Aq)<|And.intro (@nJ.eq_1)<|And.intro (@nJ.eq_2)<|And.intro (@fL.eq_1)<|And.intro (@jk.eq_1)<|And.intro (@jk.eq_2)<|And.intro (@mU.eq_1)<|And.intro (@mU.eq_2)<|And.intro (@Az)<|And.intro (@AA)<|And.intro (@AB)<|And.intro (@B7)<|And.intro (@B8)<|And.intro (@B9)<|And.intro (@C3)<|And.intro (@List.map_cons.{0,0})<|And.intro (@List.map_nil.{0,0})<|And.intro (@decide_true)<|And.intro (@decide_false)<|And.intro (@b6)<|And.intro (@Bool.not_true)<|And.intro (@Bool.not_false)<|And.intro (@beq_self_eq_true.{0})<|And.intro (@bne_self_eq_false.{0})<|And.intro (@List.getElem?_cons_zero.{0})<|And.intro (@List.getElem?_cons_succ.{0})<|And.intro (@List.getElem?_nil.{0})<|And.intro (@List.length_map.{0,0})<|And.intro (@oF)<|And.intro (@T.bool.injEq)<|And.intro (@T.int.injEq)<|And.intro (@T.str.injEq)<|And.intro (@T.bl.injEq)<|And.intro (@ae.eq_1)<|And.intro (@ae.eq_2)<|And.intro (@ae.eq_3)<|And.intro (@ae.eq_4)<|And.intro (@ae.eq_5)<|And.intro (@ae.eq_6)<|And.intro (@ae.eq_7)<|And.intro (@ae.eq_8)<|And.intro (@ae.eq_9)<|And.intro (@ae.eq_10)<|And.intro (@ae.eq_11)<|And.intro (@ae.eq_12)<|And.intro (@ae.eq_13)<|And.intro (@ae.eq_14)<|And.intro (@ae.eq_15)<|And.intro (@ae.eq_16)<|And.intro (@ae.eq_17)<|And.intro (@ae.eq_18)<|And.intro (@ae.eq_19)<|And.intro (@ae.eq_20)<|And.intro (@ae.eq_21)<|And.intro (@ae.eq_22)<|And.intro (@ae.eq_23)<|And.intro (@ae.eq_24)<|And.intro (@ae.eq_25)<|And.intro (@ae.eq_26)<|And.intro (@sg)<|And.intro (@mq)<|And.intro (@sh)<|And.intro (@mr)<|And.intro (@si)<|And.intro (@sj)<|And.intro (@sk)<|And.intro (@mw)<|And.intro (@sm)<|And.intro (@sn)<|And.intro (@su)<|And.intro (@my)<|And.intro (@ae.eq_30)<|And.intro (@ae.eq_31)<|And.intro (@ae.eq_32)<|And.intro (@ae.eq_33)<|And.intro (@ae.eq_34)<|And.intro (@ae.eq_35)<|And.intro (@ae.eq_36)<|And.intro (@sb)<|And.intro (@sf)<|And.intro (@mo)<|And.intro (@sw)<|And.intro (@sx)<|And.intro (@mz)<|And.intro (@sy)<|And.intro (@sz)<|And.intro (@mA)<|And.intro (@mB)<|And.intro (@ka)<|And.intro (@kb)<|And.intro (@sH)<|And.intro (@sI)<|And.intro (@sJ)<|And.intro (@sK)<|And.intro (@sL)<|And.intro (@sM)<|And.intro (@sN)<|And.intro (@sO)<|And.intro (@xd)<|And.intro (@sP)<|And.intro (@sQ)<|And.intro (@sR)<|And.intro (@sS)<|And.intro (@sU)<|And.intro (@sV)<|And.intro (@sW)<|And.intro (@sX)<|And.intro (@sY)<|And.intro (@sZ)<|And.intro (@s0)<|And.intro (@s7)<|And.intro (@s8)<|(@s9)):=And.intro (@Am)<|And.intro (@ae.eq_37)<|And.intro (@ae.eq_38)<|And.intro (@ae.eq_43)<|And.intro (@ae.eq_44)<|And.intro (@ae.eq_45)<|And.intro (@Ar)<|And.intro (@As)<|And.intro (@Au)<|And.intro (@cU.eq_1)<|And.intro (@cU.eq_2)<|And.intro (@sE)<|And.intro (@sF)<|And.intro (@xa)<|And.intro (@xb)<|And.intro (@xc)<|And.intro (@rL)<|And.intro (@List.nil_append.{0})<|And.intro (@List.append_nil.{0})<|And.intro (@List.cons_append.{0})<|And.intro (@sA)<|And.intro (@sB)<|And.intro (@oN)<|And.intro (@w8)<|And.intro (@sC)<|And.intro (@sD)<|And.intro (@oO)<|And.intro (@oP)<|And.intro (@w9)<|And.intro (@bT.eq_1)<|And.intro (@bT.eq_2)<|And.intro (@e7.eq_1)<|And.intro (@e7.eq_2)<|And.intro (@dA.eq_1)<|And.intro (@dA.eq_2)<|And.intro (@dB.eq_1)<|And.intro (@dB.eq_2)<|And.intro (@List.replicate_zero.{0})<|And.intro (@List.replicate_succ.{0})<|And.intro (@List.set_cons_zero.{0})<|And.intro (@List.set_cons_succ.{0})<|And.intro (@List.all_cons.{0})<|And.intro (@List.all_nil.{0})<|And.intro (@Bool.and_true)<|And.intro (@Bool.true_and)<|And.intro (@mj)<|And.intro (@oK)<|And.intro (@r7)<|And.intro (@oL)<|And.intro (@r8)<|And.intro (@oM)<|And.intro (@ta)<|And.intro (@td)<|And.intro (@te)<|And.intro (@tf)<|And.intro (@tg)<|And.intro (@th)<|And.intro (@wR)<|And.intro (@Ef)<|And.intro (@Eg)<|And.intro (@Eh)<|And.intro (@Al)<|And.intro (@rM)<|And.intro (@wS)<|And.intro (@wT)<|And.intro (@rN)<|And.intro (@rO)<|And.intro (@rP)<|And.intro (@wU)<|And.intro (@oB)<|And.intro (@wV)<|And.intro (@rQ)<|And.intro (@oC)<|And.intro (@rR)<|And.intro (@wW)<|And.intro (@rS)<|And.intro (@oD)<|And.intro (@oE)<|And.intro (@rT)<|And.intro (@rU)<|And.intro (@rV)<|And.intro (@rW)<|And.intro (@rX)<|And.intro (@wX)<|And.intro (@wY)<|And.intro (@wZ)<|And.intro (@Bool.false_eq_true)<|And.intro (@rY)<|And.intro (@rZ)<|And.intro (@w4)<|And.intro (@w7)<|And.intro (@w5)<|And.intro (@w6)<|And.intro (@mh)<|And.intro (@jZ)<|And.intro (@List.length_cons.{0})<|And.intro (@List.length_nil.{0})<|And.intro (@List.drop_succ_cons.{0})<|And.intro (@List.drop_zero.{0})<|And.intro (@List.take_succ_cons.{0})<|And.intro (@List.take_zero.{0})<|And.intro (@kc)<|And.intro (@kd)<|And.intro (@ke)<|And.intro (@iY)<|And.intro (@mC)<|And.intro (@kf)<|And.intro (@kg)<|And.intro (@ki)<|And.intro (@iZ)<|And.intro (@ja)<|And.intro (@kv.eq_1)<|And.intro (@kv.eq_2)<|And.intro (@Nat.zero_add)<|And.intro (@Ai)<|And.intro (@Aj)<|And.intro (@ll.eq_1)<|And.intro (@ll.eq_2)<|And.intro (@rF)<|And.intro (@rG)<|And.intro (@rH)<|And.intro (@oA)<|And.intro (@oG)<|And.intro (@oH)<|And.intro (@oI)<|And.intro (@oJ)<|And.intro (@true_and)<|And.intro (@and_true)<|And.intro (@Option.map_some.{0,0})<|And.intro (@Option.bind_some.{0,0})<|And.intro (@sG)<|And.intro (@eo.eq_1)<|And.intro (@eo.eq_2)<|And.intro (@eo.eq_3)<|And.intro (@eo.eq_4)<|And.intro (@eo.eq_5)<|And.intro (@cT)<|And.intro (@Ap)<|And.intro (@Aq)<|And.intro (@nJ.eq_1)<|And.intro (@nJ.eq_2)<|And.intro (@fL.eq_1)<|And.intro (@jk.eq_1)<|And.intro (@jk.eq_2)<|And.intro (@mU.eq_1)<|And.intro (@mU.eq_2)<|And.intro (@Az)<|And.intro (@AA)<|And.intro (@AB)<|And.intro (@B7)<|And.intro (@B8)<|And.intro (@B9)<|And.intro (@C3)<|And.intro (@List.map_cons.{0,0})<|And.intro (@List.map_nil.{0,0})<|And.intro (@decide_true)<|And.intro (@decide_false)<|And.intro (@b6)<|And.intro (@Bool.not_true)<|And.intro (@Bool.not_false)<|And.intro (@beq_self_eq_true.{0})<|And.intro (@bne_self_eq_false.{0})<|And.intro (@List.getElem?_cons_zero.{0})<|And.intro (@List.getElem?_cons_succ.{0})<|And.intro (@List.getElem?_nil.{0})<|And.intro (@List.length_map.{0,0})<|And.intro (@oF)<|And.intro (@T.bool.injEq)<|And.intro (@T.int.injEq)<|And.intro (@T.str.injEq)<|And.intro (@T.bl.injEq)<|And.intro (@ae.eq_1)<|And.intro (@ae.eq_2)<|And.intro (@ae.eq_3)<|And.intro (@ae.eq_4)<|And.intro (@ae.eq_5)<|And.intro (@ae.eq_6)<|And.intro (@ae.eq_7)<|And.intro (@ae.eq_8)<|And.intro (@ae.eq_9)<|And.intro (@ae.eq_10)<|And.intro (@ae.eq_11)<|And.intro (@ae.eq_12)<|And.intro (@ae.eq_13)<|And.intro (@ae.eq_14)<|And.intro (@ae.eq_15)<|And.intro (@ae.eq_16)<|And.intro (@ae.eq_17)<|And.intro (@ae.eq_18)<|And.intro (@ae.eq_19)<|And.intro (@ae.eq_20)<|And.intro (@ae.eq_21)<|And.intro (@ae.eq_22)<|And.intro (@ae.eq_23)<|And.intro (@ae.eq_24)<|And.intro (@ae.eq_25)<|And.intro (@ae.eq_26)<|And.intro (@sg)<|And.intro (@mq)<|And.intro (@sh)<|And.intro (@mr)<|And.intro (@si)<|And.intro (@sj)<|And.intro (@sk)<|And.intro (@mw)<|And.intro (@sm)<|And.intro (@sn)<|And.intro (@su)<|And.intro (@my)<|And.intro (@ae.eq_30)<|And.intro (@ae.eq_31)<|And.intro (@ae.eq_32)<|And.intro (@ae.eq_33)<|And.intro (@ae.eq_34)<|And.intro (@ae.eq_35)<|And.intro (@ae.eq_36)<|And.intro (@sb)<|And.intro (@sf)<|And.intro (@mo)<|And.intro (@sw)<|And.intro (@sx)<|And.intro (@mz)<|And.intro (@sy)<|And.intro (@sz)<|And.intro (@mA)<|And.intro (@mB)<|And.intro (@ka)<|And.intro (@kb)<|And.intro (@sH)<|And.intro (@sI)<|And.intro (@sJ)<|And.intro (@sK)<|And.intro (@sL)<|And.intro (@sM)<|And.intro (@sN)<|And.intro (@sO)<|And.intro (@xd)<|And.intro (@sP)<|And.intro (@sQ)<|And.intro (@sR)<|And.intro (@sS)<|And.intro (@sU)<|And.intro (@sV)<|And.intro (@sW)<|And.intro (@sX)<|And.intro (@sY)<|And.intro (@sZ)<|And.intro (@s0)<|And.intro (@s7)<|And.intro (@s8)<|(@s9)
end Go.Rmp
end

section
namespace Go.Rmp
set_option maxRecDepth 10000
abbrev o1 (d:Nat)(b:Bo):O:=⟨some d,.b b,none,[]⟩
end Go.Rmp
end

section
namespace Go.Rmp
def xe:List O→List Nat
 | []=>[]
 | o :: l=>match o.d with
  | some d=>d :: xe l
  | none=>xe l
def wr:C→List Nat
 | .skip=>[]
 | .ops l=>xe l
 | .seq a b=>wr a++wr b
 | .cond _ a b=>wr a++wr b
 | .block _ a=>wr a
 | .loop a=>wr a
 | .exit _=>[]
 | .ret=>[]
 | .bd n _ _ _ _=>[n]
def AD:J→List Nat
 | .code c _=>wr c
 | .ops l _=>xe l
 | .call _ _=>[]
def AE:J→ah
 | .code _ R=>R
 | .ops _ R=>R
 | .call _ _=>fun _=>ar
def Kp (j:J)(o:Out):Prop:=match j with
 | .call _ _=>True
 | j=>∀e R',o=.ex e R'→∀t,t∉AD j→R' t=AE j t
theorem vZ {R:ah}{d:Option Nat}{v:T}{t:Nat}(h:∀x,d=some x→t≠x):aw R d v t=R t:=by
 cases d with
 | none=>rfl
 | some x=>simp[aw,gg,h x rfl]
theorem ti {o:O}{l:List O}{t:Nat}(h:t∉xe (o :: l)):(∀x,o.d=some x→t≠x)∧t∉xe l:=by
 unfold xe at h
 cases e:o.d with
 | none=>rw[e]at h;exact⟨fun x hx=>(by cases hx),h⟩
 | some d=>rw[e]at h;simp only[List.mem_cons,not_or]at h;exact⟨fun x hx=>(by cases hx;exact h.1),h.2⟩
theorem eg {o:O}{l:List O}{R:ah}{v:T}{x:Out}(h:Kp (.ops l (aw R o.d v)) x):Kp (.ops (o :: l) R) x:=fun e R' he t ht=>by
 obtain⟨h1,h2⟩:=ti ht
 rw[h e R' he t h2]
 exact vZ h1
theorem tj {c:C}{R:ah}{e:Ex}{R':ah}(h:∀t,t∉wr c→R' t=R t):Kp (.code c R) (.ex e R'):=fun e' R2 he t ht=>by
 injection he with h1 h2
 rw[←h2];exact h t ht
theorem C4 {l:List O}{R:ah}{e:Ex}{R':ah}(h:∀t,t∉xe l→R' t=R t):Kp (.ops l R) (.ex e R'):=fun e' R2 he t ht=>by
 injection he with h1 h2
 rw[←h2];exact h t ht
theorem W.ey {E:Env}{j:J}{H:aa}{Q:Out→aa→Prop}(h:W E j H Q):W E j H (fun o H'=>Q o H'∧Kp j o):=by
 induction h with
 | skip h=>exact .skip ⟨h,tj fun _ _=>rfl⟩
 | exit h=>exact .exit ⟨h,tj fun _ _=>rfl⟩
 | ret h=>exact .ret ⟨h,tj fun _ _=>rfl⟩
 | xw _ ih=>exact .xw (ih.use fun o H' h=>⟨h.1,h.2⟩)
 | @seq a b R H Q M h1 h2 h3 lj fI =>
  refine .seq _ lj (fun R' H' hm=>(fI R' H' hm.1).use fun o H2 h=>⟨h.1,fun e R2 he t ht=>?_⟩) (fun o H' hm hn=>⟨h3 o H' hm.1 hn,fun e R2 he t ht=>?_⟩)
  ·have vz:t∉wr a∧t∉wr b:=by simpa[AD,wr]using ht
   rw[h.2 e R2 he t vz.2];exact hm.2 _ _ rfl t vz.1
  ·have vz:t∉wr a∧t∉wr b:=by simpa[AD,wr]using ht
   exact hm.2 e R2 he t vz.1
 | @cond x a b R H Q t hx h ih =>
  refine .cond t hx (ih.use fun o H' h=>⟨h.1,fun e R2 he t' ht=>?_⟩)
  have vz:t'∉wr a∧t'∉wr b:=by simpa[AD,wr]using ht
  refine h.2 e R2 he t' ?_
  cases t
  ·exact vz.2
  ·exact vz.1
 | block M h1 h2 h3 ih =>
  exact .block _ ih (fun R' H' hm=>⟨h2 R' H' hm.1,tj fun t ht=>hm.2 _ _ rfl t ht⟩) (fun o H' hm hn=>⟨h3 o H' hm.1 hn,fun e R2 he t ht=>hm.2 e R2 he t ht⟩)
 | loop M h1 h2 h3 lj fI =>
  refine .loop _ lj (fun R' H' hm=>(fI R' H' hm.1).use fun o H2 h=>⟨h.1,fun e R2 he t ht=>?_⟩) (fun o H' hm hn=>⟨h3 o H' hm.1 hn,fun e R2 he t ht=>hm.2 e R2 he t ht⟩)
  rw[h.2 e R2 he t ht];exact hm.2 _ _ rfl t ht
 | nil h=>exact .nil ⟨h,C4 fun _ _=>rfl⟩
 | no hg _ ih=>exact .no hg (ih.use fun o H' h=>⟨h.1,eg h.2⟩)
 | op hg he hs _ ih=>exact .op hg he hs (ih.use fun o H' h=>⟨h.1,eg (o:=⟨_,.b _,_,_⟩) h.2⟩)
 | za hg ht hb hlen h0 he hs _ ih=>exact .za hg ht hb hlen h0 he hs (ih.use fun o H' h=>⟨h.1,eg (o:=⟨_,.b _,_,_⟩) h.2⟩)
 | call M hg h1 hs _ _ fI=>exact .call M hg h1 hs (fun v H' hm=>(fI v H' hm).use fun o H' h=>⟨h.1,eg (o:=⟨_,.call _ _,_,_⟩) h.2⟩)
 | aQ M hg hf h1 hs _ _ fI=>exact .aQ M hg hf h1 hs (fun v H' hm=>(fI v H' hm).use fun o H' h=>⟨h.1,eg (o:=⟨_,.aQ _ _,_,_⟩) h.2⟩)
 | gL M1 M hg hf hb hn h1 o4 h2 lx y7 _ y8 _ _ _ zo zp=>exact .gL M1 M hg hf hb hn h1 o4 h2 lx y7 (fun R' H' hm=>(zo R' H' hm).use fun o H' h=>⟨h.1,eg (o:=⟨_,.aQ _ _,_,_⟩) h.2⟩) y8 (fun e R' H' hm he=>(zp e R' H' hm he).use fun o H' h=>⟨h.1,eg (o:=⟨_,.aQ _ _,_,_⟩) h.2⟩)
 | mW hs h hx hy hc ih=>exact .mW hs (fun b=>(ih b).use fun o H' h=>⟨h.1,eg (o:=⟨_,.b _,_,_⟩) h.2⟩) hx hy hc
 | @bd n x ps bc body R H Q f cs M hx h1 h2 _ =>
  refine .bd M hx h1 (fun v H' hm=>let ⟨st,pe,a,b,c,d⟩:=h2 v H' hm;⟨st,pe,a,b,c,d,tj fun t ht=>?_⟩)
  have ht:t≠n:=by simpa[AD,wr]using ht
  simp[gg,ht,AE]
 | y9 M hf hn h1 h2 _=>exact .y9 M hf hn h1 (fun o H' hm=>let ⟨R',bs,a,b,c,d,v,e,f⟩:=h2 o H' hm;⟨R',bs,a,b,c,d,v,e,f,trivial⟩)
 | fn M hf hr hn h1 h2 _=>exact .fn M hf hr hn h1 (fun o H' hm=>let ⟨R',a,v,b,c⟩:=h2 o H' hm;⟨R',a,v,b,c,trivial⟩)
 | qd i M hi h1 h2 _=>exact .qd i M hi h1 (fun v H' hm=>⟨h2 v H' hm,trivial⟩)
 | nU M h1 h2 _=>exact .nU M h1 (fun o H' hm=>let ⟨v,b,cs,a,c,d,e⟩:=h2 o H' hm;⟨v,b,cs,a,c,d,e,trivial⟩)
 | gW hg hx hb hs _ ih=>exact .gW hg hx hb hs fun t H' hm=>(ih t H' hm).use fun o H' h=>⟨h.1,eg (o:=⟨_,.b _,_,_⟩) h.2⟩
 | shr M h1 h2 _=>exact .shr M h1 (fun o H' hm=>let ⟨v,b,cs,k,a,c,d,e⟩:=h2 o H' hm;⟨v,b,cs,k,a,c,d,e,trivial⟩)
 | qe i hi hb _ ih=>exact .qe i hi hb (ih.use fun o H' h=>⟨h.1,trivial⟩)
 | zz hk hb _ ih=>exact .zz hk hb (ih.use fun o H' h=>⟨h.1,trivial⟩)
 | vw hl hv _ ih=>exact .vw hl hv (ih.use fun o H' h=>⟨h.1,trivial⟩)
 | gj h=>exact .gj (E.mono _ _ _ _ _ h fun t H' hm=>⟨hm,trivial⟩)
def zs:List (Nat×T)→ah→ah
 | [],R=>R
 | (t,v) :: l,R=>gg (zs l R) t v
theorem ej (R:ah):zs [] R=R:=rfl
theorem cD (t:Nat)(v:T)(l:List (Nat×T))(R:ah):zs ((t,v) :: l) R=gg (zs l R) t v:=rfl
def kj:List (Nat×T)→ah→Prop
 | [],_=>True
 | (t,v) :: l,R=>R t=v∧kj l R
def Ej (vs:List (Nat×T))(w:List Nat):Bool:=vs.all fun p=>!w.elem p.1
theorem yG {R:ah}{t:Nat}{v:T}(h:R t=v):gg R t v=R:=by
 funext x;by_cases e:x=t
 ·subst e;simp[gg,h]
 ·simp[gg,e]
theorem ko:∀(vs:List (Nat×T)) (R:ah),kj vs R→zs vs R=R
 | [],_,_=>rfl
 | (t,v) :: l,R,h=>by rw[cD,ko l R h.2,yG h.1]
theorem mD:∀(vs:List (Nat×T)) (R R':ah),kj vs R→(∀p∈vs,R' p.1=R p.1)→kj vs R'
 | [],_,_,_,_=>trivial
 | (t,v) :: l,R,R',h,k=>⟨(k (t,v) List.mem_cons_self).trans h.1,mD l R R' h.2 fun p hp=>k p (List.mem_cons_of_mem _ hp)⟩
theorem v3 {vs:List (Nat×T)}{w:List Nat}(h:Ej vs w=true):∀p∈vs,p.1∉w:=fun p hp hw=>by
 have:=(List.all_eq_true.1 h) p hp
 simp[hw]at this
theorem W.tn {E:Env}{α:Type}{a:C}{R:ah}{H:aa}{Q:Out→aa→Prop}(vs:List (Nat×T))(I:α→ah→aa→Prop)(μ:α→Nat)(x:α)
  (h0:I x R H) (step:∀x R H,I x R H→gS E a (zs vs R) H (jX (fun R' H'=>∃y,μ y<μ x∧I y R' H') Q))
  (hv:kj vs R:=by repeat' (first|exact trivial|refine And.intro rfl ?_)) (hw:Ej vs (wr a)=true:=by rfl):W E (.code (.loop a) R) H Q:=by
 have key:∀(n:Nat) (x:α) (R:ah) (H:aa),μ x=n→I x R H→kj vs R→W E (.code (.loop a) R) H Q:=by
  intro n
  induction n using Nat.strongRecOn with
  | _ n ih =>
   intro x R H hn hI mY
   have hs:=step x R H hI
   rw[ko vs R mY]at hs
   refine .loop _ (fF a R H _ hs).ey (fun R' H' hm=>?_) (fun o H' hm wK=>?_)
   ·obtain⟨⟨y,hy,FC⟩,hk⟩:=hm
    exact ih (μ y) (hn▸hy) y R' H' rfl FC (mD vs R R' mY fun p hp=>hk _ _ rfl p.1 (v3 hw p hp))
   ·cases o with
    | ex e R'=>cases e with
     | normal=>exact absurd rfl (wK R')
     | exit id=>exact hm.1
     | ret=>exact hm.1
    | val v=>exact hm.1
 exact key _ x R H rfl h0 hv
def tb:T→Option Nat
 | .aO c _ _ _=>some c
 | _=>none
def bm (H H':aa):Prop:=∀(b:Nat) st p n R ps a c,H[b]?=some (B.loop st p n R ps a c)→∃jh p',H'[b]?=some (B.loop jh p' n R ps a c)
theorem bm.refl (H:aa):bm H H:=fun _ _ _ _ _ _ _ _ h=>⟨_,_,h⟩
theorem bm.trans {H H' H2:aa}(h:bm H H')(h':bm H' H2):bm H H2:=fun b st p n R ps a c hb=>by
 obtain⟨jh,p',h1⟩:=h b st p n R ps a c hb
 exact h' b jh p' n R ps a c h1
theorem bm.app (H l:aa):bm H (H++l):=fun _ _ _ _ _ _ _ _ h=>⟨_,_,dW h⟩
theorem bm.set {H:aa}{b:Nat}{x:B}(y:B)(hb:H[b]?=some x)(hx:∀st p n R ps a c,x≠.loop st p n R ps a c):bm H (H.set b y):=fun b' st p n R ps a c h=>by
 by_cases e:b'=b
 ·subst e;rw[hb]at h;cases h;exact absurd rfl (hx _ _ _ _ _ _ _)
 ·exact⟨st,p,by rw[List.getElem?_set_ne (fun h=>e h.symm)];exact h⟩
theorem bm.oQ {H:aa}{b:Nat}{st:p5}{p:Option Ex}{n:Nat}{R:ah}{ps:List Nat}{a c:C}(jh:p5)(p':Option Ex)(hb:H[b]?=some (.loop st p n R ps a c)):bm H (H.set b (.loop jh p' n R ps a c)):=fun b' Ek p1 n1 R1 C5 a1 c1 h=>by
 by_cases e:b'=b
 ·subst e;rw[hb]at h;cases h
  exact⟨jh,p',by rw[List.getElem?_set_self (List.getElem?_eq_some_iff.1 hb).1]⟩
 ·exact⟨Ek,p1,by rw[List.getElem?_set_ne (fun h=>e h.symm)];exact h⟩
theorem v5 {H H':aa}{vs:List T}{t:T}(h:ud H vs t=some H'):bm H H':=by
 unfold ud at h
 split at h
 ·split at h
  ·rename_i hb
   split at h
   ·cases h;exact bm.set _ hb (by intros;simp)
   ·cases h
  ·cases h
 ·cases h
theorem tp {H H':aa}{bytes:Nat}{k:SK}{es new:List (List T)}{v:T}(h:gY H bytes k es new=some (v,H')):bm H H':=by
 unfold gY at h
 split at h
 ·cases h;exact bm.refl _
 ·split at h
  ·split at h
   ·cases h;exact bm.app _ _
   ·cases h;exact bm.app _ _
   ·split at h
    ·rename_i hb
     split at h
     ·cases h;exact bm.set _ hb (by intros;simp)
     ·cases h
    ·cases h
   ·cases h
  ·cases h
theorem tq {H H':aa}{n bytes:Nat}{x:T}{new:List (List T)}{v:T}(h:oZ H n bytes x new=some (v,H')):bm H H':=by
 unfold oZ at h
 split at h
 ·split at h
  ·cases h;exact bm.refl _
  ·cases h
 ·split at h
  ·split at h
   ·cases h;exact bm.app _ _
   ·cases h
  ·split at h
   ·cases h;exact bm.app _ _
   ·cases h
  ·split at h
   ·rename_i hb
    split at h
    ·cases h;exact(bm.set .dead hb (by intros;simp)).trans (bm.app _ _)
    ·cases h
   ·cases h
  ·cases h
theorem v7 {H H':aa}{n:Nat}{x y v:T}(h:p8 H n x y=some (v,H')):bm H H':=by
 unfold p8 at h
 split at h
 ·split at h
  ·rename_i hb _
   split at h
   ·cases h;exact bm.set _ hb (by intros;simp)
   ·cases h
  ·cases h
 ·split at h
  ·rename_i hb _
   split at h
   ·cases h;exact bm.set _ hb (by intros;simp)
   ·cases h
  ·cases h
 ·cases h
theorem oS {α:Type}{o:Option α}{f:α→T}{H H':aa}{v:T}(h:o.map (fun x=>(f x,H))=some (v,H')):bm H H':=by
 cases o with
 | none=>cases h
 | some x=>cases h;exact bm.refl _
theorem tt {R : ah}{H H' : aa}{b : Bo}{v : T}(h : ae R H b = some (v, H')) : bm H H' := by
  cases hk : gC b with
  | pure => rw[(eU hk h).1]; exact bm.refl _
  | read => rw[(eV hk h).1]; exact bm.refl _
  | make => cases b<;>simp only[gC]at hk<;>(try (cases hk; done))<;>simp only[ae]at h
            · split at hk<;>cases hk
            · cases h; exact bm.app _ _
            · cases h; exact bm.app _ _
  | wH =>
    cases b<;>simp only[gC]at hk<;>(try (cases hk; done))<;>simp only[ae]at h
    case gV => exact oS h
    case wo m x =>
      split at h
      · split at h
        · split at h
          · cases h; exact bm.set _ (by assumption) (fun _ _ _ _ _ _ _ e => by cases e)
          · cases h
        · cases h
      · split at h
        · cases h; exact bm.refl _
        · cases h
      · cases h
    case box x =>
      cases hc : (x.ev R).cells? with
      | none => rw[hc]at h; cases h
      | some cs => rw[hc]at h; cases h; exact bm.app _ _
    case st =>
      split at h
      · split at h
        · rw[Option.map_eq_some_iff]at h
          obtain⟨H2, h1, h2⟩ := h
          cases h2; exact v5 h1
        · cases h
      · cases h
    case wq =>
      split at h
      · split at h
        · split at h
          · rename_i hb
            split at h
            · cases h; exact bm.set _ hb (by intros; simp)
            · cases h; exact bm.set _ hb (by intros; simp)
            · cases h
          · cases h
        · cases h
      · cases h
    case del =>
      split at h
      · split at h
        · split at h
          · rename_i hb
            split at h
            · cases h; exact bm.set _ hb (by intros; simp)
            · cases h; exact bm.refl _
            · cases h
          · cases h
        · cases h
      · cases h
    case app =>
      split at h
      · split at h
        · exact tq h
        · split at h
          · split at h
            · exact tp h
            · cases h
          · cases h
      · cases h
    case BH =>
      split at h
      · split at h
        · split at h
          · cases h; exact bm.app _ _
          · split at h
            · cases h; exact bm.refl _
            · cases h; exact bm.app _ _
        · cases h
      · cases h
    case cap =>
      split at h
      · cases h; exact bm.refl _
      · cases h
    case BI => exact v7 h
    case yX x =>
      split at h
      · rename_i bb _
        simp only[ct]at h
        split at h
        · rename_i hb; cases h; exact(bm.set _ hb (by intros; simp)).trans (bm.app _ _)
        · rename_i hb; cases h; exact(bm.set _ hb (by intros; simp)).trans (bm.app _ _)
        · cases h
      · cases h
    case gW => cases h
    case yY =>
      split at h
      · split at h
        · split at h
          · split at h
            · exact oS h
            · cases h
          · cases h
        · cases h
      · cases h
    case zy =>
      split at h
      · split at h
        · rename_i hb
          split at h
          · cases h; exact bm.set _ hb (by intros; simp)
          · cases h
        · cases h
      · cases h
    case zx =>
      unfold qa at h
      split at h
      · split at h
        · split at h
          · cases h; exact bm.refl _
          · cases h
        · cases h
      · cases h
    case BJ =>
      rw[Option.bind_eq_some_iff]at h
      obtain⟨k, _, h⟩ := h
      unfold uf at h
      split at h
      · split at h
        · split at h
          · cases h; exact bm.app _ _
          · cases h
        · cases h
      · cases h
    case yZ =>
      rw[Option.bind_eq_some_iff]at h
      obtain⟨k, _, h⟩ := h
      split at h
      · cases h; exact bm.app _ _
      · cases h
    case BK =>
      split at h
      · split at h
        · cases h; exact bm.refl _
        · cases h
      · cases h
inductive cL where
 | lf
 | nd (v:T) (l r:cL)
 | ov (d:Nat) (v:T) (t:cL)
noncomputable def cL.get (t:cL):Nat→T :=
 cL.rec (motive:=fun _=>Nat→T) (fun _=>ar) (fun v _ _ gl gr n=>Nat.casesOn (motive:=fun _=>T) n v fun m=>bif Nat.beq (Nat.mod m 2) 0 then gl (Nat.div m 2)else gr (Nat.div m 2)) (fun d v _ g n=>bif Nat.beq n d then v else g n) t
noncomputable def cL.set (t:cL):Nat→T→cL :=
 cL.rec (motive:=fun _=>Nat→T→cL) (fun n v=>.ov n v .lf) (fun x l r gl gr n v=>Nat.casesOn (motive:=fun _=>cL) n (.nd v l r) fun m=>bif Nat.beq (Nat.mod m 2) 0 then .nd x (gl (Nat.div m 2) v) r else .nd x l (gr (Nat.div m 2) v)) (fun d x t g n v=>bif Nat.beq n d then .ov d v t else .ov d x (g n v)) t
def cL.full:Nat→cL
 | 0=>.lf
 | n+1=>.nd ar (cL.full n) (cL.full n)
noncomputable abbrev lk (t:cL):ah:=t.get
theorem cL.jb:∀(k n:Nat),(cL.full k).get n=ar
 | 0,n=>rfl
 | k+1,0=>rfl
 | k+1,n+1=>by
  show(bif Nat.beq (Nat.mod n 2) 0 then(cL.full k).get (Nat.div n 2)else(cL.full k).get (Nat.div n 2))=_
  cases Nat.beq (Nat.mod n 2) 0
  ·exact cL.jb k _
  ·exact cL.jb k _
theorem tu (t:cL):∀(d:Nat) (v:T) (n:Nat),(t.set d v).get n=if n=d then v else t.get n:=by
 induction t with
 | lf =>
  intro d v n
  show(bif Nat.beq n d then v else ar)=if n=d then v else ar
  cases h:Nat.beq n d
  ·rw[if_neg (Nat.ne_of_beq_eq_false h)];rfl
  ·rw[if_pos (Nat.eq_of_beq_eq_true h)];rfl
 | nd x l r FD FE =>
  intro d v n
  cases d with
  | zero=>cases n with
   | zero=>rfl
   | succ n=>rw[if_neg (by omega)];rfl
  | succ d =>
   have hs:(cL.nd x l r).set (d+1) v=bif Nat.beq (Nat.mod d 2) 0 then .nd x (l.set (Nat.div d 2) v) r else .nd x l (r.set (Nat.div d 2) v):=rfl
   rw[hs]
   have hg:∀a b,(cL.nd x a b).get (n)=Nat.casesOn (motive:=fun _=>T) n x fun m=>bif Nat.beq (Nat.mod m 2) 0 then a.get (Nat.div m 2)else b.get (Nat.div m 2):=fun _ _=>rfl
   cases n with
   | zero=>rw[if_neg (by omega)];cases Nat.beq (Nat.mod d 2) 0<;>rfl
   | succ n =>
    have e1:Nat.mod d 2=d%2:=rfl
    have e2:Nat.mod n 2=n%2:=rfl
    have e3:Nat.div d 2=d/2:=rfl
    have e4:Nat.div n 2=n/2:=rfl
    cases hd:Nat.beq (Nat.mod d 2) 0
    ·have fA:=Nat.ne_of_beq_eq_false hd
     simp only[cond_false]
     rw[hg,hg]
     cases hn:Nat.beq (Nat.mod n 2) 0
     ·have wz:=Nat.ne_of_beq_eq_false hn
      simp only[hn,cond_false]
      rw[FE]
      by_cases e:n=d
      ·subst e;simp
      ·rw[if_neg (by omega),if_neg (by omega)]
     ·have wz:=Nat.eq_of_beq_eq_true hn
      simp only[hn,cond_true]
      rw[if_neg (by omega)]
    ·have fA:=Nat.eq_of_beq_eq_true hd
     simp only[cond_true]
     rw[hg,hg]
     cases hn:Nat.beq (Nat.mod n 2) 0
     ·have wz:=Nat.ne_of_beq_eq_false hn
      simp only[hn,cond_false]
      rw[if_neg (by omega)]
     ·have wz:=Nat.eq_of_beq_eq_true hn
      simp only[hn,cond_true]
      rw[FD]
      by_cases e:n=d
      ·subst e;simp
      ·rw[if_neg (by omega),if_neg (by omega)]
 | ov d0 x t ih =>
  intro d v n
  have hs:(cL.ov d0 x t).set d v=bif Nat.beq d d0 then .ov d0 v t else .ov d0 x (t.set d v):=rfl
  have hg:∀y a,(cL.ov d0 y a).get n=bif Nat.beq n d0 then y else a.get n:=fun _ _=>rfl
  rw[hs]
  cases h1:Nat.beq d d0
  ·have o4:=Nat.ne_of_beq_eq_false h1
   simp only[cond_false]
   rw[hg,hg]
   cases h2:Nat.beq n d0
   ·simp only[cond_false];rw[ih]
   ·have lx:=Nat.eq_of_beq_eq_true h2
    simp only[cond_true];rw[if_neg (by omega)]
  ·have o4:=Nat.eq_of_beq_eq_true h1
   simp only[cond_true]
   rw[hg,hg]
   cases h2:Nat.beq n d0
   ·have lx:=Nat.ne_of_beq_eq_false h2
    simp only[cond_false];rw[if_neg (by omega)]
   ·have lx:=Nat.eq_of_beq_eq_true h2
    simp only[cond_true];rw[if_pos (by omega)]
noncomputable def jv (L:cL)(d:Option Nat)(v:T):cL:=match d with|some d=>L.set d v|none=>L
theorem nP (L:cL)(d:Nat)(v:T):lk (L.set d v)=gg (lk L) d v:=funext fun t=>tu L d v t
theorem e6 (L:cL)(d:Option Nat)(v:T):lk (jv L d v)=aw (lk L) d v:=by
 cases d with
 | none=>rfl
 | some d=>exact nP L d v
noncomputable def pR (L:cL):Nat→List T→cL
 | _,[]=>L
 | i,v :: vs=>pR (L.set i v) (i+1) vs
theorem mE:∀(vs:List T) (L:cL) (i n:Nat),(pR L i vs).get n=if i≤n∧n<i+vs.length then vs.getD (n-i) ar else L.get n
 | [],L,i,n=>by simp only[pR,List.length_nil];rw[if_neg (by omega)]
 | v :: vs,L,i,n=>by
  simp only[pR,List.length_cons]
  rw[mE vs,tu]
  by_cases h1:n=i
  ·subst h1
   rw[if_neg (by omega),if_pos rfl,if_pos (by omega)];simp
  ·by_cases h2:i+1≤n∧n<i+1+vs.length
   ·rw[if_pos h2,if_pos (by omega)]
    have:n-i=(n-(i+1))+1:=by omega
    rw[this];simp
   ·rw[if_neg h2,if_neg h1,if_neg (by omega)]
noncomputable def yH (az:List T):cL:=pR (cL.full 9) 0 az
theorem C6 (az:List T):lk (yH az)=dm az:=by
 funext n
 show(pR (cL.full 9) 0 az).get n=az.getD n ar
 rw[mE,cL.jb]
 by_cases h:n<az.length
 ·rw[if_pos (by omega)];simp
 ·rw[if_neg (by omega)];simp[List.getElem?_eq_none (Nat.le_of_not_lt h)]
noncomputable def mF (L:cL):List Nat→List T→cL
 | p :: ps,v :: vs=>mF (L.set p v) ps vs
 | _,_=>L
theorem xf:∀(ps:List Nat) (L:cL) (vs:List T),lk (mF L ps vs)=fJ (lk L) ps vs
 | [],L,vs=>by cases vs<;>rfl
 | p :: ps,L,[]=>rfl
 | p :: ps,L,v :: vs=>by simp only[mF,fJ];rw[xf ps,nP]
def eN (k:IntKind)(n:Int):Int:=match k,n with
 | .i64,.ofNat a=>bif Nat.ble a 9223372036854775807 then n else k.wrap n
 | .u64,.ofNat a=>.ofNat (Nat.mod a 18446744073709551616)
 | .u32,.ofNat a=>.ofNat (Nat.mod a 4294967296)
 | .u8,.ofNat a=>.ofNat (Nat.mod a 256)
 | k,n=>k.wrap n
theorem mG (k:IntKind)(n:Int):eN k n=k.wrap n:=by
 unfold eN
 split
 ·rename_i a
  cases h:Nat.ble a 9223372036854775807
  ·rfl
  ·have:=Nat.le_of_ble_eq_true h
   simp only[cond_true]
   rw[wrap64 (by have:(Int.ofNat a)=(a:Int):=rfl;omega)]
 ·simp[IntKind.wrap,IntKind.signed,IntKind.bits];rfl
 ·simp[IntKind.wrap,IntKind.signed,IntKind.bits];rfl
 ·simp[IntKind.wrap,IntKind.signed,IntKind.bits];rfl
 ·rfl
def AF (k:IntKind)(x:Int)(k':IntKind)(y:Int):Option T:=if k=k' then some (.int k (eN k (x+y)))else none
def AG (k:IntKind)(x:Int)(k':IntKind)(y:Int):Option T:=if k=k' then some (.int k (eN k (x-y)))else none
def AH (k:IntKind)(x:Int)(k':IntKind)(y:Int):Option T:=if k=k' then some (.int k (eN k (x*y)))else none
def AI (k:IntKind)(x:Int)(k':IntKind)(y:Int):Option T:=if k=k' then some (.bool (x<y))else none
def AJ (k:IntKind)(x:Int)(k':IntKind)(y:Int):Option T:=if k=k' then some (.bool (x≤y))else none
def AK (k:IntKind)(x:Int)(k':IntKind)(y:Int):Option T:=if k=k' then some (.bool (x>y))else none
def AL (k:IntKind)(x:Int)(k':IntKind)(y:Int):Option T:=if k=k' then some (.bool (x≥y))else none
def AM (k:IntKind)(x:Int)(k':IntKind)(y:Int):Option T:=if k=k' then some (.bool (x==y))else none
def AN (k:IntKind)(x:Int)(k':IntKind)(y:Int):Option T:=if k=k' then some (.bool (x != y))else none
def AO (k:IntKind)(x:Int)(k':IntKind)(y:Int):Option T:=if k=k' then some (.int k (eN k (BitVec.ofInt k.bits x &&& BitVec.ofInt k.bits y).toNat))else none
def El (k:IntKind)(x:Int)(k':IntKind)(y:Int):Option T:=if k=k' then some (.int k (eN k (BitVec.ofInt k.bits x ||| BitVec.ofInt k.bits y).toNat))else none
def AP (k:IntKind)(x:Int)(k':IntKind)(y:Int):Option T:=if k=k' then some (.int k (eN k (BitVec.ofInt k.bits x ^^^ BitVec.ofInt k.bits y).toNat))else none
def AQ (k:IntKind)(x:Int)(k':IntKind)(y:Int):Option T:=if k=k' then if y=0 then none else some (.int k (eN k (x.tdiv y)))else none
def AR (k:IntKind)(x:Int)(k':IntKind)(y:Int):Option T:=if k=k' then if y=0 then none else some (.int k (x.tmod y))else none
def AS (k:IntKind)(x:Int)(y:Int):Option T:=if y<0 then none else some (.int k (eN k (x*2^(min y.toNat k.bits))))
def AU (k:IntKind)(x:Int)(y:Int):Option T:=if y<0 then none else some (.int k (x.fdiv (2^(min y.toNat k.bits))))
def AV (op:BinOp)(k:IntKind)(x:Int)(k':IntKind)(y:Int):Option T:=match op with
 | .add=>AF k x k' y
 | .sub=>AG k x k' y
 | .mul=>AH k x k' y
 | .lss=>AI k x k' y
 | .leq=>AJ k x k' y
 | .gtr=>AK k x k' y
 | .geq=>AL k x k' y
 | .eql=>AM k x k' y
 | .neq=>AN k x k' y
 | .and=>AO k x k' y
 | .or=>El k x k' y
 | .xor=>AP k x k' y
 | .quo=>AQ k x k' y
 | .rem=>AR k x k' y
 | .shl=>AS k x y
 | .shr=>AU k x y
 | op=>aM op (.int k x) (.int k' y)
def yI (op:BinOp)(a b:T):Option T:=match a,b with
 | .int k x,.int k' y=>AV op k x k' y
 | a,b=>aM op a b
theorem v8 (op:BinOp)(a b:T):yI op a b=aM op a b:=by
 unfold yI
 split
 ·unfold AV
  split<;>simp only[AF,AG,AH,AI,AJ,AK,AL,AM,AN,AO,El,AP,AQ,AR,AS,AU,mG,aM]
 ·rfl
def jc (o:Option T)(H:aa):Option (T×aa):=match o with
 | some v=>some (v,H)
 | none=>none
theorem dI (o:Option T)(H:aa):jc o H=o.map (·,H):=by cases o<;>rfl
def Em (R:ah)(H:aa)(n:Nat)(ag:Bool)(x:X):Option (T×aa):=match gM H n (x.ev R)with
 | some cs=>jc (valOf ag cs) H
 | none=>none
def En (R:ah)(H:aa)(n:Nat)(a v:X):Option (T×aa):=match (v.ev R).cells? with
 | some vs=>if vs.length=n then(match ud H vs (a.ev R)with|some H'=>some (ar,H')|none=>none)else none
 | none=>none
def AW (R:ah)(H:aa)(i:Nat)(x:X):Option (T×aa):=match x.ev R with
 | .bl vs=>jc vs[i]? H
 | _=>none
def xg (R:ah)(H:aa)(c a b:X):Option (T×aa):=match c.ev R with
 | .bool t=>some (if t then a.ev R else b.ev R,H)
 | _=>none
def AX (R:ah)(H:aa)(k:Lc)(x:X):Option (T×aa):=match eo H k (x.ev R)with
 | some n=>some (.int .i64 (n:Int),H)
 | none=>none
def AY (R:ah)(H:aa)(n:Nat)(x i:X):Option (T×aa):=match aR (i.ev R)with
 | some i=>jc (oY n i (x.ev R)) H
 | none=>none
def AZ (R:ah)(H:aa)(k:IntKind)(x:X):Option (T×aa):=match x.ev R with
 | .int _ n=>some (.int k (eN k n),H)
 | _=>none
def tv (R:ah)(H:aa)(b:Bo):Option (T×aa):=match b with
 | .aP x=>some (x.ev R,H)
 | .bin op x y=>jc (yI op (x.ev R) (y.ev R)) H
 | .ld n ag x=>Em R H n ag x
 | .st n a v=>En R H n a v
 | .pU off x=>jc (kv off (x.ev R)) H
 | .ext i x=>AW R H i x
 | .pick c a b=>xg R H c a b
 | .len k x=>AX R H k x
 | .nT n x i=>AY R H n x i
 | .un op x=>jc (y0 op (x.ev R)) H
 | .pT k x=>AZ R H k x
 | .alloc z=>some (.ptr H.length 0,H++[.cells z])
 | b=>ae R H b
theorem tw (R:ah)(H:aa)(b:Bo):tv R H b=ae R H b:=by
 unfold tv
 split
 ·rfl
 ·simp only[ae,dI,v8]
 ·rename_i n ag x
  simp only[ae,Em,dI]
  cases gM H n (x.ev R)<;>rfl
 ·rename_i n a v
  simp only[ae,En]
  cases(v.ev R).cells? with
  | none=>rfl
  | some vs =>
   simp only
   split
   ·cases ud H vs (a.ev R)<;>rfl
   ·rfl
 ·simp only[ae,dI]
 ·rename_i i x
  simp only[ae,AW,dI]
  cases x.ev R<;>rfl
 ·rename_i c a b
  simp only[ae,xg]
  cases c.ev R<;>rfl
 ·rename_i k x
  simp only[ae,AX]
  cases eo H k (x.ev R)<;>rfl
 ·rename_i n x i
  simp only[ae,AY,dI]
  cases aR (i.ev R)<;>rfl
 ·simp only[ae,dI]
 ·rename_i k x
  simp only[ae,AZ,mG]
  cases x.ev R<;>rfl
 ·rfl
 ·rfl
def v9:T→T→Bool
 | .int k a,.int k' b=>decide (k=k')&&decide (a=b)
 | .bool a,.bool b=>a==b
 | .str a,.str b=>dj a b
 | .bE,.bE=>true
 | .bL,.bL=>true
 | .ptr a b,.ptr a' b'=>decide (a=a')&&decide (b=b')
 | .map b,.map b'=>decide (b=b')
 | .aO a b c d,.aO a' b' c' d'=>decide (a=a')&&decide (b=b')&&decide (c=c')&&decide (d=d')
 | _,_=>false
theorem oT {a b:T}(h:v9 a b=true):a=b:=by
 unfold v9 at h
 split at h<;>simp_all [b6]
def kR {α:Type}(p:α→α→Bool):List α→List α→Bool
 | [],[]=>true
 | a :: l,b :: m=>p a b&&kR p l m
 | _,_=>false
theorem kS {α:Type}{p:α→α→Bool}(hp:∀a b,p a b=true→a=b):∀(a b:List α),kR p a b=true→a=b
 | [],[],_=>rfl
 | a :: l,b :: m,h=>by
  simp only[kR,Bool.and_eq_true]at h
  rw[hp _ _ h.1,kS hp _ _ h.2]
def mH:Nat→T→T→Bool
 | 0,a,b=>v9 a b
 | n+1,a,b=>match a,b with
  | .sl k es,.sl k' zJ=>decide (k=k')&&kR (kR (mH n)) es zJ
  | .agg a,.agg b=>kR (mH n) a b
  | .bl a,.bl b=>kR (mH n) a b
  | .cq a,.cq b=>kR (mH n) a b
  | .fn f a,.fn f' b=>decide (f=f')&&kR (mH n) a b
  | a,b=>v9 a b
theorem oU:∀(n:Nat) (a b:T),mH n a b=true→a=b
 | 0,a,b,h=>oT h
 | n+1,a,b,h=>by
  have ih:=kS (oU n)
  unfold mH at h
  split at h
  ·simp only[Bool.and_eq_true,decide_eq_true_eq]at h;rw[h.1,kS ih _ _ h.2]
  ·rw[ih _ _ h]
  ·rw[ih _ _ h]
  ·rw[ih _ _ h]
  ·simp only[Bool.and_eq_true,decide_eq_true_eq]at h;rw[h.1,ih _ _ h.2]
  ·exact oT h
abbrev A0:T→T→Bool:=mH 6
theorem wa {a b:T}(h:A0 a b=true):a=b:=oU 6 a b h
def tz (b:Bo):Bool:=match gC b with | .pure=>true | .read=>true|_=>false
noncomputable def ga (R:ah)(H:aa)(s:List Rd):Bool:=s.all fun r=>!aq R r.g||(tz r.op&&match ae R H r.op with|some (v,_)=>A0 v (R r.d)|none=>false)
theorem eO {R:ah}{H:aa}{s:List Rd}(h:ga R H s=true):cF R H s:=fun r hr hw=>by
 have:=List.all_eq_true.1 h r hr
 simp only[hw,Bool.not_true,Bool.false_or,Bool.and_eq_true]at this
 obtain⟨h1,h2⟩:=this
 cases he:ae R H r.op with
 | none=>rw[he]at h2;cases h2
 | some x =>
  obtain⟨v,H'⟩:=x
  rw[he]at h2
  have hv:=wa h2
  have hh:H'=H:=by
   unfold tz at h1
   split at h1
   ·rename_i hk;exact(eU hk he).1
   ·rename_i hk;exact(eV hk he).1
   ·cases h1
  rw[hv,hh]
inductive OE where
 | ex (e:Ex) (L:cL)
 | val (v:T)
noncomputable def OE.out:OE→Out
 | .ex e L=>.ex e (lk L)
 | .val v=>.val v
abbrev hG:=Option (List (OE×aa))
inductive JE where
 | code (c:C) (L:cL)
 | call (f:Nat) (az:List T)
noncomputable def JE.j:JE→J
 | .code c L=>.code c (lk L)
 | .call f az=>.call f az
structure Yc where
 b:Nat
 n:Nat
 L:cL
 ps:List Nat
 bc:C
 body:C
def fk (ctx:List Yc)(H:aa):Prop:=∀y∈ctx,∃st p,H[y.b]?=some (B.loop st p y.n (lk y.L) y.ps y.bc y.body)
theorem fk.mono {ctx:List Yc}{H H':aa}(h:fk ctx H)(hp:bm H H'):fk ctx H':=fun y hy=>by
 obtain⟨st,p,h1⟩:=h y hy
 exact hp _ _ _ _ _ _ _ _ h1
def bH (l:List (OE×aa)):Out→aa→Prop:=fun o H'=>∃x∈l,x.1.out=o∧x.2=H'
def fm {α:Type}:List α→(α→hG)→hG
 | [],_=>some []
 | x :: l,k=>match l with
  | []=>k x
  | _=>match k x with
   | none=>none
   | some a=>match fm l k with
    | none=>none
    | some b=>some (a++b)
theorem aD {α:Type}{k:α→hG}:∀{l:List α} {res:List (OE×aa)},fm l k=some res→∀x∈l,∃r,k x=some r∧∀y∈r,y∈res
 | [],_,_,x,hx=>by cases hx
 | [a],res,h,x,hx=>by
  simp only[List.mem_singleton]at hx;subst hx
  exact⟨res,h,fun y hy=>hy⟩
 | a :: b :: l,res,h,x,hx=>by
  unfold fm at h
  simp only at h
  cases ha:k a with
  | none=>rw[ha]at h;cases h
  | some ra =>
   rw[ha]at h
   simp only at h
   cases hb:fm (b :: l) k with
   | none=>rw[hb]at h;cases h
   | some rb =>
    rw[hb]at h;cases h
    rcases List.mem_cons.1 hx with rfl|hx
    ·exact⟨ra,ha,fun y hy=>List.mem_append_left _ hy⟩
    ·obtain⟨r,h1,h2⟩:=aD hb x hx
     exact⟨r,h1,fun y hy=>List.mem_append_right _ (h2 y hy)⟩
theorem aY {α:Type}{k:α→hG}:∀{l:List α} {res:List (OE×aa)},fm l k=some res→∀y∈res,∃x∈l,∃r,k x=some r∧y∈r
 | [],_,h,y,hy=>by cases h;cases hy
 | [a],res,h,y,hy=>⟨a,List.mem_singleton.2 rfl,res,h,hy⟩
 | a :: b :: l,res,h,y,hy=>by
  unfold fm at h
  simp only at h
  cases ha:k a with
  | none=>rw[ha]at h;cases h
  | some ra =>
   rw[ha]at h
   simp only at h
   cases hb:fm (b :: l) k with
   | none=>rw[hb]at h;cases h
   | some rb =>
    rw[hb]at h;cases h
    rcases List.mem_append.1 hy with hy|hy
    ·exact⟨a,List.mem_cons_self,ra,ha,hy⟩
    ·obtain⟨x,hx,r,h1,h2⟩:=aY hb y hy
     exact⟨x,List.mem_cons_of_mem _ hx,r,h1,h2⟩
def ub (r:hG)(k:OE→aa→hG):hG:=match r with
 | none=>none
 | some l=>fm l fun x=>k x.1 x.2
noncomputable def yJ (H:aa)(R:ah)(x:X):Option (List (T×aa)):=match x.ev R with
 | .ptr bi 0=>match H[bi]? with
  | some (.pV b)=>match H[b]? with
   | some (.cr es ix wv _)=>if wv=bi then
     match ix with
     | []=>some [(.bl [.bool false],H.set b (.map es))]
     | _=>some (ix.filterMap fun i=>es[i]?.map fun e=>(.bl [.bool true,e.1,e.2],H.set b (.cr es (ix.erase i) bi (some i))))
    else none
   | _=>none
  | _=>none
 | _=>none
def A1:Bo→Option X
 | .gW x=>some x
 | _=>none
noncomputable def yK (R:ah)(g:Gd)(s:List Rd):Bo→Bool
 | .gV _ .slice x y=>match g,s,x.ev R,y.ev R with
  | none,[],.sl .arg [],.sl .nil []=>true
  | _,_,_,_=>false
 | _=>false
def kT (H:aa)(b:Nat):Bool:=match H[b]? with
 | some (.loop .ready none _ _ _ _ _)=>true
 | _=>false
def tC (H:aa)(b:Nat):Bool:=match H[b]? with
 | some (.loop .busy none _ _ _ _ _)=>true
 | _=>false
noncomputable def A2 (rec:JE→List Yc→aa→hG)(ctx:List Yc)(y:Yc)(vs:List T)(H:aa)(k:Bool→aa→hG):hG :=
 if kT H y.b&&decide (vs.length=y.ps.length)then
  ub (rec (.code y.bc (mF y.L y.ps vs)) ctx H) fun o H1=>match o with
   | .ex .normal L1=>if kT H1 y.b then
     ub (rec (.code y.body L1) ctx (H1.set y.b (.loop .busy none y.n (lk y.L) y.ps y.bc y.body))) fun o2 H2=>if tC H2 y.b then
      match o2 with
      | .ex .normal _=>k true (H2.set y.b (.loop .ready none y.n (lk y.L) y.ps y.bc y.body))
      | .ex e _=>k false (H2.set y.b (.loop .done (some e) y.n (lk y.L) y.ps y.bc y.body))
      | .val _=>none
      else none
    else none
   | _=>none
 else none
noncomputable def gH (rec:JE→List Yc→aa→hG)(ctx:List Yc):List O→cL→aa→hG
 | [],L,H=>some [(.ex .normal L,H)]
 | o :: l,L,H =>
  if aq (lk L) o.g then
   match o.op with
   | .b b=>match tv (lk L) H b with
    | some (v,H')=>if ga (lk L) H' o.gX then gH rec ctx l (jv L o.d v) H' else none
    | none=>match A1 b with
     | some x=>match yJ H (lk L) x with
      | some r=>fm r fun p=>if ga (lk L) p.2 o.gX then gH rec ctx l (jv L o.d p.1) p.2 else none
      | none=>none
     | none=>if yK (lk L) o.g o.gX b then fm [true,false] fun t=>gH rec ctx l (jv L o.d (.bool t)) H else none
   | .call f az=>ub (rec (.call f (az.map (X.ev (lk L)))) ctx H) fun r H'=>match r with
    | .val v=>if ga (lk L) H' o.gX then gH rec ctx l (jv L o.d v) H' else none
    | _=>none
   | .aQ x az=>match x.ev (lk L)with
    | .fn f cs=>ub (rec (.call f (az.map (X.ev (lk L))++cs)) ctx H) fun r H'=>match r with
     | .val v=>if ga (lk L) H' o.gX then gH rec ctx l (jv L o.d v) H' else none
     | _=>none
    | .gL b=>match ctx.find? fun y=>y.b==b with
     | some y=>A2 rec ctx y (az.map (X.ev (lk L))) H fun t H'=>if ga (lk L) H' o.gX then gH rec ctx l (jv L o.d (.bool t)) H' else none
     | none=>none
    | _=>none
  else gH rec ctx l (jv L o.d ar) H
def oV:Option Ex→Bool
 | some .normal=>true
 | _=>false
noncomputable def cM (rec:JE→List Yc→aa→hG)(ctx:List Yc):C→cL→aa→hG
 | .skip,L,H=>some [(.ex .normal L,H)]
 | .exit id,L,H=>some [(.ex (.exit id) L,H)]
 | .ret,L,H=>some [(.ex .ret L,H)]
 | .ops l,L,H=>gH rec ctx l L H
 | .seq a b,L,H=>ub (cM rec ctx a L H) fun o H'=>match o with
  | .ex .normal L'=>cM rec ctx b L' H'
  | o=>some [(o,H')]
 | .cond x a b,L,H=>match x.ev (lk L)with
  | .bool true=>cM rec ctx a L H
  | .bool false=>cM rec ctx b L H
  | _=>none
 | .block id a,L,H=>ub (cM rec ctx a L H) fun o H'=>match o with
  | .ex (.exit i) L'=>if i=id then some [(.ex .normal L',H')]else some [(.ex (.exit i) L',H')]
  | o=>some [(o,H')]
 | .loop a,L,H=>ub (cM rec ctx a L H) fun o H'=>match o with
  | .ex .normal L'=>rec (.code (.loop a) L') ctx H'
  | o=>some [(o,H')]
 | .bd n x ps bc body,L,H=>match x.ev (lk L)with
  | .fn f cs=>ub (rec (.call f (.gL (H.length+1) :: cs)) (⟨H.length+1,n,L,ps,bc,body⟩ :: ctx) (H++[.lr,.loop .ready none n (lk L) ps bc body])) fun o H'=>match o with
   | .val _=>match H'[H.length+1]? with
    | some (.loop st br _ _ _ _ _)=>if st≠.busy∧oV br=false then some [(.ex (kx br) (L.set n (fK (L.get n) H.length)),H'.set (H.length+1) .dead)]else none
    | _=>none
   | _=>none
  | _=>none
def yL (H:aa)(b:Nat):Bool:=match H[b]? with
 | some .lr=>true
 | _=>false
def yM:T→Option Nat
 | .aO b _ _ _=>some b
 | .bl vs=>vs.findSome? fun v=>match v with | .aO b _ _ _=>some b|_=>none
 | _=>none
def A3 (x:OE×aa):Option (OE×aa):=match x.1 with
 | .val v=>match yM v with
  | some b=>match x.2[b]? with
   | some (.cells cs)=>some (.val (mV b cs v),x.2.set b .dead)
   | _=>none
  | none=>none
 | _=>none
def kV:List (OE×aa)→Option (List (OE×aa))
 | []=>some []
 | x :: l=>match A3 x,kV l with
  | some y,some m=>some (y :: m)
  | _,_=>none
def wb:Nat→List (OE×aa)→List (OE×aa)
 | 0,r=>r
 | n+1,r=>match kV r with
  | some r'=>wb n r'
  | none=>r
noncomputable def tD (fns:Nat→Option Fn)(rec:JE→List Yc→aa→hG)(ctx:List Yc)(f:Nat)(az:List T)(H:aa):hG:=match fns f with
 | some fn=>if az.length=fn.np then
   ub (rec (.code fn.body (yH az)) ctx H) fun o H'=>match o with
    | .val _=>none
    | .ex (.exit _) _=>none
    | .ex _ L'=>if fn.body.ep then
      match marks (L'.get fn.n)with
      | some bs=>if decide bs.Nodup&&bs.all (yL H')then match fL (lk L') (kill H' bs) fn.res with
        | some v=>some [(.val v,kill H' bs)]
        | none=>none
       else none
      | none=>none
     else match fL (lk L') H' fn.res with
      | some v=>some [(.val v,H')]
      | none=>none
  else none
 | none=>none
noncomputable def tE (fns:Nat→Option Fn)(nQ:Nat→Nat)(rec:JE→List Yc→aa→hG)(ctx:List Yc)(f:Nat)(az:List T)(H:aa):hG:=match tD fns rec ctx f az H with
 | some r=>some (wb (nQ f) r)
 | none=>none
noncomputable def xh (fns:Nat→Option Fn)(nQ:Nat→Nat)(rec:JE→List Yc→aa→hG):JE→List Yc→aa→hG
 | .code c L,ctx,H=>cM rec ctx c L H
 | .call f az,ctx,H=>tE fns nQ rec ctx f az H
noncomputable def run (fns:Nat→Option Fn)(nQ:Nat→Nat)(n:Nat):JE→List Yc→aa→hG :=
 Nat.rec (motive:=fun _=>JE→List Yc→aa→hG) (fun _ _ _=>none) (fun _ ih=>xh fns nQ ih) n
def tF:hG→Bool
 | some r=>r.all fun x=>match x.1 with | .val (.bool true)=>true|_=>false
 | none=>false
section
variable {E:Env} {rec:JE→List Yc→aa→hG}
def Good (E:Env)(j:J)(H:aa)(res:List (OE×aa)):Prop:=W E j H (bH res)∧∀x∈res,bm H x.2
def jd (E:Env)(rec:JE→List Yc→aa→hG):Prop:=∀j ctx H res,fk ctx H→rec j ctx H=some res→Good E j.j H res
theorem bH.sub {a b:List (OE×aa)}(h:∀y∈a,y∈b):∀o H,bH a o H→bH b o H:=fun o H ⟨x,hx,h1,h2⟩=>⟨x,h x hx,h1,h2⟩
theorem kW {x:OE}{v:T}(h:x.out=.val v):x=.val v:=by
 cases x with
 | ex e L=>cases h
 | val v'=>cases h;rfl
theorem kX {x:OE}{e:Ex}{R:ah}(h:x.out=.ex e R):∃L,x=.ex e L∧lk L=R:=by
 cases x with
 | ex e' L=>cases h;exact⟨L,rfl,rfl⟩
 | val v'=>cases h
theorem wc {R:ah}{g:Gd}{s:List Rd}{b:Bo}(h:yK R g s b=true):∃neg x y,b=.gV neg .slice x y∧g=none∧s=[]∧x.ev R=.sl .arg []∧y.ev R=.sl .nil []:=by
 unfold yK at h
 split at h
 ·rename_i neg x y
  split at h
  ·rename_i h1 h2
   exact⟨neg,x,y,rfl,rfl,rfl,h1,h2⟩
  ·cases h
 ·cases h
theorem tG {ctx:List Yc}{b:Nat}{y:Yc}(h:ctx.find? (fun y=>y.b==b)=some y):y∈ctx∧y.b=b:=⟨List.mem_of_find?_eq_some h,by simpa using List.find?_some h⟩
theorem mI {H:aa}{b:Nat}(h:kT H b=true):∃n R ps a c,H[b]?=some (.loop .ready none n R ps a c):=by
 unfold kT at h
 split at h
 ·rename_i hb;exact⟨_,_,_,_,_,hb⟩
 ·cases h
theorem we {H:aa}{b:Nat}(h:tC H b=true):∃n R ps a c,H[b]?=some (.loop .busy none n R ps a c):=by
 unfold tC at h
 split at h
 ·rename_i hb;exact⟨_,_,_,_,_,hb⟩
 ·cases h
theorem wg {H:aa}{R:ah}{x:X}{r:List (T×aa)}(h:yJ H R x=some r):∃bi b es ix cur,x.ev R=.ptr bi 0∧H[b]?=some (.cr es ix bi cur)∧(∀t H',fM H b bi es ix t H'→(t,H')∈r)∧∀p∈r,bm H p.2:=by
 unfold yJ at h
 split at h
 ·rename_i bi hx
  split at h
  ·rename_i b Gx
   split at h
   ·rename_i es ix wv cur hb
    split at h
    ·rename_i he
     subst he
     refine⟨_,b,es,ix,cur,hx,hb,?_⟩
     split at h
     ·cases h
      refine⟨fun t H' hn=>?_,fun p hp=>?_⟩
      ·rcases hn with⟨_,rfl,rfl⟩|⟨i,e,hi,_⟩
       ·exact List.mem_singleton.2 rfl
       ·cases hi
      ·cases List.mem_singleton.1 hp
       exact bm.set _ hb (by intros;simp)
     ·rename_i aF
      cases h
      refine⟨fun t H' hn=>?_,fun p hp=>?_⟩
      ·rcases hn with⟨e,_⟩|⟨i,e,hi,he,rfl,rfl⟩
       ·exact absurd e aF
       ·exact List.mem_filterMap.2 ⟨i,hi,by rw[he];rfl⟩
      ·obtain⟨i,_,hi⟩:=List.mem_filterMap.1 hp
       rw[Option.map_eq_some_iff]at hi
       obtain⟨e,_,rfl⟩:=hi
       exact bm.set _ hb (by intros;simp)
    ·cases h
   ·cases h
  ·cases h
 ·cases h
theorem kp {f:Nat}{az:List T}{ctx:List Yc}{H:aa}{l:List O}{L:cL}{d:Option Nat}{s:List Rd}{res:List (OE×aa)}(hr:jd E rec)(hc:fk ctx H)
  (ih:∀L' H' res,fk ctx H'→gH rec ctx l L' H'=some res→Good E (.ops l (lk L')) H' res)
  (h:ub (rec (.call f az) ctx H) (fun r H'=>match r with
    | .val v=>if ga (lk L) H' s then gH rec ctx l (jv L d v) H' else none
    | _=>none)=some res) :
  ∃M:Out→aa→Prop,W E (.call f az) H M∧(∀v H',M (.val v) H'→cF (lk L) H' s)∧(∀v H',M (.val v) H'→W E (.ops l (aw (lk L) d v)) H' (bH res))∧∀x∈res,bm H x.2:=by
 cases h1:rec (.call f az) ctx H with
 | none=>rw[h1]at h;cases h
 | some r =>
  rw[h1]at h
  obtain⟨g1,g2⟩:=hr _ _ _ _ hc h1
  refine⟨bH r,g1,fun v H' hp=>?_,fun v H' hp=>?_,fun x hx=>?_⟩
  ·obtain⟨⟨o,H2⟩,hx,ho,rfl⟩:=hp
   cases kW ho
   obtain⟨r2,h2,_⟩:=aD h _ hx
   simp only at h2
   split at h2
   ·rename_i hs;exact eO hs
   ·cases h2
  ·obtain⟨⟨o,H2⟩,hx,ho,rfl⟩:=hp
   cases kW ho
   obtain⟨r2,h2,h3⟩:=aD h _ hx
   simp only at h2
   split at h2
   ·rw[←e6]
    exact(ih _ _ _ (hc.mono (g2 _ hx)) h2).1.use (bH.sub h3)
   ·cases h2
  ·obtain⟨⟨o,H2⟩,hy,r2,h2,h3⟩:=aY h x hx
   simp only at h2
   split at h2
   ·split at h2
    ·exact(g2 _ hy).trans ((ih _ _ _ (hc.mono (g2 _ hy)) h2).2 x h3)
    ·cases h2
   ·cases h2
theorem wh (hr:jd E rec)(ctx:List Yc):∀(l:List O) (L:cL) (H:aa) (res:List (OE×aa)),fk ctx H→gH rec ctx l L H=some res→Good E (.ops l (lk L)) H res:=by
 intro l
 induction l with
 | nil =>
  intro L H res hc h
  cases h
  exact⟨.nil ⟨_,List.mem_singleton.2 rfl,rfl,rfl⟩,fun x hx=>by cases List.mem_singleton.1 hx;exact bm.refl _⟩
 | cons o l ih =>
  intro L H res hc h
  obtain⟨d,op,g,s⟩:=o
  unfold gH at h
  simp only at h
  split at h
  ·rename_i hw
   split at h
   ·rename_i b
    split at h
    ·rename_i v H' he
     rw[tw]at he
     split at h
     ·rename_i hs
      have hp:=tt he
      obtain⟨g1,g2⟩:=ih _ _ _ (hc.mono hp) h
      rw[e6]at g1
      exact⟨.op hw he (eO hs) g1,fun x hx=>hp.trans (g2 x hx)⟩
     ·cases h
    ·split at h
     ·rename_i x hx
      have hb:b=.gW x:=by
       unfold A1 at hx;split at hx<;>cases hx;rfl
      subst hb
      split at h
      ·rename_i r hn
       obtain⟨bi,bb,es,ix,cur,h1,h2,h3,h4⟩:=wg hn
       refine⟨.gW hw h1 h2 (fun t H' ht=>?_) (fun t H' ht=>?_),fun y hy=>?_⟩
       ·obtain⟨r2,k1,_⟩:=aD h _ (h3 t H' ht)
        simp only at k1
        split at k1
        ·rename_i hs;exact eO hs
        ·cases k1
       ·obtain⟨r2,k1,k2⟩:=aD h _ (h3 t H' ht)
        simp only at k1
        split at k1
        ·have:=(ih _ _ _ (hc.mono (h4 _ (h3 t H' ht))) k1).1
         rw[e6]at this
         exact this.use (bH.sub k2)
        ·cases k1
       ·obtain⟨p,hp,r2,k1,k2⟩:=aY h y hy
        split at k1
        ·exact(h4 p hp).trans ((ih _ _ _ (hc.mono (h4 p hp)) k1).2 y k2)
        ·cases k1
      ·cases h
     ·split at h
      ·rename_i hn
       obtain⟨neg,x,y,rfl,rfl,rfl,h1,h2⟩:=wc hn
       refine⟨.mW rfl (fun t=>?_) h1 h2 rfl,fun z hz=>?_⟩
       ·obtain⟨r2,k1,k2⟩:=aD h t (by cases t<;>simp)
        have:=(ih _ _ _ hc k1).1
        rw[e6]at this
        exact this.use (bH.sub k2)
       ·obtain⟨t,_,r2,k1,k2⟩:=aY h z hz
        exact(ih _ _ _ hc k1).2 z k2
      ·cases h
   ·obtain⟨M,m1,m2,m3,m4⟩:=kp hr hc ih h
    exact⟨.call M hw m1 m2 m3,m4⟩
   ·rename_i x az
    split at h
    ·rename_i hf
     obtain⟨M,m1,m2,m3,m4⟩:=kp hr hc ih h
     exact⟨.aQ M hw hf m1 m2 m3,m4⟩
    ·rename_i b hf
     split at h
     ·rename_i y hy
      obtain⟨FF,rfl⟩:=tG hy
      unfold A2 at h
      split at h
      ·rename_i ay
       simp only[Bool.and_eq_true,decide_eq_true_eq]at ay
       obtain⟨FG,hlen⟩:=ay
       obtain⟨st,pp,hb⟩:=hc y FF
       obtain⟨n1,R1,C5,a1,c1,jA⟩:=mI FG
       rw[hb]at jA;cases jA
       cases h1:rec (.code y.bc (mF y.L y.ps (az.map (X.ev (lk L))))) ctx H with
       | none=>rw[h1]at h;cases h
       | some r1 =>
        rw[h1]at h
        obtain⟨g1,g2⟩:=hr _ _ _ _ hc h1
        simp only[JE.j,xf]at g1
        have mid:∀L1 H1,(OE.ex .normal L1,H1)∈r1→H1[y.b]?=some (.loop .ready none y.n (lk y.L) y.ps y.bc y.body)∧∃r2,rec (.code y.body L1) ctx (H1.set y.b (.loop .busy none y.n (lk y.L) y.ps y.bc y.body))=some r2∧Good E (.code y.body (lk L1)) (H1.set y.b (.loop .busy none y.n (lk y.L) y.ps y.bc y.body)) r2:=by
         intro L1 H1 hm
         obtain⟨rk,k1,_⟩:=aD h _ hm
         simp only at k1
         split at k1
         ·rename_i C7
          obtain⟨Ek,Gy,e1⟩:=g2 _ hm _ _ _ _ _ _ _ _ hb
          obtain⟨n1,R1,C5,a1,c1,jA⟩:=mI C7
          rw[e1]at jA;cases jA
          refine⟨e1,?_⟩
          cases h2:rec (.code y.body L1) ctx (H1.set y.b (.loop .busy none y.n (lk y.L) y.ps y.bc y.body))with
          | none=>rw[h2]at k1;cases k1
          | some r2=>exact⟨r2,rfl,hr _ _ _ _ ((hc.mono (g2 _ hm)).mono (bm.oQ _ _ e1)) h2⟩
         ·cases k1
        have norm:∀x∈r1,∃L1,x.1=.ex .normal L1:=by
         rintro⟨o1,H1⟩ hx
         obtain⟨rk,k1,_⟩:=aD h _ hx
         simp only at k1
         split at k1
         ·exact⟨_,rfl⟩
         ·cases k1
        have last:∀L1 H1 r2,(OE.ex .normal L1,H1)∈r1→rec (.code y.body L1) ctx (H1.set y.b (.loop .busy none y.n (lk y.L) y.ps y.bc y.body))=some r2→∀o2 H2,(o2,H2)∈r2→H2[y.b]?=some (.loop .busy none y.n (lk y.L) y.ps y.bc y.body)∧bm H H2∧∃(e:Ex) (L2:cL),o2=.ex e L2 ∧
          ∃(t:Bool) (st:p5) (pe:Option Ex),((e=.normal∧t=true∧st=.ready∧pe=none)∨(e≠.normal∧t=false∧st=.done∧pe=some e))∧ga (lk L) (H2.set y.b (.loop st pe y.n (lk y.L) y.ps y.bc y.body)) s=true∧∃r3,gH rec ctx l (jv L d (.bool t)) (H2.set y.b (.loop st pe y.n (lk y.L) y.ps y.bc y.body))=some r3∧∀z∈r3,z∈res:=by
         intro L1 H1 r2 hm h2 o2 H2 tZ
         obtain⟨e1,Gz,lx,g3,g4⟩:=mid L1 H1 hm
         rw[h2]at lx;cases lx
         obtain⟨rk,k1,k2⟩:=aD h _ hm
         simp only at k1
         split at k1
         ·rw[h2]at k1
          obtain⟨rj,j1,j2⟩:=aD k1 _ tZ
          simp only at j1
          have tH:=g4 _ tZ
          have FH:(H1.set y.b (.loop .busy none y.n (lk y.L) y.ps y.bc y.body))[y.b]?=some (.loop .busy none y.n (lk y.L) y.ps y.bc y.body):=by rw[List.getElem?_set_self (List.getElem?_eq_some_iff.1 e1).1]
          obtain⟨GA,GB,e2⟩:=tH _ _ _ _ _ _ _ _ FH
          split at j1
          ·rename_i nZ
           obtain⟨n1,R1,C5,a1,c1,jA⟩:=we nZ
           rw[e2]at jA;cases jA
           refine⟨e2,((g2 _ hm).trans (bm.oQ _ _ e1)).trans tH,?_⟩
           split at j1
           ·rename_i L2
            split at j1
            ·rename_i hs
             exact⟨.normal,L2,rfl,true,.ready,none,.inl ⟨rfl,rfl,rfl,rfl⟩,hs,rj,j1,fun z hz=>k2 z (j2 z hz)⟩
            ·cases j1
           ·rename_i e L2 aF
            split at j1
            ·rename_i hs
             exact⟨e,L2,rfl,false,.done,some e,.inr ⟨fun hh=>aF hh,rfl,rfl,rfl⟩,hs,rj,j1,fun z hz=>k2 z (j2 z hz)⟩
            ·cases j1
           ·cases j1
          ·cases j1
         ·cases k1
        let M:Out→aa→Prop:=fun o H2=>∃L1 H1 r2,(OE.ex .normal L1,H1)∈r1∧rec (.code y.body L1) ctx (H1.set y.b (.loop .busy none y.n (lk y.L) y.ps y.bc y.body))=some r2∧bH r2 o H2
        have fin:∀o H2,M o H2→∃e R2,o=.ex e R2∧H2[y.b]?=some (.loop .busy none y.n (lk y.L) y.ps y.bc y.body)∧bm H H2 ∧
          ∃(t:Bool) (st:p5) (pe:Option Ex),((e=.normal∧t=true∧st=.ready∧pe=none)∨(e≠.normal∧t=false∧st=.done∧pe=some e))∧ga (lk L) (H2.set y.b (.loop st pe y.n (lk y.L) y.ps y.bc y.body)) s=true∧W E (.ops l (aw (lk L) d (.bool t))) (H2.set y.b (.loop st pe y.n (lk y.L) y.ps y.bc y.body)) (bH res):=by
         rintro o H2⟨L1,H1,r2,hm,h2,⟨o2,FI⟩,tZ,ho,rfl⟩
         obtain⟨e2,tH,e,L2,rfl,t,st,pe,dG,hs,r3,h3,h4⟩:=last L1 H1 r2 hm h2 o2 FI tZ
         cases ho
         refine⟨e,lk L2,rfl,e2,tH,t,st,pe,dG,hs,?_⟩
         have:=(ih _ _ _ ((hc.mono tH).mono (bm.oQ st pe e2)) h3).1
         rw[e6]at this
         exact this.use (bH.sub h4)
        refine⟨.gL (bH r1) M hw hf hb (by simpa using hlen) g1 ?_ ?_ ?_ ?_ ?_ ?_ ?_,fun x hx=>?_⟩
        ·rintro o H'⟨⟨o1,H1⟩,hm,ho,rfl⟩
         obtain⟨L1,rfl⟩:=norm _ hm
         cases ho
         exact⟨⟨_,rfl⟩,(mid _ _ hm).1⟩
        ·rintro R1 H1⟨⟨o1,FJ⟩,hm,ho,rfl⟩
         obtain⟨L1,rfl,rfl⟩:=kX ho
         obtain⟨e1,r2,h2,g3,g4⟩:=mid _ _ hm
         exact g3.use fun o H2 hp=>⟨L1,FJ,r2,hm,h2,hp⟩
        ·intro o H2 hM
         obtain⟨e,R2,_,e2,_⟩:=fin o H2 hM
         exact e2
        ·intro R2 H2 hM
         obtain⟨e,C8,ho,e2,tH,t,st,pe,dG,hs,hW⟩:=fin _ H2 hM
         cases ho
         rcases dG with⟨_,rfl,rfl,rfl⟩|⟨aF,_⟩
         ·exact eO hs
         ·exact absurd rfl aF
        ·intro R2 H2 hM
         obtain⟨e,C8,ho,e2,tH,t,st,pe,dG,hs,hW⟩:=fin _ H2 hM
         cases ho
         rcases dG with⟨_,rfl,rfl,rfl⟩|⟨aF,_⟩
         ·exact hW
         ·exact absurd rfl aF
        ·intro e R2 H2 hM aF
         obtain⟨e',C8,ho,e2,tH,t,st,pe,dG,hs,hW⟩:=fin _ H2 hM
         cases ho
         rcases dG with⟨he,_⟩|⟨_,rfl,rfl,rfl⟩
         ·exact absurd he aF
         ·exact eO hs
        ·intro e R2 H2 hM aF
         obtain⟨e',C8,ho,e2,tH,t,st,pe,dG,hs,hW⟩:=fin _ H2 hM
         cases ho
         rcases dG with⟨he,_⟩|⟨_,rfl,rfl,rfl⟩
         ·exact absurd he aF
         ·exact hW
        ·obtain⟨⟨o1,H1⟩,hm,rk,k1,k2⟩:=aY h x hx
         obtain⟨L1,he⟩:=norm _ hm
         cases he
         obtain⟨e1,r2,h2,g3,g4⟩:=mid _ _ hm
         simp only at k1
         split at k1
         ·rw[h2]at k1
          obtain⟨⟨o2,H2⟩,tZ,rj,j1,j2⟩:=aY k1 x k2
          obtain⟨e2,tH,e,L2,rfl,t,st,pe,dG,hs,r3,h3,h4⟩:=last L1 H1 r2 hm h2 o2 H2 tZ
          have BZ:=tH.trans (bm.oQ st pe e2)
          refine BZ.trans ((ih _ _ _ (hc.mono BZ) h3).2 x ?_)
          simp only at j1
          split at j1
          ·rcases dG with⟨rfl,rfl,rfl,rfl⟩|⟨aF,rfl,rfl,rfl⟩
           ·simp only[hs,if_true]at j1
            rw[h3]at j1;cases j1;exact j2
           ·cases e with
            | normal=>exact absurd rfl aF
            | _ =>
             simp only[hs,if_true]at j1
             rw[h3]at j1;cases j1;exact j2
          ·cases j1
         ·cases k1
      ·cases h
     ·cases h
    ·cases h
  ·rename_i hw
   obtain⟨g1,g2⟩:=ih _ _ _ hc h
   rw[e6]at g1
   exact⟨.no (by simpa using hw) g1,g2⟩
theorem tI (hr:jd E rec)(ctx:List Yc):∀(c:C) (L:cL) (H:aa) (res:List (OE×aa)),fk ctx H→cM rec ctx c L H=some res→Good E (.code c (lk L)) H res:=by
 intro c
 induction c with
 | skip=>intro L H res hc h;cases h;exact⟨.skip ⟨_,List.mem_singleton.2 rfl,rfl,rfl⟩,fun x hx=>by cases List.mem_singleton.1 hx;exact bm.refl _⟩
 | exit id=>intro L H res hc h;cases h;exact⟨.exit ⟨_,List.mem_singleton.2 rfl,rfl,rfl⟩,fun x hx=>by cases List.mem_singleton.1 hx;exact bm.refl _⟩
 | ret=>intro L H res hc h;cases h;exact⟨.ret ⟨_,List.mem_singleton.2 rfl,rfl,rfl⟩,fun x hx=>by cases List.mem_singleton.1 hx;exact bm.refl _⟩
 | ops l =>
  intro L H res hc h
  obtain⟨g1,g2⟩:=wh hr ctx l L H res hc h
  exact⟨.xw g1,g2⟩
 | seq a b xi A4 =>
  intro L H res hc h
  unfold cM at h
  cases h1:cM rec ctx a L H with
  | none=>rw[h1]at h;cases h
  | some r1 =>
   rw[h1]at h
   obtain⟨g1,g2⟩:=xi _ _ _ hc h1
   refine⟨.seq (bH r1) g1 ?_ ?_,fun x hx=>?_⟩
   ·rintro R' H'⟨⟨o,H2⟩,hm,ho,rfl⟩
    obtain⟨L',rfl,rfl⟩:=kX ho
    obtain⟨r2,k1,k2⟩:=aD h _ hm
    exact(A4 _ _ _ (hc.mono (g2 _ hm)) k1).1.use (bH.sub k2)
   ·rintro o H'⟨⟨o1,H2⟩,hm,rfl,rfl⟩ aF
    obtain⟨r2,k1,k2⟩:=aD h _ hm
    simp only at k1
    split at k1
    ·exact absurd rfl (aF _)
    ·cases k1;exact⟨_,k2 _ (List.mem_singleton.2 rfl),rfl,rfl⟩
   ·obtain⟨⟨o1,H2⟩,hm,r2,k1,k2⟩:=aY h x hx
    simp only at k1
    split at k1
    ·exact(g2 _ hm).trans ((A4 _ _ _ (hc.mono (g2 _ hm)) k1).2 x k2)
    ·cases k1;cases List.mem_singleton.1 k2;exact g2 _ hm
 | cond x a b xi A4 =>
  intro L H res hc h
  unfold cM at h
  split at h
  ·rename_i hx
   obtain⟨g1,g2⟩:=xi _ _ _ hc h
   exact⟨.cond true hx (by rw[if_pos rfl];exact g1),g2⟩
  ·rename_i hx
   obtain⟨g1,g2⟩:=A4 _ _ _ hc h
   exact⟨.cond false hx (by rw[if_neg (by simp)];exact g1),g2⟩
  ·cases h
 | block id a xi =>
  intro L H res hc h
  unfold cM at h
  cases h1:cM rec ctx a L H with
  | none=>rw[h1]at h;cases h
  | some r1 =>
   rw[h1]at h
   obtain⟨g1,g2⟩:=xi _ _ _ hc h1
   refine⟨.block (bH r1) g1 ?_ ?_,fun x hx=>?_⟩
   ·rintro R' H'⟨⟨o,H2⟩,hm,ho,rfl⟩
    obtain⟨L',rfl,rfl⟩:=kX ho
    obtain⟨r2,k1,k2⟩:=aD h _ hm
    simp only[if_true]at k1
    cases k1
    exact⟨_,k2 _ (List.mem_singleton.2 rfl),rfl,rfl⟩
   ·rintro o H'⟨⟨o1,H2⟩,hm,rfl,rfl⟩ aF
    obtain⟨r2,k1,k2⟩:=aD h _ hm
    simp only at k1
    split at k1
    ·split at k1
     ·rename_i e;subst e;exact absurd rfl (aF _)
     ·cases k1;exact⟨_,k2 _ (List.mem_singleton.2 rfl),rfl,rfl⟩
    ·cases k1;exact⟨_,k2 _ (List.mem_singleton.2 rfl),rfl,rfl⟩
   ·obtain⟨⟨o1,H2⟩,hm,r2,k1,k2⟩:=aY h x hx
    simp only at k1
    have hp:=g2 _ hm
    split at k1
    ·split at k1
     ·cases k1;cases List.mem_singleton.1 k2;exact hp
     ·cases k1;cases List.mem_singleton.1 k2;exact hp
    ·cases k1;cases List.mem_singleton.1 k2;exact hp
 | loop a xi =>
  intro L H res hc h
  unfold cM at h
  cases h1:cM rec ctx a L H with
  | none=>rw[h1]at h;cases h
  | some r1 =>
   rw[h1]at h
   obtain⟨g1,g2⟩:=xi _ _ _ hc h1
   refine⟨.loop (bH r1) g1 ?_ ?_,fun x hx=>?_⟩
   ·rintro R' H'⟨⟨o,H2⟩,hm,ho,rfl⟩
    obtain⟨L',rfl,rfl⟩:=kX ho
    obtain⟨r2,k1,k2⟩:=aD h _ hm
    exact(hr _ _ _ _ (hc.mono (g2 _ hm)) k1).1.use (bH.sub k2)
   ·rintro o H'⟨⟨o1,H2⟩,hm,rfl,rfl⟩ aF
    obtain⟨r2,k1,k2⟩:=aD h _ hm
    simp only at k1
    split at k1
    ·exact absurd rfl (aF _)
    ·cases k1;exact⟨_,k2 _ (List.mem_singleton.2 rfl),rfl,rfl⟩
   ·obtain⟨⟨o1,H2⟩,hm,r2,k1,k2⟩:=aY h x hx
    simp only at k1
    split at k1
    ·exact(g2 _ hm).trans ((hr _ _ _ _ (hc.mono (g2 _ hm)) k1).2 x k2)
    ·cases k1;cases List.mem_singleton.1 k2;exact g2 _ hm
 | bd n x ps bc body xi A4 =>
  intro L H res hc h
  unfold cM at h
  split at h
  ·rename_i f cs hf
   have hg:(H++[B.lr,.loop .ready none n (lk L) ps bc body])[H.length+1]?=some (.loop .ready none n (lk L) ps bc body):=by
    rw[List.getElem?_append_right (by omega)]
    have:H.length+1-H.length=1:=by omega
    rw[this];rfl
   have uR:fk (⟨H.length+1,n,L,ps,bc,body⟩ :: ctx) (H++[B.lr,.loop .ready none n (lk L) ps bc body]):=fun y hy=>by
    rcases List.mem_cons.1 hy with rfl|hy
    ·exact⟨_,_,hg⟩
    ·exact hc.mono (bm.app _ _) y hy
   cases h1:rec (.call f (.gL (H.length+1) :: cs)) (⟨H.length+1,n,L,ps,bc,body⟩ :: ctx) (H++[.lr,.loop .ready none n (lk L) ps bc body])with
   | none=>rw[h1]at h;cases h
   | some r1 =>
    rw[h1]at h
    obtain⟨g1,g2⟩:=hr _ _ _ _ uR h1
    have key:∀v H',(OE.val v,H')∈r1→∃st br,st≠.busy∧br≠some .normal∧H'[H.length+1]?=some (.loop st br n (lk L) ps bc body)∧(OE.ex (kx br) (L.set n (fK (L.get n) H.length)),H'.set (H.length+1) .dead)∈res:=by
     intro v H' hm
     obtain⟨r2,k1,k2⟩:=aD h _ hm
     simp only at k1
     obtain⟨jh,FK,e1⟩:=g2 _ hm _ _ _ _ _ _ _ _ hg
     rw[e1]at k1
     simp only at k1
     split at k1
     ·rename_i ay
      cases k1
      refine⟨jh,FK,ay.1,fun e=>?_,e1,k2 _ (List.mem_singleton.2 rfl)⟩
      rw[e]at ay;exact absurd ay.2 (by simp[oV])
     ·cases k1
    refine⟨.bd (bH r1) hf g1 ?_,fun y hy=>?_⟩
    ·rintro v H'⟨⟨o,H2⟩,hm,ho,rfl⟩
     cases kW ho
     obtain⟨st,br,k1,k2,k3,k4⟩:=key v H2 hm
     refine⟨st,br,k1,k2,k3,_,k4,?_,rfl⟩
     simp only[OE.out]
     rw[nP]
    ·obtain⟨⟨o,H2⟩,hm,r2,k1,k2⟩:=aY h y hy
     simp only at k1
     split at k1
     ·split at k1
      ·split at k1
       ·cases k1;cases List.mem_singleton.1 k2
        intro b st p n R ps a c hb
        have aA:=(List.getElem?_eq_some_iff.1 hb).1
        obtain⟨jh,p',cV⟩:=((bm.app _ _).trans (g2 _ hm)) b st p n R ps a c hb
        exact⟨jh,p',by rw[List.getElem?_set_ne (by omega)];exact cV⟩
       ·cases k1
      ·cases k1
     ·cases k1
  ·cases h
theorem mJ:∀(bs:List Nat) (H:aa),(∀b∈bs,H[b]?=some .lr)→bs.Nodup→bm H (kill H bs)
 | [],H,_,_=>bm.refl _
 | b :: bs,H,h,hn=>by
  have hb:=h b List.mem_cons_self
  have wz:=List.nodup_cons.1 hn
  refine(bm.set .dead hb (by intros;simp)).trans (mJ bs _ (fun b' cV=>?_) wz.2)
  rw[List.getElem?_set_ne (by rintro rfl;exact wz.1 cV)]
  exact h b' (List.mem_cons_of_mem _ cV)
theorem yN {H:aa}{b:Nat}(h:yL H b=true):H[b]?=some .lr:=by
 unfold yL at h
 split at h
 ·rename_i hb;exact hb
 ·cases h
theorem tJ (hr:jd E rec){ctx:List Yc}{f:Nat}{az:List T}{H:aa}{res:List (OE×aa)}(hc:fk ctx H)(h:tD E.fn rec ctx f az H=some res):Good E (.call f az) H res∧∀x∈res,∃v,x.1=.val v:=by
 unfold tD at h
 split at h
 ·rename_i fn hf
  split at h
  ·rename_i hn
   cases h1:rec (.code fn.body (yH az)) ctx H with
   | none=>rw[h1]at h;cases h
   | some r1 =>
    rw[h1]at h
    obtain⟨g1,g2⟩:=hr _ _ _ _ hc h1
    simp only[JE.j,C6]at g1
    have nv:∀o H',(o,H')∈r1→∃e L',o=.ex e L'∧(e=.normal∨e=.ret):=by
     intro o H' hm
     obtain⟨r2,k1,_⟩:=aD h _ hm
     simp only at k1
     split at k1
     ·cases k1
     ·cases k1
     ·rename_i e L' aF
      refine⟨e,L',rfl,?_⟩
      cases e with
      | normal=>exact .inl rfl
      | ret=>exact .inr rfl
      | exit id=>exact absurd rfl (aF id)
    cases hR:fn.body.ep with
    | false =>
     have key:∀e L' H',(OE.ex e L',H')∈r1→∃v,fL (lk L') H' fn.res=some v∧(OE.val v,H')∈res:=by
      intro e L' H' hm
      obtain⟨r2,k1,k2⟩:=aD h _ hm
      simp only at k1
      split at k1
      ·cases k1
      ·cases k1
      ·rename_i e' L2 aF he
       cases he
       rw[hR]at k1
       simp only[Bool.false_eq_true,if_false]at k1
       split at k1
       ·rename_i v hv
        cases k1
        exact⟨v,hv,k2 _ (List.mem_singleton.2 rfl)⟩
       ·cases k1
     refine⟨⟨.fn (bH r1) hf hR hn g1 ?_,fun x hx=>?_⟩,fun x hx=>?_⟩
     ·rintro o H'⟨⟨o1,H2⟩,hm,rfl,rfl⟩
      obtain⟨e,L',rfl,he⟩:=nv _ _ hm
      obtain⟨v,k1,k2⟩:=key _ _ _ hm
      refine⟨lk L',?_,v,k1,_,k2,rfl,rfl⟩
      rcases he with rfl|rfl
      ·exact .inl rfl
      ·exact .inr rfl
     ·obtain⟨⟨o1,H2⟩,hm,r2,k1,k2⟩:=aY h x hx
      obtain⟨e,L',rfl,he⟩:=nv _ _ hm
      have hp:=g2 _ hm
      simp only at k1
      split at k1
      ·cases k1
      ·cases k1
      ·rw[hR]at k1
       simp only[Bool.false_eq_true,if_false]at k1
       split at k1
       ·cases k1;cases List.mem_singleton.1 k2;exact hp
       ·cases k1
     ·obtain⟨⟨o1,H2⟩,hm,r2,k1,k2⟩:=aY h x hx
      obtain⟨e,L',rfl,he⟩:=nv _ _ hm
      simp only at k1
      split at k1
      ·cases k1
      ·cases k1
      ·rw[hR]at k1
       simp only[Bool.false_eq_true,if_false]at k1
       split at k1
       ·cases k1;cases List.mem_singleton.1 k2;exact⟨_,rfl⟩
       ·cases k1
    | true =>
     have key:∀e L' H',(OE.ex e L',H')∈r1→∃bs v,marks (L'.get fn.n)=some bs∧bs.Nodup∧(∀b∈bs,H'[b]?=some .lr)∧fL (lk L') (kill H' bs) fn.res=some v∧(OE.val v,kill H' bs)∈res:=by
      intro e L' H' hm
      obtain⟨r2,k1,k2⟩:=aD h _ hm
      simp only at k1
      split at k1
      ·cases k1
      ·cases k1
      ·rename_i e' L2 aF he
       cases he
       rw[hR]at k1
       simp only[if_true]at k1
       split at k1
       ·rename_i bs nZ
        split at k1
        ·rename_i ay
         simp only[Bool.and_eq_true,decide_eq_true_eq]at ay
         split at k1
         ·rename_i v hv
          cases k1
          exact⟨bs,v,nZ,ay.1,fun b hb=>yN (List.all_eq_true.1 ay.2 b hb),hv,k2 _ (List.mem_singleton.2 rfl)⟩
         ·cases k1
        ·cases k1
       ·cases k1
     have rest:∀x∈res,bm H x.2∧∃v,x.1=.val v:=by
      intro x hx
      obtain⟨⟨o1,H2⟩,hm,r2,k1,k2⟩:=aY h x hx
      obtain⟨e,L',rfl,he⟩:=nv _ _ hm
      obtain⟨bs,v,q1,q2,q3,q4,q5⟩:=key _ _ _ hm
      simp only at k1
      split at k1
      ·cases k1
      ·cases k1
      ·rename_i e' L2 aF wA
       cases wA
       rw[hR,q1]at k1
       simp only[if_true]at k1
       split at k1
       ·rw[q4]at k1
        cases k1;cases List.mem_singleton.1 k2
        exact⟨(g2 _ hm).trans (mJ bs H2 q3 q2),v,rfl⟩
       ·cases k1
     refine⟨⟨.y9 (bH r1) hf hn g1 ?_,fun x hx=>(rest x hx).1⟩,fun x hx=>(rest x hx).2⟩
     rintro o H'⟨⟨o1,H2⟩,hm,rfl,rfl⟩
     obtain⟨e,L',rfl,he⟩:=nv _ _ hm
     obtain⟨bs,v,q1,q2,q3,q4,q5⟩:=key _ _ _ hm
     refine⟨lk L',bs,?_,q1,q2,q3,v,q4,_,q5,rfl,rfl⟩
     rcases he with rfl|rfl
     ·exact .inl rfl
     ·exact .inr rfl
  ·cases h
 ·cases h
theorem wi {v:T}{b:Nat}(h:yM v=some b):ig b v:=by
 unfold yM at h
 split at h
 ·cases h;rfl
 ·rename_i vs
  obtain⟨x,hx,h1⟩:=List.exists_of_findSome?_eq_some h
  split at h1
  ·cases h1;exact⟨_,_,_,hx⟩
  ·cases h1
 ·cases h
theorem kr:∀{r r':List (OE×aa)},kV r=some r'→(∀x∈r,∃v b cs,x.1=.val v∧ig b v∧x.2[b]?=some (.cells cs)∧(OE.val (mV b cs v),x.2.set b .dead)∈r')∧∀y∈r',∃x∈r,∃v,y.1=.val v∧bm x.2 y.2
 | [],_,h=>by cases h;exact⟨fun x hx=>absurd hx List.not_mem_nil,fun x hx=>absurd hx List.not_mem_nil⟩
 | x :: l,r',h=>by
  unfold kV at h
  split at h
  ·rename_i y m h1 h2
   cases h
   obtain⟨i1,i2⟩:=kr h2
   have nb:∃v b cs,x.1=.val v∧ig b v∧x.2[b]?=some (.cells cs)∧(OE.val (mV b cs v),x.2.set b .dead)=y:=by
    unfold A3 at h1
    split at h1
    ·rename_i v hv
     split at h1
     ·rename_i b hb
      split at h1
      ·rename_i cs lg
       cases h1
       exact⟨v,b,cs,hv,wi hb,lg,rfl⟩
      ·cases h1
     ·cases h1
    ·cases h1
   obtain⟨v,b,cs,k1,k2,k3,k4⟩:=nb
   refine⟨fun z hz=>?_,fun z hz=>?_⟩
   ·rcases List.mem_cons.1 hz with rfl|hz
    ·exact⟨v,b,cs,k1,k2,k3,by rw[k4];exact List.mem_cons_self⟩
    ·obtain⟨v,b,cs,a1,a2,a3,a4⟩:=i1 z hz
     exact⟨v,b,cs,a1,a2,a3,List.mem_cons_of_mem _ a4⟩
   ·rcases List.mem_cons.1 hz with rfl|hz
    ·rw[←k4];exact⟨x,List.mem_cons_self,_,rfl,bm.set _ k3 (by intros;simp)⟩
    ·obtain⟨w,hw,a⟩:=i2 z hz
     exact⟨w,List.mem_cons_of_mem _ hw,a⟩
  ·cases h
theorem oW {f:Nat}{az:List T}{H:aa}:∀(n:Nat) {r:List (OE×aa)},Good E (.call f az) H r→Good E (.call f az) H (wb n r)
 | 0,r,h=>h
 | n+1,r,h=>by
  unfold wb
  split
  ·rename_i r' hr
   obtain⟨i1,i2⟩:=kr hr
   refine oW n ⟨.nU (bH r) h.1 ?_,fun y hy=>?_⟩
   ·rintro o H'⟨x,hx,rfl,rfl⟩
    obtain⟨v,b,cs,a1,a2,a3,a4⟩:=i1 x hx
    exact⟨v,b,cs,by rw[a1];rfl,a2,a3,_,a4,rfl,rfl⟩
   ·obtain⟨x,hx,_,_,hp⟩:=i2 y hy
    exact(h.2 x hx).trans hp
  ·exact h
theorem tK {nQ:Nat→Nat}(hr:jd E rec):jd E (xh E.fn nQ rec):=fun j ctx H res hc h=>by
 cases j with
 | code c L=>exact tI hr ctx c L H res hc h
 | call f az =>
  have h:tE E.fn nQ rec ctx f az H=some res:=h
  unfold tE at h
  split at h
  ·rename_i r fb
   cases h
   exact oW _ (tJ hr hc fb).1
  ·cases h
end
theorem tL (E:Env)(nQ:Nat→Nat):∀n,jd E (run E.fn nQ n)
 | 0=>fun j ctx H res hc h=>by cases h
 | n+1=>tK (tL E nQ n)
theorem W.closed {E:Env}{f:Nat}(nQ:Nat→Nat)(n:Nat)(az:List T)(H:aa)(h:tF (run E.fn nQ n (.call f az) [] H)=true):W E (.call f az) H (fun o _=>o=.val (.bool true)):=by
 cases h1:run E.fn nQ n (.call f az) [] H with
 | none=>rw[h1]at h;cases h
 | some r =>
  rw[h1]at h
  refine(tL E nQ n _ _ _ _ (fun y hy=>by cases hy) h1).1.use fun o H' ⟨x,hx,ho,_⟩=>?_
  have:=List.all_eq_true.1 h x hx
  split at this
  ·rename_i hv;rw[←ho,hv];rfl
  ·cases this
end Go.Rmp
end

section
namespace Go.Proofs.YtaplookbfhicoaaGreatDoor.Ir
open Go.Rmp
set_option maxRecDepth 100000
set_option maxHeartbeats 0
abbrev op (d:Nat)(b:Bo):O:=⟨some d,.b b,none,[]⟩
abbrev ef (b:Bo):O:=⟨none,.b b,none,[]⟩
abbrev cl (d f:Nat)(az:List X):O:=⟨some d,.call f az,none,[]⟩
abbrev sq (a b:C):C:=.seq a b
abbrev mv (d t:Nat):O:=⟨some d,.b (.aP (.r t)),none,[]⟩
abbrev mt (d t g:Nat):O:=⟨some d,.b (.aP (.r t)),some (g,true),[]⟩
abbrev mf (d t g:Nat):O:=⟨some d,.b (.aP (.r t)),some (g,false),[]⟩
abbrev gt (d g:Nat)(b:Bo):O:=⟨some d,.b b,some (g,true),[]⟩
abbrev gf (d g:Nat)(b:Bo):O:=⟨some d,.b b,some (g,false),[]⟩
abbrev l1 (d a:Nat):O:=⟨some d,.b (.ld 1 false (.r a)),none,[]⟩
abbrev ln (d n a:Nat):O:=⟨some d,.b (.ld n true (.r a)),none,[]⟩
abbrev ia (d n a b:Nat):O:=⟨some d,.b (.nT n (.r a) (.r b)),none,[]⟩
abbrev fa (d n a:Nat):O:=⟨some d,.b (.pU n (.r a)),none,[]⟩
abbrev se (n a b:Nat):O:=⟨none,.b (.st n (.r a) (.r b)),none,[]⟩
abbrev nc (d a:Nat):O:=⟨some d,.b (.mT (.r a)),none,[]⟩
abbrev b2 (d:Nat)(o:BinOp)(a b:Nat):O:=⟨some d,.b (.bin o (.r a) (.r b)),none,[]⟩
abbrev xt (d n a:Nat):O:=⟨some d,.b (.ext n (.r a)),none,[]⟩
abbrev iG (d a:Nat):O:=⟨some d,.b (.len .sl (.r a)),none,[]⟩
abbrev so (l:List O)(c:C):C:=.seq (.ops l) c
abbrev cx (t i:Nat):C:=.cond (.r t) .skip (.exit i)
def FL:An:=⟨[],[(14,[(0,true),(1,true),(2,true),(3,true),(4,true),(5,true),(6,true),(7,true),(8,true)])]⟩
def C9:Go.Rmp.Fn:=⟨71,1,[.t 2],so [op 2 (.aP (.c (.bool false)))]<|sq (so [cl 8 5 [],op 9 (.un .not (.r 8))]<|.cond (.r 9) (so [op 2 (.aP (.c (.bool false)))]<|.ret) (.skip))<|so [op 3 (.aP (.c (.bool true)))]<|sq (so [op 4 (.aP (.c (.int .i64 0)))]<|.block 0 (.loop (sq (so [mv 10 4,mv 11 0,iG 12 11,b2 13 .lss 10 12]<|cx 13 0)<|sq (.block 1 (.ops [mv 16 3,mv 17 16,mt 18 0 17,mt 19 4 17,gt 20 17 (.nT 3 (.r 18) (.r 19)),gt 21 17 (.pU 2 (.r 20)),gt 22 17 (.ld 1 false (.r 21)),gt 23 17 (.bin .eql (.r 22) (.c (.int .i64 1))),mt 24 23 17,mf 25 0 24,mf 26 4 24,gf 27 24 (.nT 3 (.r 25) (.r 26)),gf 28 24 (.pU 2 (.r 27)),gf 29 24 (.ld 1 false (.r 28)),gf 30 24 (.bin .eql (.r 29) (.c (.int .i64 2))),gt 31 17 (.pick (.r 24) (.c (.bool true)) (.r 30)),op 32 (.pick (.r 17) (.r 31) (.c (.bool false))),mv 3 32]))<|.ops [mv 14 4,op 15 (.bin .add (.r 14) (.c (.int .i64 1))),mv 4 15])))<|so [op 5 (.aP (.c (.sl .nil [])))]<|so [mv 33 5,mv 34 0,op 35 (.app 3 32 false (.r 33) (.r 34)),op 36 (.build [.str ⟨#[]⟩,.int .i64 0,.int .i64 0] [(0,1,(.c (.str ⟨#[115,112,97,114,101]⟩)))]),op 37 (.oX 1 [.str ⟨#[]⟩,.int .i64 0,.int .i64 0] [(0,(.r 36))]),op 38 (.app 3 32 false (.r 35) (.r 37)),mv 5 38]<|so [mv 39 5,mv 40 0,iG 41 40,op 42 (.tN 3 (.r 39) none (some (.r 41)) none),cl 43 6 [.r 42],mv 6 43]<|sq (so [op 7 (.aP (.c (.int .i64 0)))]<|.block 2 (.loop (sq (so [mv 44 7,mv 45 0,iG 46 45,b2 47 .lss 44 46]<|cx 47 2)<|sq (.block 3 (so [mv 50 5,mv 51 7,ia 52 3 50 51,ln 53 3 52,mv 54 0,mv 55 7,ia 56 3 54 55,ln 57 3 56,op 58 (.eqs true [.str,.int,.int] (.r 53) (.r 57))]<|.cond (.r 58) (so [op 2 (.aP (.c (.bool false)))]<|.ret) (.skip)))<|.ops [mv 48 7,op 49 (.bin .add (.r 48) (.c (.int .i64 1))),mv 7 49])))<|so [mv 59 6,mv 60 3,op 61 (.beq false (.r 59) (.r 60)),mv 62 61,mt 63 5 62,mt 64 0 62,gt 65 62 (.len .sl (.r 64)),gt 66 62 (.nT 3 (.r 63) (.r 65)),gt 67 62 (.pU 0 (.r 66)),gt 68 62 (.ld 1 false (.r 67)),gt 69 62 (.bin .eql (.r 68) (.c (.str ⟨#[115,112,97,114,101]⟩))),op 70 (.pick (.r 62) (.r 69) (.c (.bool false))),mv 2 70]<|.ret⟩
def FM:An:=⟨[(5,1)],[]⟩
def Eo:Go.Rmp.Fn:=⟨55,0,[.t 0],so [op 0 (.aP (.c (.bool false)))]<|so [cl 6 8 [],mv 1 6]<|sq (so [mv 7 1,op 8 (.gV false .ptr (.r 7) (.c .bE))]<|.cond (.r 8) (so [op 0 (.aP (.c (.bool false)))]<|.ret) (.skip))<|so [mv 10 1,cl 11 14 [.r 10],mv 9 11,xt 12 0 9,xt 13 1 9,mv 2 12,mv 3 13]<|so [mv 14 1,op 15 (.yZ 1 [.int .u8 0] [(0,(.c (.int .u8 120)))]),op 16 (.wo true (.r 15)),cl 17 10 [.r 14,(.c (.str ⟨#[115,110,97,112]⟩)),.r 16]]<|so [mv 19 1,cl 20 14 [.r 19],mv 18 20,xt 21 0 18,xt 22 1 18,mv 4 21,mv 5 22]<|so [mv 23 3,op 24 (.bin .eql (.r 23) (.c (.int .i64 0))),mv 25 24,mt 26 2 25,gt 27 25 (.len .sl (.r 26)),gt 28 25 (.bin .eql (.r 27) (.c (.int .i64 0))),op 29 (.pick (.r 25) (.r 28) (.c (.bool false))),mv 30 29,mt 31 5 30,gt 32 30 (.bin .eql (.r 31) (.c (.int .i64 0))),op 33 (.pick (.r 30) (.r 32) (.c (.bool false))),mv 34 33,mt 35 4 34,gt 36 34 (.len .sl (.r 35)),gt 37 34 (.bin .eql (.r 36) (.c (.int .i64 1))),op 38 (.pick (.r 34) (.r 37) (.c (.bool false))),mv 39 38,mt 40 4 39,gt 41 39 (.nT 3 (.r 40) (.c (.int .i64 0))),gt 42 39 (.ld 3 true (.r 41)),gt 43 39 (.build [.str ⟨#[]⟩,.int .i64 0,.int .i64 0] [(0,1,(.c (.str ⟨#[115,110,97,112]⟩))),(2,1,(.c (.int .i64 4)))]),gt 44 39 (.eqs false [.str,.int,.int] (.r 42) (.r 43)),op 45 (.pick (.r 39) (.r 44) (.c (.bool false))),mv 46 45,mt 47 2 46,⟨(some 48),.call 6 [.r 47],(some (46,true)),[]⟩,op 49 (.pick (.r 46) (.r 48) (.c (.bool false))),mv 50 49,mt 51 4 50,⟨(some 52),.call 6 [.r 51],(some (50,true)),[]⟩,gt 53 50 (.un .not (.r 52)),op 54 (.pick (.r 50) (.r 53) (.c (.bool false))),mv 0 54]<|.ret⟩
def FN:An:=⟨[],[]⟩
def Da:Go.Rmp.Fn:=⟨6,1,[.t 2],so [op 2 (.aP (.c (.bool false)))]<|so [mv 3 0,cl 4 15 [.r 3,(.c (.fn 16 []))],op 5 (.un .not (.r 4)),mv 2 5]<|.ret⟩
def FO:An:=⟨[],[]⟩
def Ep:Go.Rmp.Fn:=⟨4,0,[.t 0],so [op 0 (.aP (.c .bE))]<|so [op 1 (.mS),op 2 (.build [.bL,.bool false,.int .i64 0,.bool false,.int .i64 0,.int .i64 0] [(0,1,(.r 1))]),op 3 (.box (.r 2)),mv 0 3]<|.ret⟩
def FP:An:=⟨[],[]⟩
def Er:Go.Rmp.Fn:=⟨7,0,[.t 0],so [op 0 (.aP (.c .bE))]<|so [op 1 (.mS),op 2 (.mS),op 3 (.mS),op 4 (.mS),op 5 (.build [.bL,.bL,.bL,.bL] [(0,1,(.r 1)),(1,1,(.r 2)),(2,1,(.r 3)),(3,1,(.r 4))]),op 6 (.box (.r 5)),mv 0 6]<|.ret⟩
def Db:An:=⟨[],[]⟩
def A5:Go.Rmp.Fn:=⟨72,3,[.t 6],so [op 6 (.aP (.c (.int .i64 0)))]<|so [mv 10 0,mv 11 1,cl 12 23 [.r 10,.r 11],mv 9 12,xt 13 0 9,xt 14 1 9,mv 7 13,mv 8 14]<|sq (.block 0 (so [mv 16 8,op 17 (.bin .eql (.r 16) (.c (.int .i64 62))),mv 15 17]<|.cond (.r 15) (so [mv 18 8,mv 6 18]<|.ret) (so [mv 20 1,cl 21 24 [.r 20],op 22 (.un .not (.r 21)),mv 19 22]<|.cond (.r 19) (so [op 6 (.aP (.c (.int .i64 1)))]<|.ret) (so [mv 24 8,op 25 (.bin .eql (.r 24) (.c (.int .i64 61))),mv 26 25,mt 27 0 26,gt 28 26 (.mT (.r 27)),gt 29 26 (.pU 0 (.r 28)),gt 30 26 (.ld 1 false (.r 29)),gt 31 26 (.len .map (.r 30)),gt 32 26 (.bin .geq (.r 31) (.c (.int .i64 16))),op 33 (.pick (.r 26) (.r 32) (.c (.bool false))),mv 23 33]<|.cond (.r 23) (so [op 6 (.aP (.c (.int .i64 3)))]<|.ret) (so [mv 35 2,iG 36 35,op 37 (.bin .gtr (.r 36) (.c (.int .i64 0))),mv 38 37,mt 39 0 38,gt 40 38 (.mT (.r 39)),gt 41 38 (.pU 2 (.r 40)),gt 42 38 (.ld 1 false (.r 41)),gt 43 38 (.bin .gtr (.r 42) (.c (.int .i64 0))),op 44 (.pick (.r 38) (.r 43) (.c (.bool false))),mv 34 44]<|.cond (.r 34) (so [mv 45 0,nc 46 45,fa 47 2 46,l1 48 47,op 49 (.bin .sub (.r 48) (.c (.int .i64 1))),nc 50 45,fa 51 2 50,se 1 51 49]<|so [op 6 (.aP (.c (.int .i64 60)))]<|.ret) (so [mv 53 8,op 54 (.bin .eql (.r 53) (.c (.int .i64 61))),mv 52 54]<|.cond (.r 52) (so [op 55 (.build [.sl .nil [],.int .i64 0] []),op 56 (.box (.r 55)),mv 7 56]<|.ops [mv 57 0,nc 58 57,fa 59 0 58,l1 60 59,mv 61 1,mv 62 7,ef (.wq (.sc .str) (.r 60) (.r 61) (.r 62))]) (.skip)))))))<|so [mv 63 7,mv 64 7,nc 65 64,fa 66 0 65,l1 67 66,mv 68 2,op 69 (.app 1 1 false (.r 67) (.r 68)),nc 70 63,fa 71 0 70,se 1 71 69]<|so [op 6 (.aP (.c (.int .i64 0)))]<|.ret⟩
def Dc:An:=⟨[],[]⟩
def A6:Go.Rmp.Fn:=⟨90,1,[.t 2,.t 3],so [op 2 (.aP (.c (.sl .nil []))),op 3 (.aP (.c (.int .i64 0)))]<|sq (so [mv 12 0,op 13 (.gV false .ptr (.r 12) (.c .bE))]<|.cond (.r 13) (so [op 2 (.aP (.c (.sl .nil []))),op 3 (.aP (.c (.int .i64 1)))]<|.ret) (.skip))<|so [mv 15 0,cl 16 30 [.r 15],mv 14 16,xt 17 0 14,xt 18 1 14,op 4 (.alloc [.sl .nil [],.bL]),se 2 4 17,mv 5 18]<|sq (so [mv 19 5,op 20 (.bin .neq (.r 19) (.c (.int .i64 0)))]<|.cond (.r 20) (so [mv 21 5,op 2 (.aP (.c (.sl .nil []))),mv 3 21]<|.ret) (.skip))<|so [ln 23 2 4,cl 24 31 [.r 23],mv 22 24,xt 25 0 22,xt 26 1 22,xt 27 2 22,mv 6 25,mv 7 26,mv 8 27]<|so [op 9 (.aP (.c (.sl .nil [])))]<|sq (so [fa 28 0 4,l1 29 28,iG 30 29,op 31 (.aP (.c (.int .i64 0)))]<|.block 0 (.loop (so [b2 32 .lss 31 30]<|sq (cx 32 0)<|sq (.block 1 (so [ia 33 1 29 31,l1 34 33,mv 11 34]<|.block 2 (so [mv 41 11,op 42 (.bin .eql (.r 41) (.c (.str ⟨#[115,110,97,112]⟩))),mv 43 42,mt 44 8 43,gt 45 43 (.un .not (.r 44)),op 46 (.pick (.r 43) (.r 45) (.c (.bool false))),mv 40 46]<|.cond (.r 40) (.ops [mv 47 9,mv 48 11,op 49 (.build [.str ⟨#[]⟩,.int .i64 0,.int .i64 0] [(0,1,(.r 48)),(1,1,(.c (.int .i64 0))),(2,1,(.c (.int .i64 4)))]),op 50 (.oX 1 [.str ⟨#[]⟩,.int .i64 0,.int .i64 0] [(0,(.r 49))]),op 51 (.app 3 32 false (.r 47) (.r 50)),mv 9 51]) (so [mv 53 11,op 54 (.bin .eql (.r 53) (.c (.str ⟨#[115,110,97,112]⟩))),mv 52 54]<|.cond (.r 52) (.skip) (so [mv 56 11,op 57 (.bin .eql (.r 56) (.c (.str ⟨#[115,110,97,112,46,116,109,112]⟩))),mv 55 57]<|.cond (.r 55) (.ops [mv 58 9,mv 59 11,op 60 (.build [.str ⟨#[]⟩,.int .i64 0,.int .i64 0] [(0,1,(.r 59)),(1,1,(.c (.int .i64 0))),(2,1,(.c (.int .i64 1)))]),op 61 (.oX 1 [.str ⟨#[]⟩,.int .i64 0,.int .i64 0] [(0,(.r 60))]),op 62 (.app 3 32 false (.r 58) (.r 61)),mv 9 62]) (so [mv 64 11,cl 65 32 [.r 64],op 66 (.un .not (.r 65)),mv 63 66]<|.cond (.r 63) (.ops [mv 67 9,mv 68 11,op 69 (.build [.str ⟨#[]⟩,.int .i64 0,.int .i64 0] [(0,1,(.r 68)),(1,1,(.c (.int .i64 0))),(2,1,(.c (.int .i64 3)))]),op 70 (.oX 1 [.str ⟨#[]⟩,.int .i64 0,.int .i64 0] [(0,(.r 69))]),op 71 (.app 3 32 false (.r 67) (.r 70)),mv 9 71]) (so [mv 73 8,op 74 (.un .not (.r 73)),mv 72 74]<|.cond (.r 72) (.skip) (so [mv 76 11,mv 77 7,b2 78 .eql 76 77,mv 75 78]<|.cond (.r 75) (.ops [mv 79 9,mv 80 11,fa 81 1 4,l1 82 81,mv 83 11,op 84 (.p4 (.sc .str) (.sl .nil []) false (.r 82) (.r 83)),mv 85 6,cl 86 33 [.r 80,.r 84,.r 85],op 87 (.app 3 32 false (.r 79) (.r 86)),mv 9 87]) (.ops [mv 35 9,mv 36 11,op 37 (.build [.str ⟨#[]⟩,.int .i64 0,.int .i64 0] [(0,1,(.r 36)),(1,1,(.c (.int .i64 0))),(2,1,(.c (.int .i64 1)))]),op 38 (.oX 1 [.str ⟨#[]⟩,.int .i64 0,.int .i64 0] [(0,(.r 37))]),op 39 (.app 3 32 false (.r 35) (.r 38)),mv 9 39])))))))))<|.ops [op 88 (.bin .add (.r 31) (.c (.int .i64 1))),mv 31 88])))<|so [mv 89 9,mv 2 89,op 3 (.aP (.c (.int .i64 0)))]<|.ret⟩
def Dd:An:=⟨[],[]⟩
def yO:Go.Rmp.Fn:=⟨9,2,[.t 4],so [op 4 (.aP (.c (.bool false)))]<|so [mv 5 0,mv 6 1,cl 7 34 [.r 5,.r 6],op 8 (.bin .geq (.r 7) (.c (.int .i64 0))),mv 4 8]<|.ret⟩
def De:An:=⟨[],[]⟩
def yP:Go.Rmp.Fn:=⟨11,1,[.t 2],so [op 1 (.box (.r 0)),op 2 (.aP (.c (.bool false)))]<|so [fa 3 2 1,l1 4 3,op 5 (.bin .neq (.r 4) (.c (.int .i64 1))),mv 6 5,gt 7 6 (.pU 2 (.r 1)),gt 8 6 (.ld 1 false (.r 7)),gt 9 6 (.bin .neq (.r 8) (.c (.int .i64 2))),op 10 (.pick (.r 6) (.r 9) (.c (.bool false))),mv 2 10]<|.ret⟩
def Df:An:=⟨[],[]⟩
def A7:Go.Rmp.Fn:=⟨13,1,[.t 2,.t 3],so [op 2 (.aP (.c (.sl .nil []))),op 3 (.aP (.c (.int .i64 0)))]<|sq (so [mv 4 0,cl 5 39 [.r 4],op 6 (.un .not (.r 5))]<|.cond (.r 6) (so [op 2 (.aP (.c (.sl .nil []))),op 3 (.aP (.c (.int .i64 62)))]<|.ret) (.skip))<|so [mv 7 0,nc 8 7,fa 9 0 8,l1 10 9,cl 11 41 [.r 10],cl 12 40 [.r 11],mv 2 12,op 3 (.aP (.c (.int .i64 0)))]<|.ret⟩
def Dg:An:=⟨[],[]⟩
def A8:Go.Rmp.Fn:=⟨23,2,[.t 4,.t 5],so [op 4 (.aP (.c .bE)),op 5 (.aP (.c (.int .i64 0)))]<|sq (so [mv 8 0,cl 9 39 [.r 8],op 10 (.un .not (.r 9))]<|.cond (.r 10) (so [op 4 (.aP (.c .bE)),op 5 (.aP (.c (.int .i64 62)))]<|.ret) (.skip))<|so [mv 12 0,nc 13 12,fa 14 0 13,l1 15 14,mv 16 1,op 17 (.p4 (.sc .str) .bE true (.r 15) (.r 16)),mv 11 17,xt 18 0 11,xt 19 1 11,mv 6 18,mv 7 19]<|sq (so [mv 20 7,op 21 (.un .not (.r 20))]<|.cond (.r 21) (so [op 4 (.aP (.c .bE)),op 5 (.aP (.c (.int .i64 61)))]<|.ret) (.skip))<|so [mv 22 6,mv 4 22,op 5 (.aP (.c (.int .i64 0)))]<|.ret⟩
def Dh:An:=⟨[],[]⟩
def A9:Go.Rmp.Fn:=⟨11,1,[.t 2],so [op 2 (.aP (.c (.bool false)))]<|so [mv 3 0,op 4 (.len .str (.r 3)),op 5 (.bin .geq (.r 4) (.c (.int .i64 1))),mv 6 5,mt 7 0 6,gt 8 6 (.len .str (.r 7)),gt 9 6 (.bin .leq (.r 8) (.c (.int .i64 32))),op 10 (.pick (.r 6) (.r 9) (.c (.bool false))),mv 2 10]<|.ret⟩
def Di:An:=⟨[],[]⟩
def Ba:Go.Rmp.Fn:=⟨6,1,[.t 2],so [op 2 (.aP (.c (.str ⟨#[]⟩)))]<|so [mv 3 0,cl 4 54 [.r 3,(.c (.int .i64 10))],op 5 (.bin .add (.c (.str ⟨#[108,111,103,46]⟩)) (.r 4)),mv 2 5]<|.ret⟩
def Dj:An:=⟨[],[(10,[(0,true),(1,true),(2,true),(3,true),(4,true),(5,false),(6,true),(7,true),(8,true),(9,false),(10,true)])]⟩
def Bb:Go.Rmp.Fn:=⟨49,1,[.cl 2 2 true,.t 3],so [op 2 (.alloc [.sl .nil [],.bL]),op 3 (.aP (.c (.int .i64 0)))]<|so [op 8 (.mS),op 9 (.build [.sl .nil [],.bL] [(1,1,(.r 8))]),op 4 (.alloc [.sl .nil [],.bL]),se 2 4 9]<|so [op 5 (.aP (.c (.int .i64 0)))]<|sq (so [mv 11 0,cl 12 21 [.r 11],mv 10 12,xt 13 0 10,xt 14 1 10,fa 15 0 4,se 1 15 13,mv 5 14]<|so [mv 16 5,op 17 (.bin .neq (.r 16) (.c (.int .i64 0)))]<|.cond (.r 17) (so [ln 18 2 4,mv 19 5,se 2 2 18,mv 3 19]<|.ret) (.skip))<|sq (so [fa 20 0 4,l1 21 20,iG 22 21,op 23 (.aP (.c (.int .i64 0)))]<|.block 0 (.loop (so [b2 24 .lss 23 22]<|sq (cx 24 0)<|sq (.block 1 (so [ia 25 1 21 23,l1 26 25,mv 7 26]<|sq (so [mv 27 7,op 28 (.bin .neq (.r 27) (.c (.str ⟨#[115,110,97,112]⟩))),mv 29 28,mt 30 7 29,⟨(some 31),.call 32 [.r 30],(some (29,true)),[]⟩,gt 32 29 (.un .not (.r 31)),op 33 (.pick (.r 29) (.r 32) (.c (.bool false)))]<|.cond (.r 33) (.exit 1) (.skip))<|so [fa 35 1 4,l1 36 35,mv 37 7,mv 38 0,mv 39 7,⟨(some 40),.call 57 [.r 38,.r 39],none,[⟨36,.ld 1 false (.r 35),none⟩]⟩,mv 34 40,xt 41 0 34,xt 42 1 34,ef (.wq (.sc .str) (.r 36) (.r 37) (.r 41)),mv 5 42]<|so [mv 43 5,op 44 (.bin .neq (.r 43) (.c (.int .i64 0)))]<|.cond (.r 44) (so [ln 45 2 4,mv 46 5,se 2 2 45,mv 3 46]<|.ret) (.skip)))<|.ops [op 47 (.bin .add (.r 23) (.c (.int .i64 1))),mv 23 47])))<|so [ln 48 2 4,se 2 2 48,op 3 (.aP (.c (.int .i64 0)))]<|.ret⟩
def Dk:An:=⟨[],[]⟩
def Bc:Go.Rmp.Fn:=⟨31,1,[.t 2,.t 3,.t 4],so [op 1 (.box (.r 0)),op 2 (.aP (.c .bE)),op 3 (.aP (.c (.str ⟨#[]⟩))),op 4 (.aP (.c (.bool false)))]<|so [fa 11 1 1,l1 12 11,op 13 (.p4 (.sc .str) (.sl .nil []) true (.r 12) (.c (.str ⟨#[115,110,97,112]⟩))),mv 10 13,xt 14 0 10,xt 15 1 10,mv 5 14,mv 6 15]<|sq (so [mv 16 6,op 17 (.un .not (.r 16))]<|.cond (.r 17) (so [cl 18 9 [],cl 19 27 [(.c (.int .i64 0))],mv 2 18,mv 3 19,op 4 (.aP (.c (.bool true)))]<|.ret) (.skip))<|so [mv 21 5,cl 22 60 [.r 21,(.c (.int .i64 0))],mv 20 22,xt 23 0 20,xt 24 1 20,xt 25 2 20,mv 7 23,mv 8 24,mv 9 25]<|so [mv 26 8,mv 27 7,cl 28 27 [.r 27],mv 29 9,op 30 (.bin .eql (.r 29) (.c (.int .i64 0))),mv 2 26,mv 3 28,mv 4 30]<|.ret⟩
def Dl:An:=⟨[],[]⟩
def yQ:Go.Rmp.Fn:=⟨19,2,[.t 4],so [op 4 (.aP (.c (.int .i64 0)))]<|sq (so [mv 6 0,iG 7 6,op 8 (.aP (.c (.int .i64 0)))]<|.block 0 (.loop (so [b2 9 .lss 8 7]<|sq (cx 9 0)<|sq (.block 1 (so [mv 10 8,mv 5 10]<|so [mv 11 1,mv 12 0,mv 13 5,ia 14 3 12 13,ln 15 3 14,⟨(some 16),.aQ (.r 11) [.r 15],none,[]⟩]<|.cond (.r 16) (so [mv 17 5,mv 4 17]<|.ret) (.skip)))<|.ops [op 18 (.bin .add (.r 8) (.c (.int .i64 1))),mv 8 18])))<|so [op 4 (.aP (.c (.int .i64 (-1))))]<|.ret⟩
def Dm:An:=⟨[],[]⟩
def Bd:Go.Rmp.Fn:=⟨30,1,[.t 2],so [op 2 (.aP (.c (.bool false)))]<|sq (so [mv 3 0,nc 4 3,fa 5 3 4,l1 6 5]<|.cond (.r 6) (so [mv 7 0,nc 8 7,fa 9 4 8,l1 10 9,op 11 (.bin .eql (.r 10) (.c (.int .i64 0)))]<|.cond (.r 11) (.ops [mv 12 0,mv 13 0,nc 14 13,fa 15 5 14,l1 16 15,cl 17 69 [.r 12,.r 16]]) (.ops [mv 18 0,nc 19 18,fa 20 4 19,l1 21 20,op 22 (.bin .sub (.r 21) (.c (.int .i64 1))),nc 23 18,fa 24 4 23,se 1 24 22])) (.skip))<|so [mv 25 0,nc 26 25,fa 27 1 26,l1 28 27,op 29 (.un .not (.r 28)),mv 2 29]<|.ret⟩
def Dn:An:=⟨[],[]⟩
def Be:Go.Rmp.Fn:=⟨9,1,[.t 2],so [op 2 (.aP (.c (.sl .nil [])))]<|so [mv 4 0,cl 5 70 [.r 4],mv 3 5]<|so [mv 6 3,cl 7 71 [.r 6]]<|so [mv 8 3,mv 2 8]<|.ret⟩
def Dp:An:=⟨[],[]⟩
def Bf:Go.Rmp.Fn:=⟨4,1,[.t 2],so [op 1 (.box (.r 0)),op 2 (.aP (.c .dz))]<|so [op 3 (.yW 72 [.r 1]),mv 2 3]<|.ret⟩
def Dq:An:=⟨[],[]⟩
def Bg:Go.Rmp.Fn:=⟨8,2,[.t 4],so [op 4 (.aP (.c (.str ⟨#[]⟩)))]<|so [mv 5 0,mv 6 1,cl 7 83 [.r 5,.r 6],mv 4 7]<|.ret⟩
def Ds:An:=⟨[],[]⟩
def Bh:Go.Rmp.Fn:=⟨22,2,[.t 4,.t 5],so [op 4 (.aP (.c (.sl .nil []))),op 5 (.aP (.c (.int .i64 0)))]<|so [mv 9 0,mv 10 1,cl 11 23 [.r 9,.r 10],mv 8 11,xt 12 0 8,xt 13 1 8,mv 6 12,mv 7 13]<|sq (so [mv 14 7,op 15 (.bin .neq (.r 14) (.c (.int .i64 0)))]<|.cond (.r 15) (so [mv 16 7,op 4 (.aP (.c (.sl .nil []))),mv 5 16]<|.ret) (.skip))<|so [mv 17 6,nc 18 17,fa 19 0 18,l1 20 19,cl 21 80 [.r 20],mv 4 21,op 5 (.aP (.c (.int .i64 0)))]<|.ret⟩
def Dt:An:=⟨[],[(4,[(0,true),(1,true),(2,true),(3,true),(4,true),(5,true),(8,true),(9,true),(10,true),(11,true),(6,false),(7,true),(12,true),(13,true)])]⟩
def Bi:Go.Rmp.Fn:=⟨120,2,[.t 4,.t 5,.t 6],so [op 4 (.aP (.c (.int .i64 0))),op 5 (.aP (.c .bE)),op 6 (.aP (.c (.int .i64 0)))]<|sq (so [mv 20 1,op 21 (.bin .lss (.r 20) (.c (.int .i64 0))),mv 22 21,mf 23 1 22,gf 24 22 (.bin .gtr (.r 23) (.c (.int .i64 1099511627776))),op 25 (.pick (.r 22) (.c (.bool true)) (.r 24))]<|.cond (.r 25) (so [op 4 (.aP (.c (.int .i64 0))),op 5 (.aP (.c .bE)),op 6 (.aP (.c (.int .i64 1)))]<|.ret) (.skip))<|so [mv 26 0,iG 27 26,op 28 (.bin .sub (.r 27) (.c (.int .i64 4))),mv 7 28]<|sq (so [mv 29 7,op 30 (.bin .lss (.r 29) (.c (.int .i64 0))),mv 31 30,mf 32 0 31,mf 33 7 31,gf 34 31 (.tN 1 (.r 32) none (some (.r 33)) none),mf 37 0 31,mf 38 7 31,gf 39 31 (.tN 1 (.r 37) (some (.r 38)) none none),gf 40 31 (.p3 (.r 39)),⟨(some 35),.call 51 [.r 34],(some (31,false)),[⟨40,.p3 (.r 39),(some (31,false))⟩]⟩,gf 36 31 (.p3 (.r 35)),gf 41 31 (.bin .neq (.r 36) (.r 40)),op 42 (.pick (.r 31) (.c (.bool true)) (.r 41))]<|.cond (.r 42) (so [op 4 (.aP (.c (.int .i64 0))),op 5 (.aP (.c .bE)),op 6 (.aP (.c (.int .i64 90)))]<|.ret) (.skip))<|so [mv 43 0,mv 44 7,op 45 (.tN 1 (.r 43) none (some (.r 44)) none),cl 46 84 [.r 45],mv 8 46]<|so [mv 47 8,cl 48 85 [.r 47],mv 49 8,cl 50 86 [.r 49],mv 51 8,cl 52 87 [.r 51],mv 9 48,mv 10 50,mv 11 52]<|sq (so [mv 53 9,op 54 (.bin .neq (.r 53) (.c (.int .u32 1918987632))),mv 55 54,mf 56 10 55,gf 57 55 (.bin .neq (.r 56) (.c (.int .u8 1))),op 58 (.pick (.r 55) (.c (.bool true)) (.r 57)),mv 59 58,mf 60 11 59,gf 61 59 (.bin .lss (.r 60) (.c (.int .u64 1))),op 62 (.pick (.r 59) (.c (.bool true)) (.r 61)),mv 63 62,mf 64 11 63,gf 65 63 (.bin .gtr (.r 64) (.c (.int .u64 9223372036854775807))),op 66 (.pick (.r 63) (.c (.bool true)) (.r 65))]<|.cond (.r 66) (so [op 4 (.aP (.c (.int .i64 0))),op 5 (.aP (.c .bE)),op 6 (.aP (.c (.int .i64 2)))]<|.ret) (.skip))<|so [mv 68 8,cl 69 88 [.r 68],mv 67 69,xt 70 0 67,xt 71 1 67,mv 12 70,mv 13 71]<|so [op 14 (.aP (.c (.sl .nil [])))]<|sq (so [mv 72 8,cl 73 89 [.r 72,(.c (.int .i64 2147483647))],mv 15 73]<|.block 0 (.loop (sq (so [mv 74 15,op 75 (.bin .gtr (.r 74) (.c (.int .i64 0))),mv 76 75,mt 77 8 76,⟨(some 78),.call 90 [.r 77],(some (76,true)),[]⟩,gt 79 76 (.bin .eql (.r 78) (.c (.int .i64 0))),op 80 (.pick (.r 76) (.r 79) (.c (.bool false)))]<|cx 80 0)<|sq (.block 1 (so [mv 83 8,cl 84 91 [.r 83,(.c (.int .i64 65535))],mv 85 8,cl 86 87 [.r 85],mv 87 8,cl 88 91 [.r 87,(.c (.int .i64 65535))],mv 89 8,cl 90 92 [.r 89,(.c (.int .i64 1024)),(.c (.int .i64 65535))],op 91 (.build [.str ⟨#[]⟩,.int .u64 0,.str ⟨#[]⟩,.sl .nil []] [(0,1,(.r 84)),(1,1,(.r 86)),(2,1,(.r 88)),(3,1,(.r 90))]),op 16 (.alloc [.str ⟨#[]⟩,.int .u64 0,.str ⟨#[]⟩,.sl .nil []]),se 4 16 91]<|so [op 17 (.aP (.c (.int .i64 (-1))))]<|sq (so [fa 92 1 16,l1 93 92,mv 94 13,fa 95 0 16,l1 96 95,op 97 (.p4 (.sc .str) (.int .u64 0) false (.r 94) (.r 96)),b2 98 .lss 93 97]<|.cond (.r 98) (.ops [mv 99 1,mv 17 99]) (.skip))<|.ops [mv 100 14,ln 101 4 16,mv 102 17,op 103 (.build [.str ⟨#[]⟩,.int .u64 0,.str ⟨#[]⟩,.sl .nil [],.int .i64 0] [(0,4,(.r 101)),(4,1,(.r 102))]),op 104 (.oX 1 [.str ⟨#[]⟩,.int .u64 0,.str ⟨#[]⟩,.sl .nil [],.int .i64 0] [(0,(.r 103))]),op 105 (.app 5 72 false (.r 100) (.r 104)),mv 14 105]))<|.ops [mv 81 15,op 82 (.bin .sub (.r 81) (.c (.int .i64 1))),mv 15 82])))<|sq (so [mv 106 8,cl 107 93 [.r 106],op 108 (.bin .neq (.r 107) (.c (.int .i64 0)))]<|.cond (.r 108) (so [op 4 (.aP (.c (.int .i64 0))),op 5 (.aP (.c .bE)),op 6 (.aP (.c (.int .i64 2)))]<|.ret) (.skip))<|so [mv 110 14,mv 111 12,cl 112 94 [.r 110,.r 111],mv 109 112,xt 113 0 109,xt 114 1 109,mv 18 113,mv 19 114]<|sq (so [mv 115 19,op 116 (.bin .neq (.r 115) (.c (.int .i64 0)))]<|.cond (.r 116) (so [op 4 (.aP (.c (.int .i64 0))),op 5 (.aP (.c .bE)),op 6 (.aP (.c (.int .i64 2)))]<|.ret) (.skip))<|so [mv 117 11,op 118 (.pT .i64 (.r 117)),mv 119 18,mv 4 118,mv 5 119,op 6 (.aP (.c (.int .i64 0)))]<|.ret⟩
def Du:An:=⟨[],[]⟩
def Bj:Go.Rmp.Fn:=⟨5,1,[.t 2],so [op 2 (.aP (.c (.sl .nil [])))]<|so [mv 3 0,cl 4 104 [(.c (.sl .nil [])),.r 3],mv 2 4]<|.ret⟩
def Dv:An:=⟨[],[]⟩
def Bk:Go.Rmp.Fn:=⟨11,1,[],so [mv 3 0,iG 4 3,mv 2 4]<|.ops [mv 5 0,mv 6 2,mv 7 2,op 8 (.pT .u64 (.r 7)),cl 9 106 [.r 8],cl 10 105 [.r 5,(.c (.int .i64 0)),.r 6,.r 9]]⟩
def Dw:An:=⟨[],[]⟩
def Bl:Go.Rmp.Fn:=⟨14,2,[],so [l1 4 1,op 5 (.yX (.r 4))]<|.block 0 (.loop (so [op 6 (.gW (.r 5)),xt 7 0 6]<|sq (cx 7 0)<|.block 1 (so [op 8 (.yY (.r 5)),xt 9 0 8,mv 3 9]<|so [mv 10 0,mv 11 3,⟨(some 12),.aQ (.r 10) [.r 11],none,[]⟩,op 13 (.un .not (.r 12))]<|.cond (.r 13) (.ret) (.skip))))⟩
def Dx:An:=⟨[],[]⟩
def Bm:Go.Rmp.Fn:=⟨8,1,[.t 2],so [op 2 (.aP (.c (.sl .nil [])))]<|sq (so [mv 3 0,op 4 (.gV false .slice (.r 3) (.c (.sl .nil [])))]<|.cond (.r 4) (so [op 2 (.aP (.c (.sl .nil [])))]<|.ret) (.skip))<|so [op 5 (.oX 0 [.int .u8 0] []),mv 6 0,op 7 (.app 1 1 false (.r 5) (.r 6)),mv 2 7]<|.ret⟩
def Dy:An:=⟨[(9,2),(12,2),(13,2)],[]⟩
def Bn:Go.Rmp.Fn:=⟨54,2,[.t 4],so [op 4 (.aP (.c (.str ⟨#[]⟩)))]<|sq (so [mv 10 1,op 11 (.bin .eql (.r 10) (.c (.int .i64 10)))]<|.cond (.r 11) (sq (so [mv 12 0,op 13 (.bin .leq (.c (.int .i64 0)) (.r 12)),mv 14 13,mt 15 0 14,gt 16 14 (.bin .lss (.r 15) (.c (.int .i64 100))),op 17 (.pick (.r 14) (.r 16) (.c (.bool false)))]<|.cond (.r 17) (so [mv 18 0,cl 19 115 [.r 18],mv 4 19]<|.ret) (.skip))<|so [op 5 (.alloc [.int .u8 0,.int .u8 0,.int .u8 0,.int .u8 0,.int .u8 0,.int .u8 0,.int .u8 0,.int .u8 0,.int .u8 0,.int .u8 0,.int .u8 0,.int .u8 0,.int .u8 0,.int .u8 0,.int .u8 0,.int .u8 0,.int .u8 0,.int .u8 0,.int .u8 0,.int .u8 0,.int .u8 0,.int .u8 0,.int .u8 0,.int .u8 0])]<|so [mv 20 0,op 21 (.pT .u64 (.r 20)),mv 6 21]<|sq (so [mv 22 0,op 23 (.bin .lss (.r 22) (.c (.int .i64 0)))]<|.cond (.r 23) (.ops [mv 24 6,op 25 (.un .neg (.r 24)),mv 6 25]) (.skip))<|so [mv 26 6,cl 27 116 [.r 26],mv 7 27]<|so [mv 28 7,op 29 (.bin .add (.c (.int .i64 1)) (.r 28)),⟨(some 30),.aQ (.c .dz) [],none,[]⟩,mv 31 6,cl 32 117 [.r 30,.r 31]]<|sq (so [mv 33 0,op 34 (.bin .lss (.r 33) (.c (.int .i64 0)))]<|.cond (.r 34) (so [op 35 (.zu 24 1 (.r 5) (.c (.int .i64 0))),ef (.st 1 (.r 35) (.c (.int .u8 45)))]<|so [mv 36 7,op 37 (.bin .add (.c (.int .i64 1)) (.r 36)),⟨(some 38),.aQ (.c .dz) [],none,[]⟩,op 39 (.p3 (.r 38)),mv 4 39]<|.ret) (.skip))<|so [mv 40 7,op 41 (.bin .add (.c (.int .i64 1)) (.r 40)),⟨(some 42),.aQ (.c .dz) [],none,[]⟩,op 43 (.p3 (.r 42)),mv 4 43]<|.ret) (.skip))<|so [mv 45 0,op 46 (.pT .u64 (.r 45)),mv 47 1,mv 48 0,op 49 (.bin .lss (.r 48) (.c (.int .i64 0))),cl 50 118 [(.c (.sl .nil [])),.r 46,.r 47,.r 49,(.c (.bool false))],mv 44 50,xt 51 0 44,xt 52 1 44,mv 8 51,mv 9 52]<|so [mv 53 9,mv 4 53]<|.ret⟩
def Bp:An:=⟨[(3,3)],[]⟩
def xj:Go.Rmp.Fn:=⟨13,2,[.t 4],so [op 2 (.box (.r 0)),op 4 (.aP (.c (.sl .nil [])))]<|sq (so [mv 6 1]<|.block 0 (.bd 13 (.r 6) [7] (.ops [mv 5 7]) (.block 1 (.ops [l1 8 2,mv 9 5,op 10 (.oX 1 [.str ⟨#[]⟩] [(0,(.r 9))]),op 11 (.app 1 16 true (.r 8) (.r 10)),se 1 2 11]))))<|so [l1 12 2,mv 4 12]<|.ret⟩
def Bq:An:=⟨[],[(17,[(0,true),(1,true),(2,true),(3,true),(4,true),(5,true),(6,true),(7,true),(8,true),(9,true),(10,true),(11,true),(12,false),(13,true),(14,true)])]⟩
def xk:Go.Rmp.Fn:=⟨134,4,[],so [op 8 (.aP (.c (.bool true)))]<|so [op 9 (.aP (.c (.bool true)))]<|.block 0 (.loop (.block 1 (so [mv 19 2,mv 20 1,b2 21 .sub 19 20,mv 10 21]<|sq (so [mv 22 10,op 23 (.bin .leq (.r 22) (.c (.int .i64 12)))]<|.cond (.r 23) (so [mv 24 0,mv 25 1,mv 26 2,cl 27 133 [.r 24,.r 25,.r 26]]<|.ret) (.skip))<|sq (so [mv 28 3,op 29 (.bin .eql (.r 28) (.c (.int .i64 0)))]<|.cond (.r 29) (so [mv 30 0,mv 31 1,mv 32 2,cl 33 134 [.r 30,.r 31,.r 32]]<|.ret) (.skip))<|sq (so [mv 34 8,op 35 (.un .not (.r 34))]<|.cond (.r 35) (so [mv 36 0,mv 37 1,mv 38 2,cl 39 135 [.r 36,.r 37,.r 38]]<|.ops [mv 40 3,op 41 (.bin .sub (.r 40) (.c (.int .i64 1))),mv 3 41]) (.skip))<|so [mv 43 0,mv 44 1,mv 45 2,cl 46 136 [.r 43,.r 44,.r 45],mv 42 46,xt 47 0 42,xt 48 1 42,mv 11 47,mv 12 48]<|sq (so [mv 49 12,op 50 (.bin .eql (.r 49) (.c (.int .i64 2)))]<|.cond (.r 50) (so [mv 51 0,mv 52 1,mv 53 2,cl 54 137 [.r 51,.r 52,.r 53]]<|so [mv 55 2,op 56 (.bin .sub (.r 55) (.c (.int .i64 1))),mv 57 11,mv 58 1,b2 59 .sub 57 58,b2 60 .sub 56 59,mv 11 60]<|.ops [op 12 (.aP (.c (.int .i64 1)))]) (.skip))<|sq (so [mv 61 8,mv 62 61,mt 63 9 62,op 64 (.pick (.r 62) (.r 63) (.c (.bool false))),mv 65 64,mt 66 12 65,gt 67 65 (.bin .eql (.r 66) (.c (.int .i64 1))),op 68 (.pick (.r 65) (.r 67) (.c (.bool false)))]<|.cond (.r 68) (so [mv 69 0,mv 70 1,mv 71 2,cl 72 138 [.r 69,.r 70,.r 71]]<|.cond (.r 72) (.ret) (.skip)) (.skip))<|sq (so [mv 73 1,op 74 (.bin .gtr (.r 73) (.c (.int .i64 0))),mv 75 74,mt 76 0 75,mt 77 1 75,gt 78 75 (.bin .sub (.r 77) (.c (.int .i64 1))),gt 79 75 (.nT 1 (.r 76) (.r 78)),gt 80 75 (.ld 1 false (.r 79)),mt 81 0 75,mt 82 11 75,gt 83 75 (.nT 1 (.r 81) (.r 82)),gt 84 75 (.ld 1 false (.r 83)),⟨(some 85),.call 129 [.r 80,.r 84],(some (75,true)),[]⟩,gt 86 75 (.un .not (.r 85)),op 87 (.pick (.r 75) (.r 86) (.c (.bool false)))]<|.cond (.r 87) (so [mv 88 0,mv 89 1,mv 90 2,mv 91 11,cl 92 139 [.r 88,.r 89,.r 90,.r 91],mv 13 92]<|so [mv 93 13,mv 1 93]<|.exit 1) (.skip))<|so [mv 95 0,mv 96 1,mv 97 2,mv 98 11,cl 99 140 [.r 95,.r 96,.r 97,.r 98],mv 94 99,xt 100 0 94,xt 101 1 94,mv 14 100,mv 15 101]<|so [mv 102 15,mv 9 102]<|so [mv 103 14,mv 104 1,b2 105 .sub 103 104,mv 106 2,mv 107 14,b2 108 .sub 106 107,mv 16 105,mv 17 108]<|so [mv 109 10,op 110 (.bin .quo (.r 109) (.c (.int .i64 8))),mv 18 110]<|so [mv 111 16,mv 112 17,b2 113 .lss 111 112]<|.cond (.r 113) (so [mv 114 16,mv 115 18,b2 116 .geq 114 115,mv 8 116]<|so [mv 117 0,mv 118 1,mv 119 14,mv 120 3,cl 121 105 [.r 117,.r 118,.r 119,.r 120]]<|.ops [mv 122 14,op 123 (.bin .add (.r 122) (.c (.int .i64 1))),mv 1 123]) (so [mv 124 17,mv 125 18,b2 126 .geq 124 125,mv 8 126]<|so [mv 127 0,mv 128 14,op 129 (.bin .add (.r 128) (.c (.int .i64 1))),mv 130 2,mv 131 3,cl 132 105 [.r 127,.r 129,.r 130,.r 131]]<|.ops [mv 133 14,mv 2 133]))))⟩
def Br:An:=⟨[],[]⟩
def xl:Go.Rmp.Fn:=⟨8,1,[.t 2],so [op 2 (.aP (.c (.int .i64 0)))]<|sq (.cond (.c (.bool false)) (so [mv 3 0,op 4 (.pT .u32 (.r 3)),cl 5 141 [.r 4],mv 2 5]<|.ret) (.skip))<|so [mv 6 0,cl 7 142 [.r 6],mv 2 7]<|.ret⟩
def Bs:An:=⟨[],[]⟩
def xm:Go.Rmp.Fn:=⟨15,1,[.t 2],so [op 2 (.aP (.c (.str ⟨#[]⟩)))]<|sq (so [mv 3 0,op 4 (.bin .lss (.r 3) (.c (.int .i64 10)))]<|.cond (.r 4) (so [mv 5 0,mv 6 0,op 7 (.bin .add (.r 6) (.c (.int .i64 1))),op 8 (.xr (.c (.str ⟨#[48,49,50,51,52,53,54,55,56,57,97,98,99,100,101,102,103,104,105,106,107,108,109,110,111,112,113,114,115,116,117,118,119,120,121,122]⟩)) (some (.r 5)) (some (.r 7))),mv 2 8]<|.ret) (.skip))<|so [mv 9 0,op 10 (.bin .mul (.r 9) (.c (.int .i64 2))),mv 11 0,op 12 (.bin .mul (.r 11) (.c (.int .i64 2))),op 13 (.bin .add (.r 12) (.c (.int .i64 2))),op 14 (.xr (.c (.str ⟨#[48,48,48,49,48,50,48,51,48,52,48,53,48,54,48,55,48,56,48,57,49,48,49,49,49,50,49,51,49,52,49,53,49,54,49,55,49,56,49,57,50,48,50,49,50,50,50,51,50,52,50,53,50,54,50,55,50,56,50,57,51,48,51,49,51,50,51,51,51,52,51,53,51,54,51,55,51,56,51,57,52,48,52,49,52,50,52,51,52,52,52,53,52,54,52,55,52,56,52,57,53,48,53,49,53,50,53,51,53,52,53,53,53,54,53,55,53,56,53,57,54,48,54,49,54,50,54,51,54,52,54,53,54,54,54,55,54,56,54,57,55,48,55,49,55,50,55,51,55,52,55,53,55,54,55,55,55,56,55,57,56,48,56,49,56,50,56,51,56,52,56,53,56,54,56,55,56,56,56,57,57,48,57,49,57,50,57,51,57,52,57,53,57,54,57,55,57,56,57,57]⟩)) (some (.r 10)) (some (.r 13))),mv 2 14]<|.ret⟩
def Bt:An:=⟨[],[(4,[(0,true),(1,true),(2,true),(3,true),(4,true),(5,true),(6,true),(7,true),(8,true),(9,true),(10,true),(11,true),(12,true),(13,false),(14,true)]),(6,[(0,true),(1,true),(2,true),(3,true),(4,true),(5,true),(6,true),(7,true),(8,true),(9,true),(10,true),(11,true),(12,true),(13,true),(14,true),(15,false),(16,true),(17,false)])]⟩
def xn:Go.Rmp.Fn:=⟨49,3,[],so [mv 8 1,op 9 (.bin .add (.r 8) (.c (.int .i64 1))),mv 6 9]<|.block 0 (.loop (sq (so [mv 10 6,mv 11 2,b2 12 .lss 10 11]<|cx 12 0)<|sq (.block 1 (so [mv 15 6,mv 7 15]<|.block 2 (.loop (sq (so [mv 16 7,mv 17 1,b2 18 .gtr 16 17,mv 19 18,mt 20 0 19,mt 21 7 19,gt 22 19 (.nT 1 (.r 20) (.r 21)),gt 23 19 (.ld 1 false (.r 22)),mt 24 0 19,mt 25 7 19,gt 26 19 (.bin .sub (.r 25) (.c (.int .i64 1))),gt 27 19 (.nT 1 (.r 24) (.r 26)),gt 28 19 (.ld 1 false (.r 27)),⟨(some 29),.call 129 [.r 23,.r 28],(some (19,true)),[]⟩,op 30 (.pick (.r 19) (.r 29) (.c (.bool false)))]<|cx 30 2)<|sq (.block 3 (.ops [mv 33 0,mv 34 7,mv 35 0,mv 36 7,op 37 (.bin .sub (.r 36) (.c (.int .i64 1))),mv 38 0,mv 39 7,op 40 (.bin .sub (.r 39) (.c (.int .i64 1))),ia 41 1 38 40,l1 42 41,mv 43 0,mv 44 7,ia 45 1 43 44,l1 46 45,ia 47 1 33 34,se 1 47 42,ia 48 1 35 37,se 1 48 46]))<|.ops [mv 31 7,op 32 (.bin .sub (.r 31) (.c (.int .i64 1))),mv 7 32]))))<|.ops [mv 13 6,op 14 (.bin .add (.r 13) (.c (.int .i64 1))),mv 6 14]))⟩
def Bu:An:=⟨[],[]⟩
def xo:Go.Rmp.Fn:=⟨25,1,[.t 2],so [op 2 (.aP (.c (.int .i64 0)))]<|sq (so [mv 3 0,op 4 (.bin .geq (.r 3) (.c (.int .u64 4294967296)))]<|.cond (.r 4) (so [mv 5 0,op 6 (.bin .shr (.r 5) (.c (.int .u64 32))),mv 0 6]<|.ops [op 2 (.aP (.c (.int .i64 32)))]) (.skip))<|sq (so [mv 7 0,op 8 (.bin .geq (.r 7) (.c (.int .u64 65536)))]<|.cond (.r 8) (so [mv 9 0,op 10 (.bin .shr (.r 9) (.c (.int .u64 16))),mv 0 10]<|.ops [mv 11 2,op 12 (.bin .add (.r 11) (.c (.int .i64 16))),mv 2 12]) (.skip))<|sq (so [mv 13 0,op 14 (.bin .geq (.r 13) (.c (.int .u64 256)))]<|.cond (.r 14) (so [mv 15 0,op 16 (.bin .shr (.r 15) (.c (.int .u64 8))),mv 0 16]<|.ops [mv 17 2,op 18 (.bin .add (.r 17) (.c (.int .i64 8))),mv 2 18]) (.skip))<|so [mv 19 2,mv 20 0,op 21 (.pT .u8 (.r 20)),op 22 (.zw (.c (.str ⟨#[0,1,2,2,3,3,3,3,4,4,4,4,4,4,4,4,5,5,5,5,5,5,5,5,5,5,5,5,5,5,5,5,6,6,6,6,6,6,6,6,6,6,6,6,6,6,6,6,6,6,6,6,6,6,6,6,6,6,6,6,6,6,6,6,7,7,7,7,7,7,7,7,7,7,7,7,7,7,7,7,7,7,7,7,7,7,7,7,7,7,7,7,7,7,7,7,7,7,7,7,7,7,7,7,7,7,7,7,7,7,7,7,7,7,7,7,7,7,7,7,7,7,7,7,7,7,7,7,8,8,8,8,8,8,8,8,8,8,8,8,8,8,8,8,8,8,8,8,8,8,8,8,8,8,8,8,8,8,8,8,8,8,8,8,8,8,8,8,8,8,8,8,8,8,8,8,8,8,8,8,8,8,8,8,8,8,8,8,8,8,8,8,8,8,8,8,8,8,8,8,8,8,8,8,8,8,8,8,8,8,8,8,8,8,8,8,8,8,8,8,8,8,8,8,8,8,8,8,8,8,8,8,8,8,8,8,8,8,8,8,8,8,8,8,8,8,8,8,8,8,8,8,8,8,8,8]⟩)) (.r 21)),op 23 (.pT .i64 (.r 22)),b2 24 .add 19 23,mv 2 24]<|.ret⟩
theorem c3:au Tryz.prog FL 3=some C9:=by kernel_rfl
theorem c5:au Tryz.prog FM 5=some Eo:=by kernel_rfl
theorem c6:au Tryz.prog FN 6=some Da:=by kernel_rfl
theorem c8:au Tryz.prog FO 8=some Ep:=by kernel_rfl
theorem c9:au Tryz.prog FP 9=some Er:=by kernel_rfl
theorem FQ:au Tryz.prog Db 10=some A5:=by kernel_rfl
theorem FR:au Tryz.prog Dc 14=some A6:=by kernel_rfl
theorem FT:au Tryz.prog Dd 15=some yO:=by kernel_rfl
theorem FU:au Tryz.prog De 16=some yP:=by kernel_rfl
theorem FV:au Tryz.prog Df 21=some A7:=by kernel_rfl
theorem FW:au Tryz.prog Dg 23=some A8:=by kernel_rfl
theorem FX:au Tryz.prog Dh 24=some A9:=by kernel_rfl
theorem FY:au Tryz.prog Di 27=some Ba:=by kernel_rfl
theorem FZ:au Tryz.prog Dj 30=some Bb:=by kernel_rfl
theorem F0:au Tryz.prog Dk 31=some Bc:=by kernel_rfl
theorem F1:au Tryz.prog Dl 34=some yQ:=by kernel_rfl
theorem F2:au Tryz.prog Dm 39=some Bd:=by kernel_rfl
theorem F3:au Tryz.prog Dn 40=some Be:=by kernel_rfl
theorem F4:au Tryz.prog Dp 41=some Bf:=by kernel_rfl
theorem F5:au Tryz.prog Dq 54=some Bg:=by kernel_rfl
theorem F6:au Tryz.prog Ds 57=some Bh:=by kernel_rfl
theorem F7:au Tryz.prog Dt 60=some Bi:=by kernel_rfl
theorem F8:au Tryz.prog Du 70=some Bj:=by kernel_rfl
theorem F9:au Tryz.prog Dv 71=some Bk:=by kernel_rfl
theorem Ga:au Tryz.prog Dw 72=some Bl:=by kernel_rfl
theorem Gb:au Tryz.prog Dx 80=some Bm:=by kernel_rfl
theorem Gc:au Tryz.prog Dy 83=some Bn:=by kernel_rfl
theorem Dz:au Tryz.prog Bp 104=some xj:=by kernel_rfl
theorem DA:au Tryz.prog Bq 105=some xk:=by kernel_rfl
theorem DB:au Tryz.prog Br 106=some xl:=by kernel_rfl
theorem DC:au Tryz.prog Bs 115=some xm:=by kernel_rfl
theorem DD:au Tryz.prog Bt 133=some xn:=by kernel_rfl
theorem DE:au Tryz.prog Bu 142=some xo:=by kernel_rfl
def xp:Nat→Option Go.Rmp.Fn
 | 3=>some C9
 | 5=>some Eo
 | 6=>some Da
 | 8=>some Ep
 | 9=>some Er
 | 10=>some A5
 | 14=>some A6
 | 15=>some yO
 | 16=>some yP
 | 21=>some A7
 | 23=>some A8
 | 24=>some A9
 | 27=>some Ba
 | 30=>some Bb
 | 31=>some Bc
 | 34=>some yQ
 | 39=>some Bd
 | 40=>some Be
 | 41=>some Bf
 | 54=>some Bg
 | 57=>some Bh
 | 60=>some Bi
 | 70=>some Bj
 | 71=>some Bk
 | 72=>some Bl
 | 80=>some Bm
 | 83=>some Bn
 | 104=>some xj
 | 105=>some xk
 | 106=>some xl
 | 115=>some xm
 | 133=>some xn
 | 142=>some xo
 | _=>none
def env:Env:=⟨xp,fun _ _ _ _=>False,fun _ _ _ _ _ h _=>h⟩
theorem Bv:lZ Tryz.prog env where
 mixed:=by kernel_rfl
 fn:=by
  intro f fn h
  simp only[env,xp]at h
  split at h
  ·cases h;exact⟨_,c3⟩
  ·cases h;exact⟨_,c5⟩
  ·cases h;exact⟨_,c6⟩
  ·cases h;exact⟨_,c8⟩
  ·cases h;exact⟨_,c9⟩
  ·cases h;exact⟨_,FQ⟩
  ·cases h;exact⟨_,FR⟩
  ·cases h;exact⟨_,FT⟩
  ·cases h;exact⟨_,FU⟩
  ·cases h;exact⟨_,FV⟩
  ·cases h;exact⟨_,FW⟩
  ·cases h;exact⟨_,FX⟩
  ·cases h;exact⟨_,FY⟩
  ·cases h;exact⟨_,FZ⟩
  ·cases h;exact⟨_,F0⟩
  ·cases h;exact⟨_,F1⟩
  ·cases h;exact⟨_,F2⟩
  ·cases h;exact⟨_,F3⟩
  ·cases h;exact⟨_,F4⟩
  ·cases h;exact⟨_,F5⟩
  ·cases h;exact⟨_,F6⟩
  ·cases h;exact⟨_,F7⟩
  ·cases h;exact⟨_,F8⟩
  ·cases h;exact⟨_,F9⟩
  ·cases h;exact⟨_,Ga⟩
  ·cases h;exact⟨_,Gb⟩
  ·cases h;exact⟨_,Gc⟩
  ·cases h;exact⟨_,Dz⟩
  ·cases h;exact⟨_,DA⟩
  ·cases h;exact⟨_,DB⟩
  ·cases h;exact⟨_,DC⟩
  ·cases h;exact⟨_,DD⟩
  ·cases h;exact⟨_,DE⟩
  ·cases h
 gj:=by intro f az H Q h;exact h.elim
end Go.Proofs.YtaplookbfhicoaaGreatDoor.Ir
end

section
namespace Go.Proofs.YtaplookbfhicoaaGreatDoor.St
open Go.Rmp Go.Proofs.YtaplookbfhicoaaGreatDoor.Ir
set_option maxRecDepth 100000
theorem yR:W env (.call 5 []) [] (fun o _=>o=.val (.bool true)):=.closed (fun _=>0) 100000 [] [] (by kernel_rfl)
end Go.Proofs.YtaplookbfhicoaaGreatDoor.St
end

section
namespace Go.Proofs.YtaplookbfhicoaaGreatDoor.St
open Go.Rmp Go.Proofs.YtaplookbfhicoaaGreatDoor.Ir
set_option maxRecDepth 10000
theorem yS {α:Type}{l:List α}{i:Nat}(h:i<l.length):∃x,l[i]?=some x:=⟨l[i],List.getElem?_eq_getElem h⟩
theorem tM {α:Type}{e:α→List T}{n:Nat}(hn:∀x,(e x).length=n)(h0:n≠0){l:List α}{k:SK}{i:Nat}{x:α}(h:l[i]?=some x):oY n i (.sl k (l.map e))=some (.cq (e x)):=by
 simp -implicitDefEqProofs only[oY,List.getElem?_map,h,Option.map_some,hn,h0,ne_eq,not_false_eq_true,and_self,if_true]
theorem eZ {n:Nat}(h:n<9223372036854775807):IntKind.i64.wrap ((n:Int)+1)=((n+1:Nat):Int):=by
 rw[IntWalk.i64_in _ (by omega)];omega
theorem ku {α:Type}{l:List α}{i:Nat}{x:α}(h:l[i]?=some x):l.take (i+1)=l.take i++[x]:=by
 rw[List.take_add_one,h];rfl
structure Pb where
 file:ByteArray
 at_:Int
 kind:Int
def eP (p:Pb):List T:=[.str p.file,.int .i64 p.at_,.int .i64 p.kind]
def lp (p:Pb):Bool:=p.kind==1||p.kind==2
theorem Bw (p:Pb)(H:aa):W env (.call 16 [.agg (eP p)]) H (fun o H'=>o=.val (.bool (!lp p))∧Ext H H'):=by
 refine W.Ao rfl rfl rfl ?_
 unfold lp
 have hl:(H++[B.cells (eP p)])[H.length]?=some (.cells (eP p)):=bh _ _
 unfold eP at hl
 cases h1:p.kind==1<;>cases h2:p.kind==2
 all_goals
  simp -implicitDefEqProofs only[yP,op,ef,cl,sq,reduceIte,q6,q7,q8,q9,j3,j4,j5,j6,j7,S1,hl,eP,h1,h2,bne,Bool.or_true,Bool.or_false]
  exact⟨_,rfl⟩
theorem wj (k:SK)(l:List Pb)(hl:l.length≤8000000)(H:aa):W env (.call 34 [.sl k (l.map eP),.fn 16 []]) H (fun o H'=>(∃n:Int,o=.val (.int .i64 n)∧(decide (0≤n))=!l.all lp)∧Ext H H'):=by
 refine W.Ao rfl rfl rfl ?_
 simp -implicitDefEqProofs only[yQ,op,ef,cl,sq,reduceIte,q6,q7,q8,q9,j3,j4,j5,j6,j7,S1,List.length_map]
 refine W.tn [(0,_),(1,_),(7,_)] (fun (i:Nat) R H'=>Ext H H'∧R 8=.int .i64 i∧i≤l.length∧(l.take i).all lp=true) (fun i=>l.length-i) 0 ⟨Ext.rfl',rfl,Nat.zero_le _,by simp⟩ ?_
 rintro i R H2⟨hx,g8,hi,ha⟩
 by_cases aA:i<l.length
 ·obtain⟨x,nb⟩:=yS aA
  have i1:=tM (e:=eP) (n:=3) (fun _=>rfl) (by decide) (k:=k) nb
  have zt:=eZ (show i<9223372036854775807 by omega)
  simp -implicitDefEqProofs only[ej,cD,op,ef,cl,sq,reduceIte,q6,q7,q8,q9,j3,j4,j5,j6,j7,S1,List.length_map,g8,aA,cT,i1,eP]
  refine FB _ _ _ _ _ _ _ ?_
  simp -implicitDefEqProofs only[op,ef,cl,sq,reduceIte,q6,q7,q8,q9,j3,j4,j5,j6,j7,S1,nI,List.cons_append,List.nil_append,List.append_nil]
  refine eM _ _ _ _ _ _ _ _ (Bw x H2) ?_
  rintro u H3⟨hu,DF⟩
  cases hu
  have ru:(l.take (i+1)).all lp=lp x:=by rw[ku nb,List.all_append,ha];simp
  cases hs:lp x
  ·simp -implicitDefEqProofs only[op,ef,cl,sq,reduceIte,q6,q7,q8,q9,j3,j4,j5,j6,j7,S1]
   refine⟨⟨_,rfl,?_⟩,hx.trans DF⟩
   have:l.all lp=false:=by
    rw[Bool.eq_false_iff];intro zn
    have:=List.all_eq_true.1 zn x (List.mem_of_getElem? nb)
    rw[hs]at this;cases this
   rw[this]
   exact decide_eq_true (by omega)
  ·simp -implicitDefEqProofs only[op,ef,cl,sq,reduceIte,q6,q7,q8,q9,j3,j4,j5,j6,j7,S1,g8,zt]
   exact⟨i+1,by omega,hx.trans DF,rfl,aA,by rw[ru,hs]⟩
 ·have fe:i=l.length:=by omega
  rw[fe,List.take_length]at ha
  simp -implicitDefEqProofs only[ej,cD,op,ef,cl,sq,reduceIte,q6,q7,q8,q9,j3,j4,j5,j6,j7,S1,List.length_map,g8,aA]
  exact⟨⟨_,rfl,by rw[ha];rfl⟩,hx⟩
theorem nR (k:SK)(l:List Pb)(hl:l.length≤8000000)(H:aa):W env (.call 15 [.sl k (l.map eP),.fn 16 []]) H (fun o H'=>o=.val (.bool (!l.all lp))∧Ext H H'):=by
 refine W.Ao rfl rfl rfl ?_
 simp -implicitDefEqProofs only[yO,op,ef,cl,sq,reduceIte,q6,q7,q8,q9,j3,j4,j5,j6,j7,S1]
 refine eM _ _ _ _ _ _ _ _ (wj k l hl H) ?_
 rintro u H2⟨⟨n,hu,hn⟩,hx⟩
 cases hu
 cases hb:l.all lp<;>rw[hb]at hn
 ·have h0:0≤n:=of_decide_eq_true hn
  simp -implicitDefEqProofs only[op,ef,cl,sq,reduceIte,q6,q7,q8,q9,j3,j4,j5,j6,j7,S1,h0]
  exact hx
 ·have h0:¬0≤n:=of_decide_eq_false hn
  simp -implicitDefEqProofs only[op,ef,cl,sq,reduceIte,q6,q7,q8,q9,j3,j4,j5,j6,j7,S1,h0]
  exact hx
theorem yT (k:SK)(l:List Pb)(hl:l.length≤8000000)(H:aa):W env (.call 6 [.sl k (l.map eP)]) H (fun o H'=>o=.val (.bool (l.all lp))∧Ext H H'):=by
 refine W.Ao rfl rfl rfl ?_
 simp -implicitDefEqProofs only[Da,op,ef,cl,sq,reduceIte,q6,q7,q8,q9,j3,j4,j5,j6,j7,S1]
 refine eM _ _ _ _ _ _ _ _ (nR k l hl H) ?_
 rintro u H2⟨hu,hx⟩
 cases hu
 cases hb:l.all lp
 all_goals
  simp -implicitDefEqProofs only[op,ef,cl,sq,reduceIte,q6,q7,q8,q9,j3,j4,j5,j6,j7,S1]
  exact hx
def fH:Pb:=⟨⟨#[115,112,97,114,101]⟩,0,0⟩
theorem Bx (l:List Pb):(l.map eP).map (·.map T.erase)=l.map eP:=by
 rw[List.map_map];rfl
theorem xq {n b:Nat}(h:n≤16777216)(hb:b≤64):b8 n b=true:=by
 simp -implicitDefEqProofs only[b8,decide_eq_true_eq]
 have:(n+n/4+512)*b≤(n+n/4+512)*64:=Nat.mul_le_mul_left _ hb
 omega
theorem Bz (H:aa)(l:List Pb)(hl:l.length≤8000000):∃k H',gY H 32 .nil [] (l.map eP)=some (.sl k (l.map eP),H')∧Ext H H'∧(k=.nil∨∃t,k=.own t l.length∧H'[t]?=some (.tok l.length)):=by
 cases l with
 | nil=>exact⟨.nil,H,rfl,Ext.rfl',.inl rfl⟩
 | cons a l =>
  refine⟨.own H.length (a :: l).length,H++[.tok (a :: l).length],?_,⟨_,rfl⟩,.inr ⟨_,rfl,bh _ _⟩⟩
  have hr:b8 (0+(a :: l).length) 32=true:=xq (by omega) (by decide)
  have he:=Bx (a :: l)
  simp -implicitDefEqProofs only[List.map_cons]at he
  simp -implicitDefEqProofs only[List.length_cons,Nat.zero_add]at hr
  simp -implicitDefEqProofs only[gY,List.map_cons,List.length_nil,List.length_cons,List.length_map,hr,if_true,List.nil_append,Nat.zero_add,he]
theorem BA (H:aa)(k:SK)(l:List Pb)(hl:l.length≤8000000)(hk:k=.nil∨∃t,k=.own t l.length∧H[t]?=some (.tok l.length)) :
  ∃t H',gY H 32 k (l.map eP) [eP fH]=some (.sl (.own t (l.length+1)) ((l++[fH]).map eP),H'):=by
 have hr:b8 (l.length+1) 32=true:=xq (by omega) (by decide)
 have he:[eP fH].map (·.map T.erase)=[eP fH]:=rfl
 rcases hk with rfl|⟨t,rfl,ht⟩
 ·refine⟨H.length,H++[.tok (l.length+1)],?_⟩
  simp -implicitDefEqProofs only[gY,List.length_map,List.length_cons,List.length_nil,Nat.zero_add,hr,if_true,he,List.map_append,List.map_cons,List.map_nil]
  done
 ·refine⟨t,H.set t (.tok (l.length+1)),?_⟩
  simp -implicitDefEqProofs only[gY,List.length_map,List.length_cons,List.length_nil,Nat.zero_add,hr,if_true,he,List.map_append,List.map_cons,List.map_nil,ht]
  done
theorem wk (k:SK)(l:List Pb)(hl:l.length≤8000000):W env (.call 3 [.sl k (l.map eP)]) [] (fun o _=>o=.val (.bool true)):=by
 refine W.Ao rfl rfl rfl ?_
 simp -implicitDefEqProofs only[C9,op,ef,cl,sq,reduceIte,q6,q7,q8,q9,j3,j4,j5,j6,j7,S1]
 refine eM _ _ _ _ _ _ _ _ yR ?_
 rintro u H1 hu
 cases hu
 simp -implicitDefEqProofs only[op,ef,cl,sq,reduceIte,q6,q7,q8,q9,j3,j4,j5,j6,j7,S1]
 refine W.tn [(0,_)] (fun (i:Nat) R H'=>H'=H1∧R 4=.int .i64 i∧R 3=.bool ((l.take i).all lp)∧i≤l.length) (fun i=>l.length-i) 0 ⟨rfl,rfl,rfl,Nat.zero_le _⟩ ?_
 rintro i R H2⟨rfl,g4,g3,hi⟩
 by_cases aA:i<l.length
 ·obtain⟨x,nb⟩:=yS aA
  have i1:=tM (e:=eP) (n:=3) (fun _=>rfl) (by decide) (k:=k) nb
  have zt:=eZ (show i<9223372036854775807 by omega)
  have ru:(l.take (i+1)).all lp=((l.take i).all lp&&lp x):=by rw[ku nb,List.all_append];simp
  cases ha:(l.take i).all lp
  ·rw[ha]at g3 ru
   simp -implicitDefEqProofs only[ej,cD,op,ef,cl,sq,reduceIte,q6,q7,q8,q9,j3,j4,j5,j6,j7,S1,List.length_map,g4,g3,aA,zt]
   exact⟨i+1,by omega,rfl,by rw[ru];rfl,aA⟩
  ·rw[ha]at g3 ru
   have kz:lp x=(x.kind==1||x.kind==2):=rfl
   cases h1:x.kind==1<;>cases h2:x.kind==2
   all_goals
    simp -implicitDefEqProofs only[ej,cD,op,ef,cl,sq,reduceIte,q6,q7,q8,q9,j3,j4,j5,j6,j7,S1,List.length_map,g4,g3,aA,zt,cT,i1,eP,h1,h2]
    exact⟨i+1,by omega,rfl,by rw[ru,kz,h1,h2];rfl,aA⟩
 ·have fe:i=l.length:=by omega
  rw[fe,List.take_length]at g3
  simp -implicitDefEqProofs only[ej,cD,op,ef,cl,sq,reduceIte,q6,q7,q8,q9,j3,j4,j5,j6,j7,S1,List.length_map,g4,g3,aA]
  obtain⟨k1,H3,e1,DF,zN⟩:=Bz H2 l hl
  obtain⟨t,H4,e2⟩:=BA H3 k1 l hl zN
  have Es:gY H3 32 k1 (l.map eP) [[.str ⟨#[115,112,97,114,101]⟩,.int .i64 0,.int .i64 0]]=_:=e2
  have dR:((l.map eP).all fun x=>x.length==3)=true:=by rw[List.all_eq_true];intro c hc;obtain⟨p,_,rfl⟩:=List.mem_map.1 hc;rfl
  obtain⟨m,hm⟩:∃m,m=l++[fH]:=⟨_,rfl⟩
  rw[←hm]at e2 Es
  have BB:((m.map eP).all fun x=>x.length==3)=true:=by rw[List.all_eq_true];intro c hc;obtain⟨p,_,rfl⟩:=List.mem_map.1 hc;rfl
  have GC:m.length=l.length+1:=by rw[hm];simp
  have ay:(0≤l.length∧l.length≤m.length∧((m.map eP).all fun x=>x.length==3)=true)=True:=by
   simp -implicitDefEqProofs only[BB,and_true,Nat.zero_le,true_and,eq_iff_iff,iff_true];omega
  have BC:(m.map eP).take l.length=l.map eP:=by rw[←List.map_take,hm,List.take_left]
  simp -implicitDefEqProofs only[op,ef,cl,sq,reduceIte,q6,q7,q8,q9,j3,j4,j5,j6,j7,S1,dR,e1,Es,ay,BC]
  refine eM _ _ _ _ _ _ _ _ (yT _ l hl H4) ?_
  rintro u H5⟨hu,GD⟩
  cases hu
  simp -implicitDefEqProofs only[op,ef,cl,sq,reduceIte,q6,q7,q8,q9,j3,j4,j5,j6,j7,S1]
  refine W.tn [(0,_),(3,_),(5,_),(6,_)] (fun (i:Nat) R H'=>R 7=.int .i64 i∧i≤l.length) (fun i=>l.length-i) 0 ⟨rfl,Nat.zero_le _⟩ ?_
  rintro j R H6⟨g7,hj⟩
  by_cases BD:j<l.length
  ·obtain⟨x,nb⟩:=yS BD
   have DG:m[j]?=some x:=by rw[hm,List.getElem?_append_left BD];exact nb
   have i1:=tM (e:=eP) (n:=3) (fun _=>rfl) (by decide) (k:=k) nb
   have i2:=tM (e:=eP) (n:=3) (fun _=>rfl) (by decide) (k:=.own t (l.length+1)) DG
   have zt:=eZ (show j<9223372036854775807 by omega)
   have hq:aH [.str x.file,.int .i64 x.at_,.int .i64 x.kind] [.str x.file,.int .i64 x.at_,.int .i64 x.kind]=some true:=by simp[aH,du,b6]
   have hh:hasAll [.str,.int,.int] [.str x.file,.int .i64 x.at_,.int .i64 x.kind]=true:=rfl
   simp -implicitDefEqProofs only[ej,cD,op,ef,cl,sq,reduceIte,q6,q7,q8,q9,j3,j4,j5,j6,j7,S1,List.length_map,g7,g3,BD,cT,i1,i2,zt,eP,hq,hh]
   exact⟨j+1,by omega,rfl,BD⟩
  ·have fe:j=l.length:=by omega
   have DG:m[l.length]?=some fH:=by rw[hm];simp
   have i2:=tM (e:=eP) (n:=3) (fun _=>rfl) (by decide) (k:=.own t (l.length+1)) DG
   simp -implicitDefEqProofs only[ej,cD,op,ef,cl,sq,reduceIte,q6,q7,q8,q9,j3,j4,j5,j6,j7,S1,List.length_map,g7,g3,BD,cT,i2,eP,fH]
   done
end Go.Proofs.YtaplookbfhicoaaGreatDoor.St
end

section
namespace Go.Proofs.YtaplookbfhicoaaGreatDoor
open Go.ChangeShapes Go.WideShapes Go.ChangeAt Go.RowKit
namespace Law
theorem own:ownKnob Tryz.prog.godebug=none:=by kernel_rfl
theorem kids:Kids Tryz.prog (·<Tryz.prog.types.size):=kids_rows (by kernel_rfl) (by kernel_rfl)
noncomputable def Ge:Bool:=(List.range Tryz.prog.types.size).all fun t=>match Tryz.prog.underlying t with
 | some (.slice e)=>decide (0<Tryz.prog.cellsOf e)
 | _=>true
theorem yU:Ge=true:=by kernel_rfl
theorem hz:∀t e,t<Tryz.prog.types.size→Tryz.prog.underlying t=some (.slice e)→0<Tryz.prog.cellsOf e:=fun t e ht h=>by
 have:=(List.all_eq_true.1 yU) t (List.mem_range.2 ht)
 rw[h]at this
 simpa using this
mutual
theorem ic {H:Type}:∀d:DataW H,Go.Rmp.aE d=Rows.uptoBulk d
 | .lit l=>by cases l<;>simp[Go.Rmp.aE,Rows.uptoBulk]
 | .nil=>by simp[Go.Rmp.aE,Rows.uptoBulk]
 | .ptr d=>by simp[Go.Rmp.aE,Rows.uptoBulk,ic d]
 | .slice elems spare=>by simp[Go.Rmp.aE,Rows.uptoBulk,eQ elems,eQ spare]
 | .agg parts=>by simp[Go.Rmp.aE,Rows.uptoBulk,eQ parts]
 | .iface _ d=>by simp[Go.Rmp.aE,Rows.uptoBulk,ic d]
 | .map entries=>by simp[Go.Rmp.aE,Rows.uptoBulk,mK entries]
 | .held _=>by simp[Go.Rmp.aE,Rows.uptoBulk]
theorem eQ {H:Type}:∀l:List (DataW H),Go.Rmp.aC l=Rows.uptoBulkAll l
 | []=>by simp[Go.Rmp.aC,Rows.uptoBulkAll]
 | d :: r=>by simp[Go.Rmp.aC,Rows.uptoBulkAll,ic d,eQ r]
theorem mK {H:Type}:∀l:List (Lit×DataW H),Go.Rmp.bZ l=Rows.uptoBulkEntries l
 | []=>by simp[Go.Rmp.bZ,Rows.uptoBulkEntries]
 | x :: r=>by simp[Go.Rmp.bZ,Rows.uptoBulkEntries,pS x,mK r]
theorem pS {H:Type}:∀x:Lit×DataW H,Go.Rmp.fC x=Rows.uptoBulkEntry x
 | (l,d)=>by cases l<;>simp[Go.Rmp.fC,Rows.uptoBulkEntry,ic d]
end
theorem wm {H:Type}{ds:List (DataW H)}(h:Rows.uptoSmall H ds=true):Go.Rmp.aC ds≤1048576:=by
 rw[eQ];simpa[Rows.uptoSmall]using h
theorem DH {B:Nat}{t:Go.Rmp.T}(h:Go.Rmp.bX B .str t):∃s,t=.str s∧s.size≤B:=by
 cases h with|str h hB=>exact⟨_,rfl,hB⟩
theorem BE {B:Nat}{t:Go.Rmp.T}(h:Go.Rmp.bX B (.int .i64) t):∃n:Int,t=.int .i64 n∧-9223372036854775808≤n∧n<9223372036854775808:=by
 cases h with|int h =>
  rename_i n
  exact⟨n,rfl,by simp -implicitDefEqProofs only[Lit.wf,IntKind.min,IntKind.max,IntKind.signed,IntKind.bits]at h;simp at h;omega⟩
end Law
namespace Law
theorem yV {B:Nat}{t:Go.Rmp.T}(h:Go.Rmp.bX B (.sl [.str,.int .i64,.int .i64]) t):∃(k:Go.Rmp.SK) (l:List St.Pb),t=.sl k (l.map St.eP)∧l.length≤B:=by
 cases h with
 | nil=>exact⟨.nil,[],rfl,Nat.zero_le _⟩
 | sl hl hB h0 h =>
  rename_i es
  have key:∀es:List (List Go.Rmp.T),(∀c∈es,∃p:St.Pb,c=St.eP p)→∃l:List St.Pb,es=l.map St.eP:=by
   intro es
   induction es with
   | nil=>exact fun _=>⟨[],rfl⟩
   | cons c es ih =>
    intro hh
    obtain⟨p,rfl⟩:=hh c (by simp)
    obtain⟨l,rfl⟩:=ih fun c hc=>hh c (by simp[hc])
    exact⟨p :: l,rfl⟩
  obtain⟨l,rfl⟩:=key es fun c hc=>by
   have qB:=h0 c hc
   match c,qB with
   | [a,b,d],_ =>
    obtain⟨s,rfl,_⟩:=DH (h _ hc 0 .str a rfl rfl)
    obtain⟨n,rfl,_⟩:=BE (h _ hc 1 (.int .i64) b rfl rfl)
    obtain⟨m,rfl,_⟩:=BE (h _ hc 2 (.int .i64) d rfl rfl)
    exact⟨⟨s,n,m⟩,rfl⟩
  exact⟨.arg,l,rfl,by simpa using hB⟩
noncomputable def gI (os:Os):World :=
 { World.holding Tryz.prog os ⟨#[.cells #[.string ⟨#[105,110,118,97,108,105,100,32,115,121,110,116,97,120]⟩] 258,.cells #[.string ⟨#[118,97,108,117,101,32,111,117,116,32,111,102,32,114,97,110,103,101]⟩] 258],#[],[]⟩with heap:=((((((World.holding Tryz.prog os ⟨#[.cells #[.string ⟨#[105,110,118,97,108,105,100,32,115,121,110,116,97,120]⟩] 258,.cells #[.string ⟨#[118,97,108,117,101,32,111,117,116,32,111,102,32,114,97,110,103,101]⟩] 258],#[],[]⟩).heap.modify 0 fun | .cells _ t frozen=>.cells #[.int .u64 1,.int .u64 10,.int .u64 100,.int .u64 1000,.int .u64 10000,.int .u64 100000,.int .u64 1000000,.int .u64 10000000,.int .u64 100000000,.int .u64 1000000000,.int .u64 10000000000,.int .u64 100000000000,.int .u64 1000000000000,.int .u64 10000000000000,.int .u64 100000000000000,.int .u64 1000000000000000,.int .u64 10000000000000000,.int .u64 100000000000000000,.int .u64 1000000000000000000,.int .u64 10000000000000000000] t frozen|o=>o).modify 3 fun | .cells _ t frozen=>.cells #[.int .u8 0,.int .u8 1,.int .u8 28,.int .u8 2,.int .u8 29,.int .u8 14,.int .u8 24,.int .u8 3,.int .u8 30,.int .u8 22,.int .u8 20,.int .u8 15,.int .u8 25,.int .u8 17,.int .u8 4,.int .u8 8,.int .u8 31,.int .u8 27,.int .u8 13,.int .u8 23,.int .u8 21,.int .u8 19,.int .u8 16,.int .u8 7,.int .u8 26,.int .u8 12,.int .u8 18,.int .u8 6,.int .u8 11,.int .u8 5,.int .u8 10,.int .u8 9] t frozen|o=>o).modify 4 fun | .cells _ t frozen=>.cells #[.int .u8 0,.int .u8 1,.int .u8 56,.int .u8 2,.int .u8 57,.int .u8 49,.int .u8 28,.int .u8 3,.int .u8 61,.int .u8 58,.int .u8 42,.int .u8 50,.int .u8 38,.int .u8 29,.int .u8 17,.int .u8 4,.int .u8 62,.int .u8 47,.int .u8 59,.int .u8 36,.int .u8 45,.int .u8 43,.int .u8 51,.int .u8 22,.int .u8 53,.int .u8 39,.int .u8 33,.int .u8 30,.int .u8 24,.int .u8 18,.int .u8 12,.int .u8 5,.int .u8 63,.int .u8 55,.int .u8 48,.int .u8 27,.int .u8 60,.int .u8 41,.int .u8 37,.int .u8 16,.int .u8 46,.int .u8 35,.int .u8 44,.int .u8 21,.int .u8 52,.int .u8 32,.int .u8 23,.int .u8 11,.int .u8 54,.int .u8 26,.int .u8 40,.int .u8 15,.int .u8 34,.int .u8 20,.int .u8 31,.int .u8 10,.int .u8 25,.int .u8 14,.int .u8 19,.int .u8 9,.int .u8 13,.int .u8 8,.int .u8 7,.int .u8 6] t frozen|o=>o).modify 1 fun | .cells _ t frozen=>.cells #[.iface 256 (.pointer (some ⟨10,0,none⟩))] t frozen|o=>o).modify 2 fun | .cells _ t frozen=>.cells #[.iface 256 (.pointer (some ⟨11,0,none⟩))] t frozen|o=>o) }
theorem kY (tP:List Go.Rmp.T)(hs:Go.Rmp.fD 1048576 [.sl [.str,.int .i64,.int .i64]] tP):Go.Rmp.W Ir.env (.call 3 tP) [] (fun o _=>o=.val (.bool true)):=by
 cases hs with|cons h1 hs =>
 cases hs
 obtain⟨k,l,rfl,hl⟩:=yV h1
 exact St.wk k l (by omega)
theorem jw (H:Type):∀ds:List (DataW H),ds.length=Tryz.f3.params.toList.length→Rows.fsckSoundsSpec.fn H ds={ results:=[.lit (.bool true)],args:=ds }:=by
 have hn:Tryz.f3.params.toList.length=1:=by kernel_rfl
 rw[hn]
 intro ds qZ
 cases ds with|nil=>simp at qZ|cons d0 ds =>
 cases ds with|cons=>simp at qZ|nil =>
 rfl
theorem je (os:Os):laidMet Tryz.prog Rows.fsckSoundsUptoRow.laid ((gI os).forCall (fun _ _=>0) ⟨#[],#[.slice .none 0 0],[]⟩).memory :=
 laidMet_of_run' 8 (by kernel_rfl) (by kernel_rfl)
theorem gJ (os:Os){H:Type}(enc:TypeId×Value→H):∃places,DataW.whole enc Tryz.prog ((gI os).forCall (fun _ _=>0) ⟨#[],#[.slice .none 0 0],[]⟩).memory Tryz.f3.params.toList Rows.fsckSoundsSpec.vars false (#[.slice .none 0 0]:Array Value).toList 8=some ([.nil],[],places) :=
 ⟨[],by kernel_rfl⟩
set_option maxRecDepth 100000 in
theorem gb (os:Os)(started:os.Started)(H:Type)(enc:TypeId×Value→H)(F:Stop.Interp) :
  ReturnsInHanded {} Tryz.checked os 3 .any ((Rows.OpenSpec.upto Rows.fsckSoundsSpec).preRow enc Tryz.prog Tryz.f3 Rows.fsckSoundsUptoRow.domain false Rows.fsckSoundsUptoRow.laid) (((Rows.OpenSpec.upto Rows.fsckSoundsSpec).at F).post enc Tryz.prog Tryz.f3 false true false false):=by
 obtain⟨places,hx⟩:=gJ os enc
 refine returnsInHanded_of_row (C:=Tryz.checked) (s:=Rows.OpenSpec.upto Rows.fsckSoundsSpec) own started (by kernel_rfl) Tryz.func3
  (witness_row_at (enc:=enc) (C:=Tryz.checked) false (gI os) #[.slice .none 0 0] rfl (by kernel_rfl) (by kernel_rfl) (by kernel_rfl)
   (OpenSpec.preRow_of_cond 8 hx (by kernel_rfl) (fun k hk=>by cases hk;kernel_rfl) (by kernel_rfl) (je os))) ?_
 intro W base args ds gs before me hW _ hk _ hL _ _
 exact Go.Rmp.kQ (s:=Rows.fsckSoundsSpec) (p0:=[.sl [.str,.int .i64,.int .i64]]) (B:=1048576) (tb:=Tryz.f3.resultTypes[0]!) Ir.Bv kids hz (by kernel_rfl) (by intro t ht;exact of_decide_eq_true ((List.all_eq_true.1 (show Tryz.f3.params.toList.all (fun t=>decide (t<Tryz.prog.types.size))=true by kernel_rfl)) t ht)) (by kernel_rfl) (by kernel_rfl) rfl (jw H) kY base args ds gs before me hW (wm (hk _ rfl))
theorem hJ:Rows.FsckSoundsUptoSaid :=
 OpenClaim.holds_of_cond 3 Tryz.f3 rfl rfl rfl rfl rfl rfl rfl ⟨rfl,rfl,rfl,rfl,rfl⟩ rfl rfl rfl rfl rfl (by kernel_rfl) Tryz.func3 (by kernel_rfl)
  (of_decide_eq_true (by kernel_rfl)) (by unfold Func.isWrapper;first|(rw[if_pos (by decide +kernel)];kernel_rfl)|(rw[if_neg (by decide +kernel)];exact⟨rfl,rfl⟩))
  (fun os started H enc _ F=>by rw[OpenClaim.pre_eq_preRow];exact gb os started H enc F)
theorem gK (f:FuncId)(fn:Func)(hf:Tryz.pinned.checked.prog.funcNamed Rows.fsckSoundsUptoRow.func=some f)(jV:Tryz.pinned.checked.prog.funcs[f]?=some fn) :
  true=Tryz.pinned.checked.prog.looks []∧∀(j:Nat) t,fn.params[j]?=some t→Tryz.pinned.checked.prog.wantsStandIn t=false:=by
 obtain rfl:f=3:=Option.some.inj ((show Tryz.prog.funcNamed Rows.fsckSoundsUptoRow.func=some 3 by kernel_rfl).symm.trans hf) |>.symm
 obtain rfl:fn=Tryz.f3:=(Option.some.inj (Tryz.func3.symm.trans jV)).symm
 refine⟨by kernel_rfl,fun j t ht=>?_⟩
 have h:=(List.all_eq_true.1 (show Tryz.f3.params.toList.all (fun t=>!Tryz.prog.wantsStandIn t)=true by kernel_rfl)) t (Array.mem_toList_iff.2 (Array.mem_of_getElem? ht))
 have h2:Tryz.prog.wantsStandIn t=false:=by simpa using h
 exact h2
theorem fsckSounds_proved:Rows.FsckSoundsUptoCardSaid :=
 Claim7.holds_tied_plain_at .later [] _ _ _ _ hJ (fun _ h=>by cases h) (by kernel_rfl) (fun _ h=>by cases h) fsckSoundsUpto_row_tie rfl ⟨rfl,rfl⟩ (by kernel_rfl) rfl gK (by kernel_rfl)
end Law
end Go.Proofs.YtaplookbfhicoaaGreatDoor
end
