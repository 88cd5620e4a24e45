/- Part of a proof of a law of this seat: the machine of plain values, its simulation, and the contracts of the functions that the law reaches. Conditions: none beyond the given row. -/
import Derived.Test.YtimbcmkkegikgaaGreatDoorM1
import Derived.Lib.LaidTab
import Derived.Lib.ItoaNum
import Derived.Sort.Grow
import Derived.Deep.Draws
import Derived.Shelf.Strconv.Itoa4
import Derived.Test.YtimbcmkkegikgaaGreatDoorProg
import Derived.KernelRfl
import Derived.Test.YtimbcmkkegikgaaGreatDoorRows
import Derived.WalkKit
import Derived.ProofKit
import Derived.OpenShut
import Derived.JoinedCond
import Derived.ChangeBears
import Derived.Test.YtimbcmkkegikgaaGreatDoorCards
import Derived.Test.YtimbcmkkegikgaaGreatDoorTie
import Derived.Deep.DeepHandedRow
open Int renaming reduceLT → q6, reduceLE → q7, reduceBEq → q8, reduceBNe → q9, reduceEq → j3
open Nat renaming reduceAdd → j4, reduceLeDiff → j5, reduceLT → j6, reduceEqDiff → j7
set_option linter.unusedSimpArgs false
set_option linter.unusedVariables false
set_option linter.unnecessarySimpa false
set_option maxHeartbeats 4000000
section
namespace Go.Rmp
theorem kc (l:List T):(T.agg l).cells?=some l:=rfl
theorem kd (k:IntKind)(n:Int):(T.int k n).cells?=some [.int k n]:=rfl
theorem ke (s:ByteArray):(T.str s).cells?=some [.str s]:=rfl
theorem iW (s:Bool):(T.bool s).cells?=some [.bool s]:=rfl
theorem mr (k:SK)(l:List (List T)):(T.sl k l).cells?=some [.sl k l]:=rfl
theorem kf (a b c d:Nat):(T.aQ a b c d).cells?=some [.aQ a b c d]:=rfl
theorem kg (b:Nat):(T.map b).cells?=some [.map b]:=rfl
theorem ki (a b:Nat):(T.ptr a b).cells?=some [.ptr a b]:=rfl
theorem iX:(T.b9).cells?=some [.b9]:=rfl
theorem iY:(T.aL).cells?=some [.aL]:=rfl
theorem Bw (v:T):o8 [v]=v:=rfl
theorem Bx (v w:T):o8 [v,w]=.bo [v,w]:=rfl
theorem Bz (v w x:T):o8 [v,w,x]=.bo [v,w,x]:=rfl
theorem sC (k:IntKind)(n:Int):(T.int k n).erase=.int k n:=rfl
theorem sD (s:ByteArray):(T.str s).erase=.str s:=rfl
theorem oQ (s:Bool):(T.bool s).erase=.bool s:=rfl
theorem xk (k:SK)(l:List (List T)):(T.sl k l).erase=.sl .arg l:=rfl
theorem sE (a b:Nat):(T.ptr a b).erase=.ptr a b:=rfl
theorem sF (b:Nat):(T.map b).erase=.map b:=rfl
theorem oS:(T.b9).erase=.b9:=rfl
theorem oT:(T.aL).erase=.aL:=rfl
theorem xl (H:aa)(n:Nat)(k:SK)(es:List (List T)):aH H n (.sl k es)=if es.all (·.length==n)then some es else none:=rfl
theorem sG (R:ai):av R Option.none=true:=rfl
theorem sH (p:Prop):(True→p)=p:=by simp
theorem xm (p:Prop):(p→True)=True:=by simp
theorem xn (p:Prop):(true=true→p)=p:=by simp
theorem xo (p:Prop):(false=true→p)=True:=by simp
theorem sI (b:Bool):yD .not (.bool b)=some (.bool !b):=rfl
theorem sJ (k:IntKind)(a b:Int):aO .add (.int k a) (.int k b)=some (.int k (k.wrap (a+b))):=by simp[aO]
theorem sK (k:IntKind)(a b:Int):aO .sub (.int k a) (.int k b)=some (.int k (k.wrap (a-b))):=by simp[aO]
theorem sL (k:IntKind)(a b:Int):aO .mul (.int k a) (.int k b)=some (.int k (k.wrap (a*b))):=by simp[aO]
theorem sM (k:IntKind)(a b:Int):aO .quo (.int k a) (.int k b)=if b=0 then none else some (.int k (k.wrap (a.tdiv b))):=by simp[aO]
theorem sN (k:IntKind)(a b:Int):aO .rem (.int k a) (.int k b)=if b=0 then none else some (.int k (a.tmod b)):=by simp[aO]
theorem sO (k k':IntKind)(a b:Int):aO .shl (.int k a) (.int k' b)=if b<0 then none else some (.int k (k.wrap (a*2^(min b.toNat k.bits)))):=by simp[aO]
theorem sP (k k':IntKind)(a b:Int):aO .shr (.int k a) (.int k' b)=if b<0 then none else some (.int k (a.fdiv (2^(min b.toNat k.bits)))):=by simp[aO]
theorem sQ (k:IntKind)(a b:Int):aO .and (.int k a) (.int k b)=some (.int k (k.wrap (BitVec.ofInt k.bits a &&& BitVec.ofInt k.bits b).toNat)):=by simp[aO]
theorem xp (k:IntKind)(a b:Int):aO .or (.int k a) (.int k b)=some (.int k (k.wrap (BitVec.ofInt k.bits a ||| BitVec.ofInt k.bits b).toNat)):=by simp[aO]
theorem sR (k:IntKind)(a b:Int):aO .xor (.int k a) (.int k b)=some (.int k (k.wrap (BitVec.ofInt k.bits a ^^^ BitVec.ofInt k.bits b).toNat)):=by simp[aO]
theorem sS (k:IntKind)(a b:Int):aO .eql (.int k a) (.int k b)=some (.bool (a==b)):=by simp[aO]
theorem sU (k:IntKind)(a b:Int):aO .neq (.int k a) (.int k b)=some (.bool (a != b)):=by simp[aO]
theorem sV (k:IntKind)(a b:Int):aO .lss (.int k a) (.int k b)=some (.bool (a<b)):=by simp[aO]
theorem sW (k:IntKind)(a b:Int):aO .leq (.int k a) (.int k b)=some (.bool (a≤b)):=by simp[aO]
theorem sX (k:IntKind)(a b:Int):aO .gtr (.int k a) (.int k b)=some (.bool (b<a)):=by simp[aO]
theorem sY (k:IntKind)(a b:Int):aO .geq (.int k a) (.int k b)=some (.bool (b≤a)):=by simp[aO]
theorem sZ (a b:ByteArray):aO .eql (.str a) (.str b)=some (.bool (decide (a=b))):=by simp[aO,cE]
theorem s0 (a b:ByteArray):aO .neq (.str a) (.str b)=some (.bool (!decide (a=b))):=by simp[aO,cE]
theorem s7 (a b:ByteArray):aO .lss (.str a) (.str b)=some (.bool (strLt a b)):=by rfl
theorem s8 (a b:ByteArray):aO .leq (.str a) (.str b)=some (.bool (!strLt b a)):=by have:=not_le b a;simp only[aO,Option.some.injEq,T.bool.injEq];rw[←this];simp
theorem s9 (a b:ByteArray):aO .gtr (.str a) (.str b)=some (.bool (strLt b a)):=by have:=not_le b a;simp only[aO,Option.some.injEq,T.bool.injEq];exact this
theorem ta (a b:ByteArray):aO .geq (.str a) (.str b)=some (.bool (!strLt a b)):=by rfl
theorem td (a b:ByteArray):aO .add (.str a) (.str b)=if a.size+b.size≤9223372036854775807 then some (.str (a++b))else none:=rfl
theorem te (a b:Nat):decide ((a:Int)<(no_index (OfNat.ofNat b)))=decide (a<OfNat.ofNat b):=D1 a b
theorem tf (a b:Nat):decide ((no_index (OfNat.ofNat b):Int)<(a:Int))=decide (OfNat.ofNat b<a):=D1 b a
theorem tg (a b:Nat):decide ((a:Int)≤(no_index (OfNat.ofNat b)))=decide (a≤OfNat.ofNat b):=D2 a b
theorem th (a b:Nat):decide ((no_index (OfNat.ofNat b):Int)≤(a:Int))=decide (OfNat.ofNat b≤a):=D2 b a
theorem ti (a b:Nat):((a:Int)==(no_index (OfNat.ofNat b)))=decide (a=OfNat.ofNat b):=D3 a b
theorem tj (a b:Nat):((a:Int) != (no_index (OfNat.ofNat b)))=!decide (a=OfNat.ofNat b):=E4 a b
set_option linter.defProp false in
theorem tn (n:Nat)(a b:T)(z cs:List T):gP n (a :: b :: z) cs=.cells cs:=by
 have:yE n (a :: b :: z)=false:=by
  unfold yE
  split
  ·rename_i h;cases h
  ·rfl
 simp only[gP,this,Bool.false_eq_true,if_false]
theorem mw (n:Nat)(a:Int)(cs:List T):gP n [.int .u64 a] cs=.cells cs:=rfl
theorem my (n:Nat)(a:Int)(cs:List T):gP n [.int .i64 a] cs=.cells cs:=rfl
theorem mz (n:Nat)(a:ByteArray)(cs:List T):gP n [.str a] cs=.cells cs:=rfl
theorem oU (n:Nat)(k:SK)(es:List (List T))(cs:List T):gP n [.sl k es] cs=.cells cs:=rfl
theorem tp (a:Int)(cs:List T):gP 0 [.int .u8 a] cs=.cells cs:=rfl
set_option maxRecDepth 5000 in
theorem S1:type_of% (And.intro (@tn)<|And.intro (@mw)<|And.intro (@my)<|And.intro (@mz)<|And.intro (@oU)<|And.intro (@tp)<|And.intro (@Bl)<|And.intro (@ae.eq_37)<|And.intro (@ae.eq_38)<|And.intro (@ae.eq_43)<|And.intro (@ae.eq_44)<|And.intro (@ae.eq_45)<|And.intro (@Bp)<|And.intro (@Bq)<|And.intro (@Br)<|And.intro (@cX.eq_1)<|And.intro (@cX.eq_2)<|And.intro (@sG)<|And.intro (@sH)<|And.intro (@xm)<|And.intro (@xn)<|And.intro (@xo)<|And.intro (@rM)<|And.intro (@List.nil_append.{0})<|And.intro (@List.append_nil.{0})<|And.intro (@List.cons_append.{0})<|And.intro (@sC)<|And.intro (@sD)<|And.intro (@oQ)<|And.intro (@xk)<|And.intro (@sE)<|And.intro (@sF)<|And.intro (@oS)<|And.intro (@oT)<|And.intro (@xl)<|And.intro (@bV.eq_1)<|And.intro (@bV.eq_2)<|And.intro (@eY.eq_1)<|And.intro (@eY.eq_2)<|And.intro (@dB.eq_1)<|And.intro (@dB.eq_2)<|And.intro (@dC.eq_1)<|And.intro (@dC.eq_2)<|And.intro (@List.replicate_zero.{0})<|And.intro (@List.replicate_succ.{0})<|And.intro (@List.set_cons_zero.{0})<|And.intro (@List.set_cons_succ.{0})<|And.intro (@List.all_cons.{0})<|And.intro (@List.all_nil.{0})<|And.intro (@Bool.and_true)<|And.intro (@Bool.true_and)<|And.intro (@ma)<|And.intro (@oN)<|And.intro (@r8)<|And.intro (@oO)<|And.intro (@r9)<|And.intro (@oP)<|And.intro (@te)<|And.intro (@tf)<|And.intro (@tg)<|And.intro (@th)<|And.intro (@ti)<|And.intro (@tj)<|And.intro (@w7)<|And.intro (@Ho)<|And.intro (@Hp)<|And.intro (@Hq)<|And.intro (@Bk)<|And.intro (@rN)<|And.intro (@w8)<|And.intro (@w9)<|And.intro (@rO)<|And.intro (@rP)<|And.intro (@rQ)<|And.intro (@xa)<|And.intro (@oE)<|And.intro (@xb)<|And.intro (@rR)<|And.intro (@oF)<|And.intro (@rS)<|And.intro (@xc)<|And.intro (@rT)<|And.intro (@oG)<|And.intro (@oH)<|And.intro (@rU)<|And.intro (@rV)<|And.intro (@rW)<|And.intro (@rX)<|And.intro (@rY)<|And.intro (@xd)<|And.intro (@xe)<|And.intro (@xf)<|And.intro (@Bool.false_eq_true)<|And.intro (@rZ)<|And.intro (@r4)<|And.intro (@xg)<|And.intro (@xj)<|And.intro (@xh)<|And.intro (@xi)<|And.intro (@l8)<|And.intro (@jY)<|And.intro (@List.length_cons.{0})<|And.intro (@List.length_nil.{0})<|And.intro (@List.drop_succ_cons.{0})<|And.intro (@List.drop_zero.{0})<|And.intro (@List.take_succ_cons.{0})<|And.intro (@List.take_zero.{0})<|And.intro (@kc)<|And.intro (@kd)<|And.intro (@ke)<|And.intro (@iW)<|And.intro (@mr)<|And.intro (@kf)<|And.intro (@kg)<|And.intro (@ki)<|And.intro (@iX)<|And.intro (@iY)<|And.intro (@ku.eq_1)<|And.intro (@ku.eq_2)<|And.intro (@Nat.zero_add)<|And.intro (@Bh)<|And.intro (@Bi)<|And.intro (@lg.eq_1)<|And.intro (@lg.eq_2)<|And.intro (@rG)<|And.intro (@rH)<|And.intro (@rI)<|And.intro (@oC)<|And.intro (@oJ)<|And.intro (@oK)<|And.intro (@oL)<|And.intro (@oM)<|And.intro (@true_and)<|And.intro (@and_true)<|And.intro (@Option.map_some.{0,0})<|And.intro (@Option.bind_some.{0,0})<|And.intro (@sI)<|And.intro (@eo.eq_1)<|And.intro (@eo.eq_2)<|And.intro (@eo.eq_3)<|And.intro (@eo.eq_4)<|And.intro (@eo.eq_5)<|And.intro (@jZ)<|And.intro (@Bm)<|And.intro (@Bn)<|And.intro (@nL.eq_1)<|And.intro (@nL.eq_2)<|And.intro (@fD.eq_1)<|And.intro (@jk.eq_1)<|And.intro (@jk.eq_2)<|And.intro (@mS.eq_1)<|And.intro (@mS.eq_2)<|And.intro (@Bw)<|And.intro (@Bx)<|And.intro (@Bz)<|And.intro (@D1)<|And.intro (@D2)<|And.intro (@D3)<|And.intro (@E4)<|And.intro (@List.map_cons.{0,0})<|And.intro (@List.map_nil.{0,0})<|And.intro (@decide_true)<|And.intro (@decide_false)<|And.intro (@cE)<|And.intro (@Bool.not_true)<|And.intro (@Bool.not_false)<|And.intro (@beq_self_eq_true.{0})<|And.intro (@bne_self_eq_false.{0})<|And.intro (@List.getElem?_cons_zero.{0})<|And.intro (@List.getElem?_cons_succ.{0})<|And.intro (@List.getElem?_nil.{0})<|And.intro (@List.length_map.{0,0})<|And.intro (@oI)<|And.intro (@T.bool.injEq)<|And.intro (@T.int.injEq)<|And.intro (@T.str.injEq)<|And.intro (@T.bo.injEq)<|And.intro (@ae.eq_1)<|And.intro (@ae.eq_2)<|And.intro (@ae.eq_3)<|And.intro (@ae.eq_4)<|And.intro (@ae.eq_5)<|And.intro (@ae.eq_6)<|And.intro (@ae.eq_7)<|And.intro (@ae.eq_8)<|And.intro (@ae.eq_9)<|And.intro (@ae.eq_10)<|And.intro (@ae.eq_11)<|And.intro (@ae.eq_12)<|And.intro (@ae.eq_13)<|And.intro (@ae.eq_14)<|And.intro (@ae.eq_15)<|And.intro (@ae.eq_16)<|And.intro (@ae.eq_17)<|And.intro (@ae.eq_18)<|And.intro (@ae.eq_19)<|And.intro (@ae.eq_20)<|And.intro (@ae.eq_21)<|And.intro (@ae.eq_22)<|And.intro (@ae.eq_23)<|And.intro (@ae.eq_24)<|And.intro (@ae.eq_25)<|And.intro (@ae.eq_26)<|And.intro (@sh)<|And.intro (@mh)<|And.intro (@si)<|And.intro (@mi)<|And.intro (@sj)<|And.intro (@sk)<|And.intro (@sn)<|And.intro (@mj)<|And.intro (@su)<|And.intro (@sv)<|And.intro (@sw)<|And.intro (@ml)<|And.intro (@ae.eq_30)<|And.intro (@ae.eq_31)<|And.intro (@ae.eq_32)<|And.intro (@ae.eq_33)<|And.intro (@ae.eq_34)<|And.intro (@ae.eq_35)<|And.intro (@ae.eq_36)<|And.intro (@sd)<|And.intro (@sg)<|And.intro (@mg)<|And.intro (@sy)<|And.intro (@sz)<|And.intro (@mm)<|And.intro (@sA)<|And.intro (@sB)<|And.intro (@mo)<|And.intro (@mq)<|And.intro (@ka)<|And.intro (@kb)<|And.intro (@sJ)<|And.intro (@sK)<|And.intro (@sL)<|And.intro (@sM)<|And.intro (@sN)<|And.intro (@sO)<|And.intro (@sP)<|And.intro (@sQ)<|And.intro (@xp)<|And.intro (@sR)<|And.intro (@sS)<|And.intro (@sU)<|And.intro (@sV)<|And.intro (@sW)<|And.intro (@sX)<|And.intro (@sY)<|And.intro (@sZ)<|And.intro (@s0)<|And.intro (@s7)<|And.intro (@s8)<|And.intro (@s9)<|And.intro (@ta)<|(@td)):=And.intro (@tn)<|And.intro (@mw)<|And.intro (@my)<|And.intro (@mz)<|And.intro (@oU)<|And.intro (@tp)<|And.intro (@Bl)<|And.intro (@ae.eq_37)<|And.intro (@ae.eq_38)<|And.intro (@ae.eq_43)<|And.intro (@ae.eq_44)<|And.intro (@ae.eq_45)<|And.intro (@Bp)<|And.intro (@Bq)<|And.intro (@Br)<|And.intro (@cX.eq_1)<|And.intro (@cX.eq_2)<|And.intro (@sG)<|And.intro (@sH)<|And.intro (@xm)<|And.intro (@xn)<|And.intro (@xo)<|And.intro (@rM)<|And.intro (@List.nil_append.{0})<|And.intro (@List.append_nil.{0})<|And.intro (@List.cons_append.{0})<|And.intro (@sC)<|And.intro (@sD)<|And.intro (@oQ)<|And.intro (@xk)<|And.intro (@sE)<|And.intro (@sF)<|And.intro (@oS)<|And.intro (@oT)<|And.intro (@xl)<|And.intro (@bV.eq_1)<|And.intro (@bV.eq_2)<|And.intro (@eY.eq_1)<|And.intro (@eY.eq_2)<|And.intro (@dB.eq_1)<|And.intro (@dB.eq_2)<|And.intro (@dC.eq_1)<|And.intro (@dC.eq_2)<|And.intro (@List.replicate_zero.{0})<|And.intro (@List.replicate_succ.{0})<|And.intro (@List.set_cons_zero.{0})<|And.intro (@List.set_cons_succ.{0})<|And.intro (@List.all_cons.{0})<|And.intro (@List.all_nil.{0})<|And.intro (@Bool.and_true)<|And.intro (@Bool.true_and)<|And.intro (@ma)<|And.intro (@oN)<|And.intro (@r8)<|And.intro (@oO)<|And.intro (@r9)<|And.intro (@oP)<|And.intro (@te)<|And.intro (@tf)<|And.intro (@tg)<|And.intro (@th)<|And.intro (@ti)<|And.intro (@tj)<|And.intro (@w7)<|And.intro (@Ho)<|And.intro (@Hp)<|And.intro (@Hq)<|And.intro (@Bk)<|And.intro (@rN)<|And.intro (@w8)<|And.intro (@w9)<|And.intro (@rO)<|And.intro (@rP)<|And.intro (@rQ)<|And.intro (@xa)<|And.intro (@oE)<|And.intro (@xb)<|And.intro (@rR)<|And.intro (@oF)<|And.intro (@rS)<|And.intro (@xc)<|And.intro (@rT)<|And.intro (@oG)<|And.intro (@oH)<|And.intro (@rU)<|And.intro (@rV)<|And.intro (@rW)<|And.intro (@rX)<|And.intro (@rY)<|And.intro (@xd)<|And.intro (@xe)<|And.intro (@xf)<|And.intro (@Bool.false_eq_true)<|And.intro (@rZ)<|And.intro (@r4)<|And.intro (@xg)<|And.intro (@xj)<|And.intro (@xh)<|And.intro (@xi)<|And.intro (@l8)<|And.intro (@jY)<|And.intro (@List.length_cons.{0})<|And.intro (@List.length_nil.{0})<|And.intro (@List.drop_succ_cons.{0})<|And.intro (@List.drop_zero.{0})<|And.intro (@List.take_succ_cons.{0})<|And.intro (@List.take_zero.{0})<|And.intro (@kc)<|And.intro (@kd)<|And.intro (@ke)<|And.intro (@iW)<|And.intro (@mr)<|And.intro (@kf)<|And.intro (@kg)<|And.intro (@ki)<|And.intro (@iX)<|And.intro (@iY)<|And.intro (@ku.eq_1)<|And.intro (@ku.eq_2)<|And.intro (@Nat.zero_add)<|And.intro (@Bh)<|And.intro (@Bi)<|And.intro (@lg.eq_1)<|And.intro (@lg.eq_2)<|And.intro (@rG)<|And.intro (@rH)<|And.intro (@rI)<|And.intro (@oC)<|And.intro (@oJ)<|And.intro (@oK)<|And.intro (@oL)<|And.intro (@oM)<|And.intro (@true_and)<|And.intro (@and_true)<|And.intro (@Option.map_some.{0,0})<|And.intro (@Option.bind_some.{0,0})<|And.intro (@sI)<|And.intro (@eo.eq_1)<|And.intro (@eo.eq_2)<|And.intro (@eo.eq_3)<|And.intro (@eo.eq_4)<|And.intro (@eo.eq_5)<|And.intro (@jZ)<|And.intro (@Bm)<|And.intro (@Bn)<|And.intro (@nL.eq_1)<|And.intro (@nL.eq_2)<|And.intro (@fD.eq_1)<|And.intro (@jk.eq_1)<|And.intro (@jk.eq_2)<|And.intro (@mS.eq_1)<|And.intro (@mS.eq_2)<|And.intro (@Bw)<|And.intro (@Bx)<|And.intro (@Bz)<|And.intro (@D1)<|And.intro (@D2)<|And.intro (@D3)<|And.intro (@E4)<|And.intro (@List.map_cons.{0,0})<|And.intro (@List.map_nil.{0,0})<|And.intro (@decide_true)<|And.intro (@decide_false)<|And.intro (@cE)<|And.intro (@Bool.not_true)<|And.intro (@Bool.not_false)<|And.intro (@beq_self_eq_true.{0})<|And.intro (@bne_self_eq_false.{0})<|And.intro (@List.getElem?_cons_zero.{0})<|And.intro (@List.getElem?_cons_succ.{0})<|And.intro (@List.getElem?_nil.{0})<|And.intro (@List.length_map.{0,0})<|And.intro (@oI)<|And.intro (@T.bool.injEq)<|And.intro (@T.int.injEq)<|And.intro (@T.str.injEq)<|And.intro (@T.bo.injEq)<|And.intro (@ae.eq_1)<|And.intro (@ae.eq_2)<|And.intro (@ae.eq_3)<|And.intro (@ae.eq_4)<|And.intro (@ae.eq_5)<|And.intro (@ae.eq_6)<|And.intro (@ae.eq_7)<|And.intro (@ae.eq_8)<|And.intro (@ae.eq_9)<|And.intro (@ae.eq_10)<|And.intro (@ae.eq_11)<|And.intro (@ae.eq_12)<|And.intro (@ae.eq_13)<|And.intro (@ae.eq_14)<|And.intro (@ae.eq_15)<|And.intro (@ae.eq_16)<|And.intro (@ae.eq_17)<|And.intro (@ae.eq_18)<|And.intro (@ae.eq_19)<|And.intro (@ae.eq_20)<|And.intro (@ae.eq_21)<|And.intro (@ae.eq_22)<|And.intro (@ae.eq_23)<|And.intro (@ae.eq_24)<|And.intro (@ae.eq_25)<|And.intro (@ae.eq_26)<|And.intro (@sh)<|And.intro (@mh)<|And.intro (@si)<|And.intro (@mi)<|And.intro (@sj)<|And.intro (@sk)<|And.intro (@sn)<|And.intro (@mj)<|And.intro (@su)<|And.intro (@sv)<|And.intro (@sw)<|And.intro (@ml)<|And.intro (@ae.eq_30)<|And.intro (@ae.eq_31)<|And.intro (@ae.eq_32)<|And.intro (@ae.eq_33)<|And.intro (@ae.eq_34)<|And.intro (@ae.eq_35)<|And.intro (@ae.eq_36)<|And.intro (@sd)<|And.intro (@sg)<|And.intro (@mg)<|And.intro (@sy)<|And.intro (@sz)<|And.intro (@mm)<|And.intro (@sA)<|And.intro (@sB)<|And.intro (@mo)<|And.intro (@mq)<|And.intro (@ka)<|And.intro (@kb)<|And.intro (@sJ)<|And.intro (@sK)<|And.intro (@sL)<|And.intro (@sM)<|And.intro (@sN)<|And.intro (@sO)<|And.intro (@sP)<|And.intro (@sQ)<|And.intro (@xp)<|And.intro (@sR)<|And.intro (@sS)<|And.intro (@sU)<|And.intro (@sV)<|And.intro (@sW)<|And.intro (@sX)<|And.intro (@sY)<|And.intro (@sZ)<|And.intro (@s0)<|And.intro (@s7)<|And.intro (@s8)<|And.intro (@s9)<|And.intro (@ta)<|(@td)
end Go.Rmp
end

section
namespace Go.Rmp
set_option maxRecDepth 10000
abbrev o1 (d:Nat)(b:Bo):O:=⟨some d,.b b,none,[]⟩
end Go.Rmp
end

section
namespace Go.Rmp
def tb:T→Option Nat
 | .aQ c _ _ _=>some c
 | _=>none
def bp (H H':aa):Prop:=∀(b:Nat) st p n R ps a c,H[b]?=some (B.loop st p n R ps a c)→∃jf p',H'[b]?=some (B.loop jf p' n R ps a c)
theorem bp.refl (H:aa):bp H H:=fun _ _ _ _ _ _ _ _ h=>⟨_,_,h⟩
theorem bp.trans {H H' H2:aa}(h:bp H H')(h':bp H' H2):bp H H2:=fun b st p n R ps a c hb=>by
 obtain⟨jf,p',h1⟩:=h b st p n R ps a c hb
 exact h' b jf p' n R ps a c h1
theorem bp.app (H l:aa):bp H (H++l):=fun _ _ _ _ _ _ _ _ h=>⟨_,_,dX h⟩
theorem bp.set {H:aa}{b:Nat}{x:B}(y:B)(hb:H[b]?=some x)(hx:∀st p n R ps a c,x≠.loop st p n R ps a c):bp H (H.set b y):=fun b' st p n R ps a c h=>by
 by_cases e:b'=b
 ·subst e;rw[hb]at h;cases h;exact absurd rfl (hx _ _ _ _ _ _ _)
 ·exact⟨st,p,by rw[List.getElem?_set_ne (fun h=>e h.symm)];exact h⟩
theorem bp.oV {H:aa}{b:Nat}{st:qa}{p:Option Ex}{n:Nat}{R:ai}{ps:List Nat}{a c:C}(jf:qa)(p':Option Ex)(hb:H[b]?=some (.loop st p n R ps a c)):bp H (H.set b (.loop jf p' n R ps a c)):=fun b' Hs p1 n1 R1 E5 a1 c1 h=>by
 by_cases e:b'=b
 ·subst e;rw[hb]at h;cases h
  exact⟨jf,p',by rw[List.getElem?_set_self (List.getElem?_eq_some_iff.1 hb).1]⟩
 ·exact⟨Hs,p1,by rw[List.getElem?_set_ne (fun h=>e h.symm)];exact h⟩
theorem wc {H H':aa}{vs:List T}{t:T}(h:ug H vs t=some H'):bp H H':=by
 unfold ug at h
 split at h
 ·split at h
  ·rename_i hb
   split at h
   ·cases h;exact bp.set _ hb (by intros;simp)
   ·cases h
  ·cases h
 ·cases h
theorem tq {H H':aa}{bytes:Nat}{k:SK}{es new:List (List T)}{v:T}(h:o6 H bytes k es new=some (v,H')):bp H H':=by
 unfold o6 at h
 split at h
 ·cases h;exact bp.refl _
 ·split at h
  ·split at h
   ·cases h;exact bp.app _ _
   ·cases h;exact bp.app _ _
   ·split at h
    ·rename_i hb
     split at h
     ·cases h;exact bp.set _ hb (by intros;simp)
     ·cases h
    ·cases h
   ·cases h
  ·cases h
theorem tt {H H':aa}{n bytes:Nat}{x:T}{new:List (List T)}{v:T}(h:o7 H n bytes x new=some (v,H')):bp H H':=by
 unfold o7 at h
 split at h
 ·split at h
  ·cases h;exact bp.refl _
  ·cases h
 ·split at h
  ·split at h
   ·cases h;exact bp.app _ _
   ·cases h
  ·split at h
   ·cases h;exact bp.app _ _
   ·cases h
  ·split at h
   ·rename_i hb
    split at h
    ·cases h;exact(bp.set .dead hb (by intros;simp)).trans (bp.app _ _)
    ·cases h
   ·cases h
  ·cases h
theorem we {H H':aa}{n:Nat}{x y v:T}(h:qd H n x y=some (v,H')):bp H H':=by
 unfold qd at h
 split at h
 ·split at h
  ·rename_i hb _
   split at h
   ·cases h;exact bp.set _ hb (by intros;simp)
   ·cases h
  ·cases h
 ·split at h
  ·rename_i hb _
   split at h
   ·cases h;exact bp.set _ hb (by intros;simp)
   ·cases h
  ·cases h
 ·cases h
theorem oW {α:Type}{o:Option α}{f:α→T}{H H':aa}{v:T}(h:o.map (fun x=>(f x,H))=some (v,H')):bp H H':=by
 cases o with
 | none=>cases h
 | some x=>cases h;exact bp.refl _
theorem tu {R : ai}{H H' : aa}{b : Bo}{v : T}(h : ae R H b = some (v, H')) : bp H H' := by
  cases hk : gw b with
  | pure => rw[(eR hk h).1]; exact bp.refl _
  | read => rw[(eS hk h).1]; exact bp.refl _
  | make => cases b<;>simp only[gw]at hk<;>(try (cases hk; done))<;>simp only[ae]at h
            · split at hk<;>cases hk
            · cases h; exact bp.app _ _
            · cases h; exact bp.app _ _
  | wR =>
    cases b<;>simp only[gw]at hk<;>(try (cases hk; done))<;>simp only[ae]at h
    case eX => exact oW h
    case yA m x =>
      split at h
      · split at h
        · split at h
          · cases h; exact bp.set _ (by assumption) (fun _ _ _ _ _ _ _ e => by cases e)
          · cases h
        · cases h
      · split at h
        · cases h; exact bp.refl _
        · cases h
      · cases h
    case box x =>
      cases hc : (x.ev R).cells? with
      | none => rw[hc]at h; cases h
      | some cs => rw[hc]at h; cases h; exact bp.app _ _
    case st =>
      split at h
      · split at h
        · rw[Option.map_eq_some_iff]at h
          obtain⟨H2, h1, h2⟩ := h
          cases h2; exact wc h1
        · cases h
      · cases h
    case tR =>
      split at h
      · split at h
        · split at h
          · rename_i hb
            split at h
            · cases h; exact bp.set _ hb (by intros; simp)
            · cases h; exact bp.set _ hb (by intros; simp)
            · cases h
          · cases h
        · cases h
      · cases h
    case del =>
      split at h
      · split at h
        · split at h
          · rename_i hb
            split at h
            · cases h; exact bp.set _ hb (by intros; simp)
            · cases h; exact bp.refl _
            · cases h
          · cases h
        · cases h
      · cases h
    case app =>
      split at h
      · split at h
        · exact tt h
        · split at h
          · split at h
            · exact tq h
            · cases h
          · cases h
      · cases h
    case Dw =>
      split at h
      · split at h
        · split at h
          · cases h; exact bp.app _ _
          · split at h
            · cases h; exact bp.refl _
            · cases h; exact bp.app _ _
        · cases h
      · cases h
    case cap =>
      split at h
      · cases h; exact bp.refl _
      · cases h
    case uf => exact we h
    case z6 x =>
      split at h
      · rename_i bb _
        simp only[cu]at h
        split at h
        · rename_i hb; cases h; exact(bp.set _ hb (by intros; simp)).trans (bp.app _ _)
        · rename_i hb; cases h; exact(bp.set _ hb (by intros; simp)).trans (bp.app _ _)
        · cases h
      · cases h
    case hU => cases h
    case z7 =>
      split at h
      · split at h
        · split at h
          · split at h
            · exact oW h
            · cases h
          · cases h
        · cases h
      · cases h
    case As =>
      split at h
      · split at h
        · rename_i hb
          split at h
          · cases h; exact bp.set _ hb (by intros; simp)
          · cases h
        · cases h
      · cases h
    case z1 =>
      unfold qf at h
      split at h
      · split at h
        · split at h
          · cases h; exact bp.refl _
          · cases h
        · cases h
      · cases h
    case Au =>
      rw[Option.bind_eq_some_iff]at h
      obtain⟨k, _, h⟩ := h
      unfold uj at h
      split at h
      · split at h
        · split at h
          · cases h; exact bp.app _ _
          · cases h
        · cases h
      · cases h
    case z8 =>
      rw[Option.bind_eq_some_iff]at h
      obtain⟨k, _, h⟩ := h
      split at h
      · cases h; exact bp.app _ _
      · cases h
    case Dx =>
      split at h
      · split at h
        · cases h; exact bp.refl _
        · cases h
      · cases h
inductive cN where
 | lf
 | nd (v:T) (l r:cN)
 | ov (d:Nat) (v:T) (t:cN)
noncomputable def cN.get (t:cN):Nat→T :=
 cN.rec (motive:=fun _=>Nat→T) (fun _=>aw) (fun v _ _ gl gr n=>Nat.casesOn (motive:=fun _=>T) n v fun m=>bif Nat.beq (Nat.mod m 2) 0 then gl (Nat.div m 2)else gr (Nat.div m 2)) (fun d v _ g n=>bif Nat.beq n d then v else g n) t
noncomputable def cN.set (t:cN):Nat→T→cN :=
 cN.rec (motive:=fun _=>Nat→T→cN) (fun n v=>.ov n v .lf) (fun x l r gl gr n v=>Nat.casesOn (motive:=fun _=>cN) n (.nd v l r) fun m=>bif Nat.beq (Nat.mod m 2) 0 then .nd x (gl (Nat.div m 2) v) r else .nd x l (gr (Nat.div m 2) v)) (fun d x t g n v=>bif Nat.beq n d then .ov d v t else .ov d x (g n v)) t
def cN.full:Nat→cN
 | 0=>.lf
 | n+1=>.nd aw (cN.full n) (cN.full n)
noncomputable abbrev lk (t:cN):ai:=t.get
theorem cN.iZ:∀(k n:Nat),(cN.full k).get n=aw
 | 0,n=>rfl
 | k+1,0=>rfl
 | k+1,n+1=>by
  show(bif Nat.beq (Nat.mod n 2) 0 then(cN.full k).get (Nat.div n 2)else(cN.full k).get (Nat.div n 2))=_
  cases Nat.beq (Nat.mod n 2) 0
  ·exact cN.iZ k _
  ·exact cN.iZ k _
theorem tv (t:cN):∀(d:Nat) (v:T) (n:Nat),(t.set d v).get n=if n=d then v else t.get n:=by
 induction t with
 | lf =>
  intro d v n
  show(bif Nat.beq n d then v else aw)=if n=d then v else aw
  cases h:Nat.beq n d
  ·rw[if_neg (Nat.ne_of_beq_eq_false h)];rfl
  ·rw[if_pos (Nat.eq_of_beq_eq_true h)];rfl
 | nd x l r IL IM =>
  intro d v n
  cases d with
  | zero=>cases n with
   | zero=>rfl
   | succ n=>rw[if_neg (by omega)];rfl
  | succ d =>
   have hs:(cN.nd x l r).set (d+1) v=bif Nat.beq (Nat.mod d 2) 0 then .nd x (l.set (Nat.div d 2) v) r else .nd x l (r.set (Nat.div d 2) v):=rfl
   rw[hs]
   have hg:∀a b,(cN.nd x a b).get (n)=Nat.casesOn (motive:=fun _=>T) n x fun m=>bif Nat.beq (Nat.mod m 2) 0 then a.get (Nat.div m 2)else b.get (Nat.div m 2):=fun _ _=>rfl
   cases n with
   | zero=>rw[if_neg (by omega)];cases Nat.beq (Nat.mod d 2) 0<;>rfl
   | succ n =>
    have e1:Nat.mod d 2=d%2:=rfl
    have e2:Nat.mod n 2=n%2:=rfl
    have e3:Nat.div d 2=d/2:=rfl
    have e4:Nat.div n 2=n/2:=rfl
    cases hd:Nat.beq (Nat.mod d 2) 0
    ·have fw:=Nat.ne_of_beq_eq_false hd
     simp only[cond_false]
     rw[hg,hg]
     cases hn:Nat.beq (Nat.mod n 2) 0
     ·have wJ:=Nat.ne_of_beq_eq_false hn
      simp only[hn,cond_false]
      rw[IM]
      by_cases e:n=d
      ·subst e;simp
      ·rw[if_neg (by omega),if_neg (by omega)]
     ·have wJ:=Nat.eq_of_beq_eq_true hn
      simp only[hn,cond_true]
      rw[if_neg (by omega)]
    ·have fw:=Nat.eq_of_beq_eq_true hd
     simp only[cond_true]
     rw[hg,hg]
     cases hn:Nat.beq (Nat.mod n 2) 0
     ·have wJ:=Nat.ne_of_beq_eq_false hn
      simp only[hn,cond_false]
      rw[if_neg (by omega)]
     ·have wJ:=Nat.eq_of_beq_eq_true hn
      simp only[hn,cond_true]
      rw[IL]
      by_cases e:n=d
      ·subst e;simp
      ·rw[if_neg (by omega),if_neg (by omega)]
 | ov d0 x t ih =>
  intro d v n
  have hs:(cN.ov d0 x t).set d v=bif Nat.beq d d0 then .ov d0 v t else .ov d0 x (t.set d v):=rfl
  have hg:∀y a,(cN.ov d0 y a).get n=bif Nat.beq n d0 then y else a.get n:=fun _ _=>rfl
  rw[hs]
  cases h1:Nat.beq d d0
  ·have qi:=Nat.ne_of_beq_eq_false h1
   simp only[cond_false]
   rw[hg,hg]
   cases h2:Nat.beq n d0
   ·simp only[cond_false];rw[ih]
   ·have mU:=Nat.eq_of_beq_eq_true h2
    simp only[cond_true];rw[if_neg (by omega)]
  ·have qi:=Nat.eq_of_beq_eq_true h1
   simp only[cond_true]
   rw[hg,hg]
   cases h2:Nat.beq n d0
   ·have mU:=Nat.ne_of_beq_eq_false h2
    simp only[cond_false];rw[if_neg (by omega)]
   ·have mU:=Nat.eq_of_beq_eq_true h2
    simp only[cond_true];rw[if_pos (by omega)]
noncomputable def jw (L:cN)(d:Option Nat)(v:T):cN:=match d with|some d=>L.set d v|none=>L
theorem nR (L:cN)(d:Nat)(v:T):lk (L.set d v)=jj (lk L) d v:=funext fun t=>tv L d v t
theorem eW (L:cN)(d:Option Nat)(v:T):lk (jw L d v)=aA (lk L) d v:=by
 cases d with
 | none=>rfl
 | some d=>exact nR L d v
noncomputable def pW (L:cN):Nat→List T→cN
 | _,[]=>L
 | i,v :: vs=>pW (L.set i v) (i+1) vs
theorem mA:∀(vs:List T) (L:cN) (i n:Nat),(pW L i vs).get n=if i≤n∧n<i+vs.length then vs.getD (n-i) aw else L.get n
 | [],L,i,n=>by simp only[pW,List.length_nil];rw[if_neg (by omega)]
 | v :: vs,L,i,n=>by
  simp only[pW,List.length_cons]
  rw[mA vs,tv]
  by_cases h1:n=i
  ·subst h1
   rw[if_neg (by omega),if_pos rfl,if_pos (by omega)];simp
  ·by_cases h2:i+1≤n∧n<i+1+vs.length
   ·rw[if_pos h2,if_pos (by omega)]
    have:n-i=(n-(i+1))+1:=by omega
    rw[this];simp
   ·rw[if_neg h2,if_neg h1,if_neg (by omega)]
noncomputable def zM (az:List T):cN:=pW (cN.full 9) 0 az
theorem E6 (az:List T):lk (zM az)=dp az:=by
 funext n
 show(pW (cN.full 9) 0 az).get n=az.getD n aw
 rw[mA,cN.iZ]
 by_cases h:n<az.length
 ·rw[if_pos (by omega)];simp
 ·rw[if_neg (by omega)];simp[List.getElem?_eq_none (Nat.le_of_not_lt h)]
noncomputable def mB (L:cN):List Nat→List T→cN
 | p :: ps,v :: vs=>mB (L.set p v) ps vs
 | _,_=>L
theorem xq:∀(ps:List Nat) (L:cN) (vs:List T),lk (mB L ps vs)=fB (lk L) ps vs
 | [],L,vs=>by cases vs<;>rfl
 | p :: ps,L,[]=>rfl
 | p :: ps,L,v :: vs=>by simp only[mB,fB];rw[xq ps,nR]
def eM (k:IntKind)(n:Int):Int:=match k,n with
 | .i64,.ofNat a=>bif Nat.ble a 9223372036854775807 then n else k.wrap n
 | .u64,.ofNat a=>.ofNat (Nat.mod a 18446744073709551616)
 | .u32,.ofNat a=>.ofNat (Nat.mod a 4294967296)
 | .u8,.ofNat a=>.ofNat (Nat.mod a 256)
 | k,n=>k.wrap n
theorem mC (k:IntKind)(n:Int):eM k n=k.wrap n:=by
 unfold eM
 split
 ·rename_i a
  cases h:Nat.ble a 9223372036854775807
  ·rfl
  ·have:=Nat.le_of_ble_eq_true h
   simp only[cond_true]
   rw[wrap64 (by have:(Int.ofNat a)=(a:Int):=rfl;omega)]
 ·simp[IntKind.wrap,IntKind.signed,IntKind.bits];rfl
 ·simp[IntKind.wrap,IntKind.signed,IntKind.bits];rfl
 ·simp[IntKind.wrap,IntKind.signed,IntKind.bits];rfl
 ·rfl
def BA (k:IntKind)(x:Int)(k':IntKind)(y:Int):Option T:=if k=k' then some (.int k (eM k (x+y)))else none
def BB (k:IntKind)(x:Int)(k':IntKind)(y:Int):Option T:=if k=k' then some (.int k (eM k (x-y)))else none
def BC (k:IntKind)(x:Int)(k':IntKind)(y:Int):Option T:=if k=k' then some (.int k (eM k (x*y)))else none
def BD (k:IntKind)(x:Int)(k':IntKind)(y:Int):Option T:=if k=k' then some (.bool (x<y))else none
def BE (k:IntKind)(x:Int)(k':IntKind)(y:Int):Option T:=if k=k' then some (.bool (x≤y))else none
def BF (k:IntKind)(x:Int)(k':IntKind)(y:Int):Option T:=if k=k' then some (.bool (x>y))else none
def BG (k:IntKind)(x:Int)(k':IntKind)(y:Int):Option T:=if k=k' then some (.bool (x≥y))else none
def BH (k:IntKind)(x:Int)(k':IntKind)(y:Int):Option T:=if k=k' then some (.bool (x==y))else none
def BI (k:IntKind)(x:Int)(k':IntKind)(y:Int):Option T:=if k=k' then some (.bool (x != y))else none
def BJ (k:IntKind)(x:Int)(k':IntKind)(y:Int):Option T:=if k=k' then some (.int k (eM k (BitVec.ofInt k.bits x &&& BitVec.ofInt k.bits y).toNat))else none
def Ht (k:IntKind)(x:Int)(k':IntKind)(y:Int):Option T:=if k=k' then some (.int k (eM k (BitVec.ofInt k.bits x ||| BitVec.ofInt k.bits y).toNat))else none
def BK (k:IntKind)(x:Int)(k':IntKind)(y:Int):Option T:=if k=k' then some (.int k (eM k (BitVec.ofInt k.bits x ^^^ BitVec.ofInt k.bits y).toNat))else none
def BL (k:IntKind)(x:Int)(k':IntKind)(y:Int):Option T:=if k=k' then if y=0 then none else some (.int k (eM k (x.tdiv y)))else none
def BM (k:IntKind)(x:Int)(k':IntKind)(y:Int):Option T:=if k=k' then if y=0 then none else some (.int k (x.tmod y))else none
def BN (k:IntKind)(x:Int)(y:Int):Option T:=if y<0 then none else some (.int k (eM k (x*2^(min y.toNat k.bits))))
def BO (k:IntKind)(x:Int)(y:Int):Option T:=if y<0 then none else some (.int k (x.fdiv (2^(min y.toNat k.bits))))
def BP (op:BinOp)(k:IntKind)(x:Int)(k':IntKind)(y:Int):Option T:=match op with
 | .add=>BA k x k' y
 | .sub=>BB k x k' y
 | .mul=>BC k x k' y
 | .lss=>BD k x k' y
 | .leq=>BE k x k' y
 | .gtr=>BF k x k' y
 | .geq=>BG k x k' y
 | .eql=>BH k x k' y
 | .neq=>BI k x k' y
 | .and=>BJ k x k' y
 | .or=>Ht k x k' y
 | .xor=>BK k x k' y
 | .quo=>BL k x k' y
 | .rem=>BM k x k' y
 | .shl=>BN k x y
 | .shr=>BO k x y
 | op=>aO op (.int k x) (.int k' y)
def zN (op:BinOp)(a b:T):Option T:=match a,b with
 | .int k x,.int k' y=>BP op k x k' y
 | a,b=>aO op a b
theorem wg (op:BinOp)(a b:T):zN op a b=aO op a b:=by
 unfold zN
 split
 ·unfold BP
  split<;>simp only[BA,BB,BC,BD,BE,BF,BG,BH,BI,BJ,Ht,BK,BL,BM,BN,BO,mC,aO]
 ·rfl
def ja (o:Option T)(H:aa):Option (T×aa):=match o with
 | some v=>some (v,H)
 | none=>none
theorem dJ (o:Option T)(H:aa):ja o H=o.map (·,H):=by cases o<;>rfl
def Hu (R:ai)(H:aa)(n:Nat)(ag:Bool)(x:X):Option (T×aa):=match gF H n (x.ev R)with
 | some cs=>ja (valOf ag cs) H
 | none=>none
def Hv (R:ai)(H:aa)(n:Nat)(a v:X):Option (T×aa):=match (v.ev R).cells? with
 | some vs=>if vs.length=n then(match ug H vs (a.ev R)with|some H'=>some (aw,H')|none=>none)else none
 | none=>none
def BQ (R:ai)(H:aa)(i:Nat)(x:X):Option (T×aa):=match x.ev R with
 | .bo vs=>ja vs[i]? H
 | _=>none
def xr (R:ai)(H:aa)(c a b:X):Option (T×aa):=match c.ev R with
 | .bool t=>some (if t then a.ev R else b.ev R,H)
 | _=>none
def BR (R:ai)(H:aa)(k:Lc)(x:X):Option (T×aa):=match eo H k (x.ev R)with
 | some n=>some (.int .i64 (n:Int),H)
 | none=>none
def BS (R:ai)(H:aa)(n:Nat)(x i:X):Option (T×aa):=match aR (i.ev R)with
 | some i=>ja (uh n i (x.ev R)) H
 | none=>none
def BT (R:ai)(H:aa)(k:IntKind)(x:X):Option (T×aa):=match x.ev R with
 | .int _ n=>some (.int k (eM k n),H)
 | _=>none
def tw (R:ai)(H:aa)(b:Bo):Option (T×aa):=match b with
 | .ak x=>some (x.ev R,H)
 | .bin op x y=>ja (zN op (x.ev R) (y.ev R)) H
 | .ld n ag x=>Hu R H n ag x
 | .st n a v=>Hv R H n a v
 | .jy off x=>ja (ku off (x.ev R)) H
 | .ext i x=>BQ R H i x
 | .pick c a b=>xr R H c a b
 | .len k x=>BR R H k x
 | .mJ n x i=>BS R H n x i
 | .un op x=>ja (yD op (x.ev R)) H
 | .eg k x=>BT R H k x
 | .alloc z=>some (.ptr H.length 0,H++[.cells z])
 | b=>ae R H b
theorem tz (R:ai)(H:aa)(b:Bo):tw R H b=ae R H b:=by
 unfold tw
 split
 ·rfl
 ·simp only[ae,dJ,wg]
 ·rename_i n ag x
  simp only[ae,Hu,dJ]
  cases gF H n (x.ev R)<;>rfl
 ·rename_i n a v
  simp only[ae,Hv]
  cases(v.ev R).cells? with
  | none=>rfl
  | some vs =>
   simp only
   split
   ·cases ug H vs (a.ev R)<;>rfl
   ·rfl
 ·simp only[ae,dJ]
 ·rename_i i x
  simp only[ae,BQ,dJ]
  cases x.ev R<;>rfl
 ·rename_i c a b
  simp only[ae,xr]
  cases c.ev R<;>rfl
 ·rename_i k x
  simp only[ae,BR]
  cases eo H k (x.ev R)<;>rfl
 ·rename_i n x i
  simp only[ae,BS,dJ]
  cases aR (i.ev R)<;>rfl
 ·simp only[ae,dJ]
 ·rename_i k x
  simp only[ae,BT,mC]
  cases x.ev R<;>rfl
 ·rfl
 ·rfl
def wh:T→T→Bool
 | .int k a,.int k' b=>decide (k=k')&&decide (a=b)
 | .bool a,.bool b=>a==b
 | .str a,.str b=>dm a b
 | .aL,.aL=>true
 | .b9,.b9=>true
 | .ptr a b,.ptr a' b'=>decide (a=a')&&decide (b=b')
 | .map b,.map b'=>decide (b=b')
 | .aQ a b c d,.aQ a' b' c' d'=>decide (a=a')&&decide (b=b')&&decide (c=c')&&decide (d=d')
 | _,_=>false
theorem oX {a b:T}(h:wh a b=true):a=b:=by
 unfold wh at h
 split at h<;>simp_all [cE]
def kO {α:Type}(p:α→α→Bool):List α→List α→Bool
 | [],[]=>true
 | a :: l,b :: m=>p a b&&kO p l m
 | _,_=>false
theorem kP {α:Type}{p:α→α→Bool}(hp:∀a b,p a b=true→a=b):∀(a b:List α),kO p a b=true→a=b
 | [],[],_=>rfl
 | a :: l,b :: m,h=>by
  simp only[kO,Bool.and_eq_true]at h
  rw[hp _ _ h.1,kP hp _ _ h.2]
def mD:Nat→T→T→Bool
 | 0,a,b=>wh a b
 | n+1,a,b=>match a,b with
  | .sl k es,.sl k' AF=>decide (k=k')&&kO (kO (mD n)) es AF
  | .agg a,.agg b=>kO (mD n) a b
  | .bo a,.bo b=>kO (mD n) a b
  | .cF a,.cF b=>kO (mD n) a b
  | .fn f a,.fn f' b=>decide (f=f')&&kO (mD n) a b
  | a,b=>wh a b
theorem oY:∀(n:Nat) (a b:T),mD n a b=true→a=b
 | 0,a,b,h=>oX h
 | n+1,a,b,h=>by
  have ih:=kP (oY n)
  unfold mD at h
  split at h
  ·simp only[Bool.and_eq_true,decide_eq_true_eq]at h;rw[h.1,kP ih _ _ h.2]
  ·rw[ih _ _ h]
  ·rw[ih _ _ h]
  ·rw[ih _ _ h]
  ·simp only[Bool.and_eq_true,decide_eq_true_eq]at h;rw[h.1,ih _ _ h.2]
  ·exact oX h
abbrev BU:T→T→Bool:=mD 6
theorem wi {a b:T}(h:BU a b=true):a=b:=oY 6 a b h
def tC (b:Bo):Bool:=match gw b with | .pure=>true | .read=>true|_=>false
noncomputable def fT (R:ai)(H:aa)(s:List Rd):Bool:=s.all fun r=>!av R r.g||(tC r.op&&match ae R H r.op with|some (v,_)=>BU v (R r.d)|none=>false)
theorem eN {R:ai}{H:aa}{s:List Rd}(h:fT R H s=true):cH R H s:=fun r hr hw=>by
 have:=List.all_eq_true.1 h r hr
 simp only[hw,Bool.not_true,Bool.false_or,Bool.and_eq_true]at this
 obtain⟨h1,h2⟩:=this
 cases he:ae R H r.op with
 | none=>rw[he]at h2;cases h2
 | some x =>
  obtain⟨v,H'⟩:=x
  rw[he]at h2
  have hv:=wi h2
  have hh:H'=H:=by
   unfold tC at h1
   split at h1
   ·rename_i hk;exact(eR hk he).1
   ·rename_i hk;exact(eS hk he).1
   ·cases h1
  rw[hv,hh]
inductive OE where
 | ex (e:Ex) (L:cN)
 | val (v:T)
noncomputable def OE.out:OE→Out
 | .ex e L=>.ex e (lk L)
 | .val v=>.val v
abbrev gV:=Option (List (OE×aa))
inductive JE where
 | code (c:C) (L:cN)
 | call (f:Nat) (az:List T)
noncomputable def JE.j:JE→J
 | .code c L=>.code c (lk L)
 | .call f az=>.call f az
structure Yc where
 b:Nat
 n:Nat
 L:cN
 ps:List Nat
 bh:C
 body:C
def ff (ctx:List Yc)(H:aa):Prop:=∀y∈ctx,∃st p,H[y.b]?=some (B.loop st p y.n (lk y.L) y.ps y.bh y.body)
theorem ff.mono {ctx:List Yc}{H H':aa}(h:ff ctx H)(hp:bp H H'):ff ctx H':=fun y hy=>by
 obtain⟨st,p,h1⟩:=h y hy
 exact hp _ _ _ _ _ _ _ _ h1
def bK (l:List (OE×aa)):Out→aa→Prop:=fun o H'=>∃x∈l,x.1.out=o∧x.2=H'
def fg {α:Type}:List α→(α→gV)→gV
 | [],_=>some []
 | x :: l,k=>match l with
  | []=>k x
  | _=>match k x with
   | none=>none
   | some a=>match fg l k with
    | none=>none
    | some b=>some (a++b)
theorem aE {α:Type}{k:α→gV}:∀{l:List α} {res:List (OE×aa)},fg l k=some res→∀x∈l,∃r,k x=some r∧∀y∈r,y∈res
 | [],_,_,x,hx=>by cases hx
 | [a],res,h,x,hx=>by
  simp only[List.mem_singleton]at hx;subst hx
  exact⟨res,h,fun y hy=>hy⟩
 | a :: b :: l,res,h,x,hx=>by
  unfold fg at h
  simp only at h
  cases ha:k a with
  | none=>rw[ha]at h;cases h
  | some ra =>
   rw[ha]at h
   simp only at h
   cases hb:fg (b :: l) k with
   | none=>rw[hb]at h;cases h
   | some rb =>
    rw[hb]at h;cases h
    rcases List.mem_cons.1 hx with rfl|hx
    ·exact⟨ra,ha,fun y hy=>List.mem_append_left _ hy⟩
    ·obtain⟨r,h1,h2⟩:=aE hb x hx
     exact⟨r,h1,fun y hy=>List.mem_append_right _ (h2 y hy)⟩
theorem aY {α:Type}{k:α→gV}:∀{l:List α} {res:List (OE×aa)},fg l k=some res→∀y∈res,∃x∈l,∃r,k x=some r∧y∈r
 | [],_,h,y,hy=>by cases h;cases hy
 | [a],res,h,y,hy=>⟨a,List.mem_singleton.2 rfl,res,h,hy⟩
 | a :: b :: l,res,h,y,hy=>by
  unfold fg at h
  simp only at h
  cases ha:k a with
  | none=>rw[ha]at h;cases h
  | some ra =>
   rw[ha]at h
   simp only at h
   cases hb:fg (b :: l) k with
   | none=>rw[hb]at h;cases h
   | some rb =>
    rw[hb]at h;cases h
    rcases List.mem_append.1 hy with hy|hy
    ·exact⟨a,List.mem_cons_self,ra,ha,hy⟩
    ·obtain⟨x,hx,r,h1,h2⟩:=aY hb y hy
     exact⟨x,List.mem_cons_of_mem _ hx,r,h1,h2⟩
def ud (r:gV)(k:OE→aa→gV):gV:=match r with
 | none=>none
 | some l=>fg l fun x=>k x.1 x.2
noncomputable def zO (H:aa)(R:ai)(x:X):Option (List (T×aa)):=match x.ev R with
 | .ptr bi 0=>match H[bi]? with
  | some (.pZ b)=>match H[b]? with
   | some (.ct es ix wG _)=>if wG=bi then
     match ix with
     | []=>some [(.bo [.bool false],H.set b (.map es))]
     | _=>some (ix.filterMap fun i=>es[i]?.map fun e=>(.bo [.bool true,e.1,e.2],H.set b (.ct es (ix.erase i) bi (some i))))
    else none
   | _=>none
  | _=>none
 | _=>none
def BV:Bo→Option X
 | .hU x=>some x
 | _=>none
noncomputable def zP (R:ai)(g:Gd)(s:List Rd):Bo→Bool
 | .eX _ .slice x y=>match g,s,x.ev R,y.ev R with
  | none,[],.sl .arg [],.sl .nil []=>true
  | _,_,_,_=>false
 | _=>false
def kQ (H:aa)(b:Nat):Bool:=match H[b]? with
 | some (.loop .ready none _ _ _ _ _)=>true
 | _=>false
def tD (H:aa)(b:Nat):Bool:=match H[b]? with
 | some (.loop .busy none _ _ _ _ _)=>true
 | _=>false
noncomputable def BW (rec:JE→List Yc→aa→gV)(ctx:List Yc)(y:Yc)(vs:List T)(H:aa)(k:Bool→aa→gV):gV :=
 if kQ H y.b&&decide (vs.length=y.ps.length)then
  ud (rec (.code y.bh (mB y.L y.ps vs)) ctx H) fun o H1=>match o with
   | .ex .normal L1=>if kQ H1 y.b then
     ud (rec (.code y.body L1) ctx (H1.set y.b (.loop .busy none y.n (lk y.L) y.ps y.bh y.body))) fun o2 H2=>if tD H2 y.b then
      match o2 with
      | .ex .normal _=>k true (H2.set y.b (.loop .ready none y.n (lk y.L) y.ps y.bh y.body))
      | .ex e _=>k false (H2.set y.b (.loop .done (some e) y.n (lk y.L) y.ps y.bh y.body))
      | .val _=>none
      else none
    else none
   | _=>none
 else none
noncomputable def gC (rec:JE→List Yc→aa→gV)(ctx:List Yc):List O→cN→aa→gV
 | [],L,H=>some [(.ex .normal L,H)]
 | o :: l,L,H =>
  if av (lk L) o.g then
   match o.op with
   | .b b=>match tw (lk L) H b with
    | some (v,H')=>if fT (lk L) H' o.gO then gC rec ctx l (jw L o.d v) H' else none
    | none=>match BV b with
     | some x=>match zO H (lk L) x with
      | some r=>fg r fun p=>if fT (lk L) p.2 o.gO then gC rec ctx l (jw L o.d p.1) p.2 else none
      | none=>none
     | none=>if zP (lk L) o.g o.gO b then fg [true,false] fun t=>gC rec ctx l (jw L o.d (.bool t)) H else none
   | .call f az=>ud (rec (.call f (az.map (X.ev (lk L)))) ctx H) fun r H'=>match r with
    | .val v=>if fT (lk L) H' o.gO then gC rec ctx l (jw L o.d v) H' else none
    | _=>none
   | .bl x az=>match x.ev (lk L)with
    | .fn f cs=>ud (rec (.call f (az.map (X.ev (lk L))++cs)) ctx H) fun r H'=>match r with
     | .val v=>if fT (lk L) H' o.gO then gC rec ctx l (jw L o.d v) H' else none
     | _=>none
    | .gY b=>match ctx.find? fun y=>y.b==b with
     | some y=>BW rec ctx y (az.map (X.ev (lk L))) H fun t H'=>if fT (lk L) H' o.gO then gC rec ctx l (jw L o.d (.bool t)) H' else none
     | none=>none
    | _=>none
  else gC rec ctx l (jw L o.d aw) H
def oZ:Option Ex→Bool
 | some .normal=>true
 | _=>false
noncomputable def cO (rec:JE→List Yc→aa→gV)(ctx:List Yc):C→cN→aa→gV
 | .skip,L,H=>some [(.ex .normal L,H)]
 | .exit id,L,H=>some [(.ex (.exit id) L,H)]
 | .ret,L,H=>some [(.ex .ret L,H)]
 | .ops l,L,H=>gC rec ctx l L H
 | .seq a b,L,H=>ud (cO rec ctx a L H) fun o H'=>match o with
  | .ex .normal L'=>cO rec ctx b L' H'
  | o=>some [(o,H')]
 | .cond x a b,L,H=>match x.ev (lk L)with
  | .bool true=>cO rec ctx a L H
  | .bool false=>cO rec ctx b L H
  | _=>none
 | .block id a,L,H=>ud (cO rec ctx a L H) fun o H'=>match o with
  | .ex (.exit i) L'=>if i=id then some [(.ex .normal L',H')]else some [(.ex (.exit i) L',H')]
  | o=>some [(o,H')]
 | .loop a,L,H=>ud (cO rec ctx a L H) fun o H'=>match o with
  | .ex .normal L'=>rec (.code (.loop a) L') ctx H'
  | o=>some [(o,H')]
 | .bw n x ps bh body,L,H=>match x.ev (lk L)with
  | .fn f cs=>ud (rec (.call f (.gY (H.length+1) :: cs)) (⟨H.length+1,n,L,ps,bh,body⟩ :: ctx) (H++[.lj,.loop .ready none n (lk L) ps bh body])) fun o H'=>match o with
   | .val _=>match H'[H.length+1]? with
    | some (.loop st bz _ _ _ _ _)=>if st≠.busy∧oZ bz=false then some [(.ex (kv bz) (L.set n (fC (L.get n) H.length)),H'.set (H.length+1) .dead)]else none
    | _=>none
   | _=>none
  | _=>none
def zQ (H:aa)(b:Nat):Bool:=match H[b]? with
 | some .lj=>true
 | _=>false
def zR:T→Option Nat
 | .aQ b _ _ _=>some b
 | .bo vs=>vs.findSome? fun v=>match v with | .aQ b _ _ _=>some b|_=>none
 | _=>none
def BX (x:OE×aa):Option (OE×aa):=match x.1 with
 | .val v=>match zR v with
  | some b=>match x.2[b]? with
   | some (.cells cs)=>some (.val (mT b cs v),x.2.set b .dead)
   | _=>none
  | none=>none
 | _=>none
def kR:List (OE×aa)→Option (List (OE×aa))
 | []=>some []
 | x :: l=>match BX x,kR l with
  | some y,some m=>some (y :: m)
  | _,_=>none
def wj:Nat→List (OE×aa)→List (OE×aa)
 | 0,r=>r
 | n+1,r=>match kR r with
  | some r'=>wj n r'
  | none=>r
noncomputable def tE (fns:Nat→Option Fn)(rec:JE→List Yc→aa→gV)(ctx:List Yc)(f:Nat)(az:List T)(H:aa):gV:=match fns f with
 | some fn=>if az.length=fn.np then
   ud (rec (.code fn.body (zM az)) ctx H) fun o H'=>match o with
    | .val _=>none
    | .ex (.exit _) _=>none
    | .ex _ L'=>if fn.body.ep then
      match marks (L'.get fn.n)with
      | some bs=>if decide bs.Nodup&&bs.all (zQ H')then match fD (lk L') (kill H' bs) fn.res with
        | some v=>some [(.val v,kill H' bs)]
        | none=>none
       else none
      | none=>none
     else match fD (lk L') H' fn.res with
      | some v=>some [(.val v,H')]
      | none=>none
  else none
 | none=>none
noncomputable def tF (fns:Nat→Option Fn)(nT:Nat→Nat)(rec:JE→List Yc→aa→gV)(ctx:List Yc)(f:Nat)(az:List T)(H:aa):gV:=match tE fns rec ctx f az H with
 | some r=>some (wj (nT f) r)
 | none=>none
noncomputable def xu (fns:Nat→Option Fn)(nT:Nat→Nat)(rec:JE→List Yc→aa→gV):JE→List Yc→aa→gV
 | .code c L,ctx,H=>cO rec ctx c L H
 | .call f az,ctx,H=>tF fns nT rec ctx f az H
noncomputable def run (fns:Nat→Option Fn)(nT:Nat→Nat)(n:Nat):JE→List Yc→aa→gV :=
 Nat.rec (motive:=fun _=>JE→List Yc→aa→gV) (fun _ _ _=>none) (fun _ ih=>xu fns nT ih) n
def tG:gV→Bool
 | some r=>r.all fun x=>match x.1 with | .val (.bool true)=>true|_=>false
 | none=>false
section
variable {E:Env} {rec:JE→List Yc→aa→gV}
def Good (E:Env)(j:J)(H:aa)(res:List (OE×aa)):Prop:=W E j H (bK res)∧∀x∈res,bp H x.2
def jb (E:Env)(rec:JE→List Yc→aa→gV):Prop:=∀j ctx H res,ff ctx H→rec j ctx H=some res→Good E j.j H res
theorem bK.sub {a b:List (OE×aa)}(h:∀y∈a,y∈b):∀o H,bK a o H→bK b o H:=fun o H ⟨x,hx,h1,h2⟩=>⟨x,h x hx,h1,h2⟩
theorem kS {x:OE}{v:T}(h:x.out=.val v):x=.val v:=by
 cases x with
 | ex e L=>cases h
 | val v'=>cases h;rfl
theorem kT {x:OE}{e:Ex}{R:ai}(h:x.out=.ex e R):∃L,x=.ex e L∧lk L=R:=by
 cases x with
 | ex e' L=>cases h;exact⟨L,rfl,rfl⟩
 | val v'=>cases h
theorem wk {R:ai}{g:Gd}{s:List Rd}{b:Bo}(h:zP R g s b=true):∃neg x y,b=.eX neg .slice x y∧g=none∧s=[]∧x.ev R=.sl .arg []∧y.ev R=.sl .nil []:=by
 unfold zP at h
 split at h
 ·rename_i neg x y
  split at h
  ·rename_i h1 h2
   exact⟨neg,x,y,rfl,rfl,rfl,h1,h2⟩
  ·cases h
 ·cases h
theorem tH {ctx:List Yc}{b:Nat}{y:Yc}(h:ctx.find? (fun y=>y.b==b)=some y):y∈ctx∧y.b=b:=⟨List.mem_of_find?_eq_some h,by simpa using List.find?_some h⟩
theorem mE {H:aa}{b:Nat}(h:kQ H b=true):∃n R ps a c,H[b]?=some (.loop .ready none n R ps a c):=by
 unfold kQ at h
 split at h
 ·rename_i hb;exact⟨_,_,_,_,_,hb⟩
 ·cases h
theorem wm {H:aa}{b:Nat}(h:tD H b=true):∃n R ps a c,H[b]?=some (.loop .busy none n R ps a c):=by
 unfold tD at h
 split at h
 ·rename_i hb;exact⟨_,_,_,_,_,hb⟩
 ·cases h
theorem wo {H:aa}{R:ai}{x:X}{r:List (T×aa)}(h:zO H R x=some r):∃bi b es ix cur,x.ev R=.ptr bi 0∧H[b]?=some (.ct es ix bi cur)∧(∀t H',fE H b bi es ix t H'→(t,H')∈r)∧∀p∈r,bp H p.2:=by
 unfold zO at h
 split at h
 ·rename_i bi hx
  split at h
  ·rename_i b JV
   split at h
   ·rename_i es ix wG cur hb
    split at h
    ·rename_i he
     subst he
     refine⟨_,b,es,ix,cur,hx,hb,?_⟩
     split at h
     ·cases h
      refine⟨fun t H' hn=>?_,fun p hp=>?_⟩
      ·rcases hn with⟨_,rfl,rfl⟩|⟨i,e,hi,_⟩
       ·exact List.mem_singleton.2 rfl
       ·cases hi
      ·cases List.mem_singleton.1 hp
       exact bp.set _ hb (by intros;simp)
     ·rename_i aF
      cases h
      refine⟨fun t H' hn=>?_,fun p hp=>?_⟩
      ·rcases hn with⟨e,_⟩|⟨i,e,hi,he,rfl,rfl⟩
       ·exact absurd e aF
       ·exact List.mem_filterMap.2 ⟨i,hi,by rw[he];rfl⟩
      ·obtain⟨i,_,hi⟩:=List.mem_filterMap.1 hp
       rw[Option.map_eq_some_iff]at hi
       obtain⟨e,_,rfl⟩:=hi
       exact bp.set _ hb (by intros;simp)
    ·cases h
   ·cases h
  ·cases h
 ·cases h
theorem kj {f:Nat}{az:List T}{ctx:List Yc}{H:aa}{l:List O}{L:cN}{d:Option Nat}{s:List Rd}{res:List (OE×aa)}(hr:jb E rec)(hc:ff ctx H)
  (ih:∀L' H' res,ff ctx H'→gC rec ctx l L' H'=some res→Good E (.ops l (lk L')) H' res)
  (h:ud (rec (.call f az) ctx H) (fun r H'=>match r with
    | .val v=>if fT (lk L) H' s then gC rec ctx l (jw L d v) H' else none
    | _=>none)=some res) :
  ∃M:Out→aa→Prop,W E (.call f az) H M∧(∀v H',M (.val v) H'→cH (lk L) H' s)∧(∀v H',M (.val v) H'→W E (.ops l (aA (lk L) d v)) H' (bK res))∧∀x∈res,bp H x.2:=by
 cases h1:rec (.call f az) ctx H with
 | none=>rw[h1]at h;cases h
 | some r =>
  rw[h1]at h
  obtain⟨g1,g2⟩:=hr _ _ _ _ hc h1
  refine⟨bK r,g1,fun v H' hp=>?_,fun v H' hp=>?_,fun x hx=>?_⟩
  ·obtain⟨⟨o,H2⟩,hx,ho,rfl⟩:=hp
   cases kS ho
   obtain⟨r2,h2,_⟩:=aE h _ hx
   simp only at h2
   split at h2
   ·rename_i hs;exact eN hs
   ·cases h2
  ·obtain⟨⟨o,H2⟩,hx,ho,rfl⟩:=hp
   cases kS ho
   obtain⟨r2,h2,h3⟩:=aE h _ hx
   simp only at h2
   split at h2
   ·rw[←eW]
    exact(ih _ _ _ (hc.mono (g2 _ hx)) h2).1.use (bK.sub h3)
   ·cases h2
  ·obtain⟨⟨o,H2⟩,hy,r2,h2,h3⟩:=aY h x hx
   simp only at h2
   split at h2
   ·split at h2
    ·exact(g2 _ hy).trans ((ih _ _ _ (hc.mono (g2 _ hy)) h2).2 x h3)
    ·cases h2
   ·cases h2
theorem wq (hr:jb E rec)(ctx:List Yc):∀(l:List O) (L:cN) (H:aa) (res:List (OE×aa)),ff ctx H→gC rec ctx l L H=some res→Good E (.ops l (lk L)) H res:=by
 intro l
 induction l with
 | nil =>
  intro L H res hc h
  cases h
  exact⟨.nil ⟨_,List.mem_singleton.2 rfl,rfl,rfl⟩,fun x hx=>by cases List.mem_singleton.1 hx;exact bp.refl _⟩
 | cons o l ih =>
  intro L H res hc h
  obtain⟨d,op,g,s⟩:=o
  unfold gC at h
  simp only at h
  split at h
  ·rename_i hw
   split at h
   ·rename_i b
    split at h
    ·rename_i v H' he
     rw[tz]at he
     split at h
     ·rename_i hs
      have hp:=tu he
      obtain⟨g1,g2⟩:=ih _ _ _ (hc.mono hp) h
      rw[eW]at g1
      exact⟨.op hw he (eN hs) g1,fun x hx=>hp.trans (g2 x hx)⟩
     ·cases h
    ·split at h
     ·rename_i x hx
      have hb:b=.hU x:=by
       unfold BV at hx;split at hx<;>cases hx;rfl
      subst hb
      split at h
      ·rename_i r hn
       obtain⟨bi,bb,es,ix,cur,h1,h2,h3,h4⟩:=wo hn
       refine⟨.hU hw h1 h2 (fun t H' ht=>?_) (fun t H' ht=>?_),fun y hy=>?_⟩
       ·obtain⟨r2,k1,_⟩:=aE h _ (h3 t H' ht)
        simp only at k1
        split at k1
        ·rename_i hs;exact eN hs
        ·cases k1
       ·obtain⟨r2,k1,k2⟩:=aE h _ (h3 t H' ht)
        simp only at k1
        split at k1
        ·have:=(ih _ _ _ (hc.mono (h4 _ (h3 t H' ht))) k1).1
         rw[eW]at this
         exact this.use (bK.sub k2)
        ·cases k1
       ·obtain⟨p,hp,r2,k1,k2⟩:=aY h y hy
        split at k1
        ·exact(h4 p hp).trans ((ih _ _ _ (hc.mono (h4 p hp)) k1).2 y k2)
        ·cases k1
      ·cases h
     ·split at h
      ·rename_i hn
       obtain⟨neg,x,y,rfl,rfl,rfl,h1,h2⟩:=wk hn
       refine⟨.qh rfl (fun t=>?_) h1 h2 rfl,fun z hz=>?_⟩
       ·obtain⟨r2,k1,k2⟩:=aE h t (by cases t<;>simp)
        have:=(ih _ _ _ hc k1).1
        rw[eW]at this
        exact this.use (bK.sub k2)
       ·obtain⟨t,_,r2,k1,k2⟩:=aY h z hz
        exact(ih _ _ _ hc k1).2 z k2
      ·cases h
   ·obtain⟨M,m1,m2,m3,m4⟩:=kj hr hc ih h
    exact⟨.call M hw m1 m2 m3,m4⟩
   ·rename_i x az
    split at h
    ·rename_i hf
     obtain⟨M,m1,m2,m3,m4⟩:=kj hr hc ih h
     exact⟨.bl M hw hf m1 m2 m3,m4⟩
    ·rename_i b hf
     split at h
     ·rename_i y hy
      obtain⟨IP,rfl⟩:=tH hy
      unfold BW at h
      split at h
      ·rename_i aC
       simp only[Bool.and_eq_true,decide_eq_true_eq]at aC
       obtain⟨IQ,hlen⟩:=aC
       obtain⟨st,pp,hb⟩:=hc y IP
       obtain⟨n1,R1,E5,a1,c1,jC⟩:=mE IQ
       rw[hb]at jC;cases jC
       cases h1:rec (.code y.bh (mB y.L y.ps (az.map (X.ev (lk L))))) ctx H with
       | none=>rw[h1]at h;cases h
       | some r1 =>
        rw[h1]at h
        obtain⟨g1,g2⟩:=hr _ _ _ _ hc h1
        simp only[JE.j,xq]at g1
        have mid:∀L1 H1,(OE.ex .normal L1,H1)∈r1→H1[y.b]?=some (.loop .ready none y.n (lk y.L) y.ps y.bh y.body)∧∃r2,rec (.code y.body L1) ctx (H1.set y.b (.loop .busy none y.n (lk y.L) y.ps y.bh y.body))=some r2∧Good E (.code y.body (lk L1)) (H1.set y.b (.loop .busy none y.n (lk y.L) y.ps y.bh y.body)) r2:=by
         intro L1 H1 hm
         obtain⟨rk,k1,_⟩:=aE h _ hm
         simp only at k1
         split at k1
         ·rename_i E7
          obtain⟨Hs,JW,e1⟩:=g2 _ hm _ _ _ _ _ _ _ _ hb
          obtain⟨n1,R1,E5,a1,c1,jC⟩:=mE E7
          rw[e1]at jC;cases jC
          refine⟨e1,?_⟩
          cases h2:rec (.code y.body L1) ctx (H1.set y.b (.loop .busy none y.n (lk y.L) y.ps y.bh y.body))with
          | none=>rw[h2]at k1;cases k1
          | some r2=>exact⟨r2,rfl,hr _ _ _ _ ((hc.mono (g2 _ hm)).mono (bp.oV _ _ e1)) h2⟩
         ·cases k1
        have norm:∀x∈r1,∃L1,x.1=.ex .normal L1:=by
         rintro⟨o1,H1⟩ hx
         obtain⟨rk,k1,_⟩:=aE h _ hx
         simp only at k1
         split at k1
         ·exact⟨_,rfl⟩
         ·cases k1
        have last:∀L1 H1 r2,(OE.ex .normal L1,H1)∈r1→rec (.code y.body L1) ctx (H1.set y.b (.loop .busy none y.n (lk y.L) y.ps y.bh y.body))=some r2→∀o2 H2,(o2,H2)∈r2→H2[y.b]?=some (.loop .busy none y.n (lk y.L) y.ps y.bh y.body)∧bp H H2∧∃(e:Ex) (L2:cN),o2=.ex e L2 ∧
          ∃(t:Bool) (st:qa) (pe:Option Ex),((e=.normal∧t=true∧st=.ready∧pe=none)∨(e≠.normal∧t=false∧st=.done∧pe=some e))∧fT (lk L) (H2.set y.b (.loop st pe y.n (lk y.L) y.ps y.bh y.body)) s=true∧∃r3,gC rec ctx l (jw L d (.bool t)) (H2.set y.b (.loop st pe y.n (lk y.L) y.ps y.bh y.body))=some r3∧∀z∈r3,z∈res:=by
         intro L1 H1 r2 hm h2 o2 H2 ub
         obtain⟨e1,JX,mU,g3,g4⟩:=mid L1 H1 hm
         rw[h2]at mU;cases mU
         obtain⟨rk,k1,k2⟩:=aE h _ hm
         simp only at k1
         split at k1
         ·rw[h2]at k1
          obtain⟨rj,j1,j2⟩:=aE k1 _ ub
          simp only at j1
          have tI:=g4 _ ub
          have IS:(H1.set y.b (.loop .busy none y.n (lk y.L) y.ps y.bh y.body))[y.b]?=some (.loop .busy none y.n (lk y.L) y.ps y.bh y.body):=by rw[List.getElem?_set_self (List.getElem?_eq_some_iff.1 e1).1]
          obtain⟨JY,JZ,e2⟩:=tI _ _ _ _ _ _ _ _ IS
          split at j1
          ·rename_i n3
           obtain⟨n1,R1,E5,a1,c1,jC⟩:=wm n3
           rw[e2]at jC;cases jC
           refine⟨e2,((g2 _ hm).trans (bp.oV _ _ e1)).trans tI,?_⟩
           split at j1
           ·rename_i L2
            split at j1
            ·rename_i hs
             exact⟨.normal,L2,rfl,true,.ready,none,.inl ⟨rfl,rfl,rfl,rfl⟩,hs,rj,j1,fun z hz=>k2 z (j2 z hz)⟩
            ·cases j1
           ·rename_i e L2 aF
            split at j1
            ·rename_i hs
             exact⟨e,L2,rfl,false,.done,some e,.inr ⟨fun hh=>aF hh,rfl,rfl,rfl⟩,hs,rj,j1,fun z hz=>k2 z (j2 z hz)⟩
            ·cases j1
           ·cases j1
          ·cases j1
         ·cases k1
        let M:Out→aa→Prop:=fun o H2=>∃L1 H1 r2,(OE.ex .normal L1,H1)∈r1∧rec (.code y.body L1) ctx (H1.set y.b (.loop .busy none y.n (lk y.L) y.ps y.bh y.body))=some r2∧bK r2 o H2
        have fin:∀o H2,M o H2→∃e R2,o=.ex e R2∧H2[y.b]?=some (.loop .busy none y.n (lk y.L) y.ps y.bh y.body)∧bp H H2 ∧
          ∃(t:Bool) (st:qa) (pe:Option Ex),((e=.normal∧t=true∧st=.ready∧pe=none)∨(e≠.normal∧t=false∧st=.done∧pe=some e))∧fT (lk L) (H2.set y.b (.loop st pe y.n (lk y.L) y.ps y.bh y.body)) s=true∧W E (.ops l (aA (lk L) d (.bool t))) (H2.set y.b (.loop st pe y.n (lk y.L) y.ps y.bh y.body)) (bK res):=by
         rintro o H2⟨L1,H1,r2,hm,h2,⟨o2,IT⟩,ub,ho,rfl⟩
         obtain⟨e2,tI,e,L2,rfl,t,st,pe,dH,hs,r3,h3,h4⟩:=last L1 H1 r2 hm h2 o2 IT ub
         cases ho
         refine⟨e,lk L2,rfl,e2,tI,t,st,pe,dH,hs,?_⟩
         have:=(ih _ _ _ ((hc.mono tI).mono (bp.oV st pe e2)) h3).1
         rw[eW]at this
         exact this.use (bK.sub h4)
        refine⟨.gY (bK r1) M hw hf hb (by simpa using hlen) g1 ?_ ?_ ?_ ?_ ?_ ?_ ?_,fun x hx=>?_⟩
        ·rintro o H'⟨⟨o1,H1⟩,hm,ho,rfl⟩
         obtain⟨L1,rfl⟩:=norm _ hm
         cases ho
         exact⟨⟨_,rfl⟩,(mid _ _ hm).1⟩
        ·rintro R1 H1⟨⟨o1,IU⟩,hm,ho,rfl⟩
         obtain⟨L1,rfl,rfl⟩:=kT ho
         obtain⟨e1,r2,h2,g3,g4⟩:=mid _ _ hm
         exact g3.use fun o H2 hp=>⟨L1,IU,r2,hm,h2,hp⟩
        ·intro o H2 hM
         obtain⟨e,R2,_,e2,_⟩:=fin o H2 hM
         exact e2
        ·intro R2 H2 hM
         obtain⟨e,E8,ho,e2,tI,t,st,pe,dH,hs,hW⟩:=fin _ H2 hM
         cases ho
         rcases dH with⟨_,rfl,rfl,rfl⟩|⟨aF,_⟩
         ·exact eN hs
         ·exact absurd rfl aF
        ·intro R2 H2 hM
         obtain⟨e,E8,ho,e2,tI,t,st,pe,dH,hs,hW⟩:=fin _ H2 hM
         cases ho
         rcases dH with⟨_,rfl,rfl,rfl⟩|⟨aF,_⟩
         ·exact hW
         ·exact absurd rfl aF
        ·intro e R2 H2 hM aF
         obtain⟨e',E8,ho,e2,tI,t,st,pe,dH,hs,hW⟩:=fin _ H2 hM
         cases ho
         rcases dH with⟨he,_⟩|⟨_,rfl,rfl,rfl⟩
         ·exact absurd he aF
         ·exact eN hs
        ·intro e R2 H2 hM aF
         obtain⟨e',E8,ho,e2,tI,t,st,pe,dH,hs,hW⟩:=fin _ H2 hM
         cases ho
         rcases dH with⟨he,_⟩|⟨_,rfl,rfl,rfl⟩
         ·exact absurd he aF
         ·exact hW
        ·obtain⟨⟨o1,H1⟩,hm,rk,k1,k2⟩:=aY h x hx
         obtain⟨L1,he⟩:=norm _ hm
         cases he
         obtain⟨e1,r2,h2,g3,g4⟩:=mid _ _ hm
         simp only at k1
         split at k1
         ·rw[h2]at k1
          obtain⟨⟨o2,H2⟩,ub,rj,j1,j2⟩:=aY k1 x k2
          obtain⟨e2,tI,e,L2,rfl,t,st,pe,dH,hs,r3,h3,h4⟩:=last L1 H1 r2 hm h2 o2 H2 ub
          have DQ:=tI.trans (bp.oV st pe e2)
          refine DQ.trans ((ih _ _ _ (hc.mono DQ) h3).2 x ?_)
          simp only at j1
          split at j1
          ·rcases dH with⟨rfl,rfl,rfl,rfl⟩|⟨aF,rfl,rfl,rfl⟩
           ·simp only[hs,if_true]at j1
            rw[h3]at j1;cases j1;exact j2
           ·cases e with
            | normal=>exact absurd rfl aF
            | _ =>
             simp only[hs,if_true]at j1
             rw[h3]at j1;cases j1;exact j2
          ·cases j1
         ·cases k1
      ·cases h
     ·cases h
    ·cases h
  ·rename_i hw
   obtain⟨g1,g2⟩:=ih _ _ _ hc h
   rw[eW]at g1
   exact⟨.no (by simpa using hw) g1,g2⟩
theorem tJ (hr:jb E rec)(ctx:List Yc):∀(c:C) (L:cN) (H:aa) (res:List (OE×aa)),ff ctx H→cO rec ctx c L H=some res→Good E (.code c (lk L)) H res:=by
 intro c
 induction c with
 | skip=>intro L H res hc h;cases h;exact⟨.skip ⟨_,List.mem_singleton.2 rfl,rfl,rfl⟩,fun x hx=>by cases List.mem_singleton.1 hx;exact bp.refl _⟩
 | exit id=>intro L H res hc h;cases h;exact⟨.exit ⟨_,List.mem_singleton.2 rfl,rfl,rfl⟩,fun x hx=>by cases List.mem_singleton.1 hx;exact bp.refl _⟩
 | ret=>intro L H res hc h;cases h;exact⟨.ret ⟨_,List.mem_singleton.2 rfl,rfl,rfl⟩,fun x hx=>by cases List.mem_singleton.1 hx;exact bp.refl _⟩
 | ops l =>
  intro L H res hc h
  obtain⟨g1,g2⟩:=wq hr ctx l L H res hc h
  exact⟨.Av g1,g2⟩
 | seq a b xv BZ =>
  intro L H res hc h
  unfold cO at h
  cases h1:cO rec ctx a L H with
  | none=>rw[h1]at h;cases h
  | some r1 =>
   rw[h1]at h
   obtain⟨g1,g2⟩:=xv _ _ _ hc h1
   refine⟨.seq (bK r1) g1 ?_ ?_,fun x hx=>?_⟩
   ·rintro R' H'⟨⟨o,H2⟩,hm,ho,rfl⟩
    obtain⟨L',rfl,rfl⟩:=kT ho
    obtain⟨r2,k1,k2⟩:=aE h _ hm
    exact(BZ _ _ _ (hc.mono (g2 _ hm)) k1).1.use (bK.sub k2)
   ·rintro o H'⟨⟨o1,H2⟩,hm,rfl,rfl⟩ aF
    obtain⟨r2,k1,k2⟩:=aE h _ hm
    simp only at k1
    split at k1
    ·exact absurd rfl (aF _)
    ·cases k1;exact⟨_,k2 _ (List.mem_singleton.2 rfl),rfl,rfl⟩
   ·obtain⟨⟨o1,H2⟩,hm,r2,k1,k2⟩:=aY h x hx
    simp only at k1
    split at k1
    ·exact(g2 _ hm).trans ((BZ _ _ _ (hc.mono (g2 _ hm)) k1).2 x k2)
    ·cases k1;cases List.mem_singleton.1 k2;exact g2 _ hm
 | cond x a b xv BZ =>
  intro L H res hc h
  unfold cO at h
  split at h
  ·rename_i hx
   obtain⟨g1,g2⟩:=xv _ _ _ hc h
   exact⟨.cond true hx (by rw[if_pos rfl];exact g1),g2⟩
  ·rename_i hx
   obtain⟨g1,g2⟩:=BZ _ _ _ hc h
   exact⟨.cond false hx (by rw[if_neg (by simp)];exact g1),g2⟩
  ·cases h
 | block id a xv =>
  intro L H res hc h
  unfold cO at h
  cases h1:cO rec ctx a L H with
  | none=>rw[h1]at h;cases h
  | some r1 =>
   rw[h1]at h
   obtain⟨g1,g2⟩:=xv _ _ _ hc h1
   refine⟨.block (bK r1) g1 ?_ ?_,fun x hx=>?_⟩
   ·rintro R' H'⟨⟨o,H2⟩,hm,ho,rfl⟩
    obtain⟨L',rfl,rfl⟩:=kT ho
    obtain⟨r2,k1,k2⟩:=aE h _ hm
    simp only[if_true]at k1
    cases k1
    exact⟨_,k2 _ (List.mem_singleton.2 rfl),rfl,rfl⟩
   ·rintro o H'⟨⟨o1,H2⟩,hm,rfl,rfl⟩ aF
    obtain⟨r2,k1,k2⟩:=aE h _ hm
    simp only at k1
    split at k1
    ·split at k1
     ·rename_i e;subst e;exact absurd rfl (aF _)
     ·cases k1;exact⟨_,k2 _ (List.mem_singleton.2 rfl),rfl,rfl⟩
    ·cases k1;exact⟨_,k2 _ (List.mem_singleton.2 rfl),rfl,rfl⟩
   ·obtain⟨⟨o1,H2⟩,hm,r2,k1,k2⟩:=aY h x hx
    simp only at k1
    have hp:=g2 _ hm
    split at k1
    ·split at k1
     ·cases k1;cases List.mem_singleton.1 k2;exact hp
     ·cases k1;cases List.mem_singleton.1 k2;exact hp
    ·cases k1;cases List.mem_singleton.1 k2;exact hp
 | loop a xv =>
  intro L H res hc h
  unfold cO at h
  cases h1:cO rec ctx a L H with
  | none=>rw[h1]at h;cases h
  | some r1 =>
   rw[h1]at h
   obtain⟨g1,g2⟩:=xv _ _ _ hc h1
   refine⟨.loop (bK r1) g1 ?_ ?_,fun x hx=>?_⟩
   ·rintro R' H'⟨⟨o,H2⟩,hm,ho,rfl⟩
    obtain⟨L',rfl,rfl⟩:=kT ho
    obtain⟨r2,k1,k2⟩:=aE h _ hm
    exact(hr _ _ _ _ (hc.mono (g2 _ hm)) k1).1.use (bK.sub k2)
   ·rintro o H'⟨⟨o1,H2⟩,hm,rfl,rfl⟩ aF
    obtain⟨r2,k1,k2⟩:=aE h _ hm
    simp only at k1
    split at k1
    ·exact absurd rfl (aF _)
    ·cases k1;exact⟨_,k2 _ (List.mem_singleton.2 rfl),rfl,rfl⟩
   ·obtain⟨⟨o1,H2⟩,hm,r2,k1,k2⟩:=aY h x hx
    simp only at k1
    split at k1
    ·exact(g2 _ hm).trans ((hr _ _ _ _ (hc.mono (g2 _ hm)) k1).2 x k2)
    ·cases k1;cases List.mem_singleton.1 k2;exact g2 _ hm
 | bw n x ps bh body xv BZ =>
  intro L H res hc h
  unfold cO at h
  split at h
  ·rename_i f cs hf
   have hg:(H++[B.lj,.loop .ready none n (lk L) ps bh body])[H.length+1]?=some (.loop .ready none n (lk L) ps bh body):=by
    rw[List.getElem?_append_right (by omega)]
    have:H.length+1-H.length=1:=by omega
    rw[this];rfl
   have uW:ff (⟨H.length+1,n,L,ps,bh,body⟩ :: ctx) (H++[B.lj,.loop .ready none n (lk L) ps bh body]):=fun y hy=>by
    rcases List.mem_cons.1 hy with rfl|hy
    ·exact⟨_,_,hg⟩
    ·exact hc.mono (bp.app _ _) y hy
   cases h1:rec (.call f (.gY (H.length+1) :: cs)) (⟨H.length+1,n,L,ps,bh,body⟩ :: ctx) (H++[.lj,.loop .ready none n (lk L) ps bh body])with
   | none=>rw[h1]at h;cases h
   | some r1 =>
    rw[h1]at h
    obtain⟨g1,g2⟩:=hr _ _ _ _ uW h1
    have key:∀v H',(OE.val v,H')∈r1→∃st bz,st≠.busy∧bz≠some .normal∧H'[H.length+1]?=some (.loop st bz n (lk L) ps bh body)∧(OE.ex (kv bz) (L.set n (fC (L.get n) H.length)),H'.set (H.length+1) .dead)∈res:=by
     intro v H' hm
     obtain⟨r2,k1,k2⟩:=aE h _ hm
     simp only at k1
     obtain⟨jf,IV,e1⟩:=g2 _ hm _ _ _ _ _ _ _ _ hg
     rw[e1]at k1
     simp only at k1
     split at k1
     ·rename_i aC
      cases k1
      refine⟨jf,IV,aC.1,fun e=>?_,e1,k2 _ (List.mem_singleton.2 rfl)⟩
      rw[e]at aC;exact absurd aC.2 (by simp[oZ])
     ·cases k1
    refine⟨.bw (bK r1) hf g1 ?_,fun y hy=>?_⟩
    ·rintro v H'⟨⟨o,H2⟩,hm,ho,rfl⟩
     cases kS ho
     obtain⟨st,bz,k1,k2,k3,k4⟩:=key v H2 hm
     refine⟨st,bz,k1,k2,k3,_,k4,?_,rfl⟩
     simp only[OE.out]
     rw[nR]
    ·obtain⟨⟨o,H2⟩,hm,r2,k1,k2⟩:=aY h y hy
     simp only at k1
     split at k1
     ·split at k1
      ·split at k1
       ·cases k1;cases List.mem_singleton.1 k2
        intro b st p n R ps a c hb
        have aD:=(List.getElem?_eq_some_iff.1 hb).1
        obtain⟨jf,p',cY⟩:=((bp.app _ _).trans (g2 _ hm)) b st p n R ps a c hb
        exact⟨jf,p',by rw[List.getElem?_set_ne (by omega)];exact cY⟩
       ·cases k1
      ·cases k1
     ·cases k1
  ·cases h
theorem mF:∀(bs:List Nat) (H:aa),(∀b∈bs,H[b]?=some .lj)→bs.Nodup→bp H (kill H bs)
 | [],H,_,_=>bp.refl _
 | b :: bs,H,h,hn=>by
  have hb:=h b List.mem_cons_self
  have wJ:=List.nodup_cons.1 hn
  refine(bp.set .dead hb (by intros;simp)).trans (mF bs _ (fun b' cY=>?_) wJ.2)
  rw[List.getElem?_set_ne (by rintro rfl;exact wJ.1 cY)]
  exact h b' (List.mem_cons_of_mem _ cY)
theorem zS {H:aa}{b:Nat}(h:zQ H b=true):H[b]?=some .lj:=by
 unfold zQ at h
 split at h
 ·rename_i hb;exact hb
 ·cases h
theorem tK (hr:jb E rec){ctx:List Yc}{f:Nat}{az:List T}{H:aa}{res:List (OE×aa)}(hc:ff ctx H)(h:tE E.fn rec ctx f az H=some res):Good E (.call f az) H res∧∀x∈res,∃v,x.1=.val v:=by
 unfold tE at h
 split at h
 ·rename_i fn hf
  split at h
  ·rename_i hn
   cases h1:rec (.code fn.body (zM az)) ctx H with
   | none=>rw[h1]at h;cases h
   | some r1 =>
    rw[h1]at h
    obtain⟨g1,g2⟩:=hr _ _ _ _ hc h1
    simp only[JE.j,E6]at g1
    have nv:∀o H',(o,H')∈r1→∃e L',o=.ex e L'∧(e=.normal∨e=.ret):=by
     intro o H' hm
     obtain⟨r2,k1,_⟩:=aE h _ hm
     simp only at k1
     split at k1
     ·cases k1
     ·cases k1
     ·rename_i e L' aF
      refine⟨e,L',rfl,?_⟩
      cases e with
      | normal=>exact .inl rfl
      | ret=>exact .inr rfl
      | exit id=>exact absurd rfl (aF id)
    cases hR:fn.body.ep with
    | false =>
     have key:∀e L' H',(OE.ex e L',H')∈r1→∃v,fD (lk L') H' fn.res=some v∧(OE.val v,H')∈res:=by
      intro e L' H' hm
      obtain⟨r2,k1,k2⟩:=aE h _ hm
      simp only at k1
      split at k1
      ·cases k1
      ·cases k1
      ·rename_i e' L2 aF he
       cases he
       rw[hR]at k1
       simp only[Bool.false_eq_true,if_false]at k1
       split at k1
       ·rename_i v hv
        cases k1
        exact⟨v,hv,k2 _ (List.mem_singleton.2 rfl)⟩
       ·cases k1
     refine⟨⟨.fn (bK r1) hf hR hn g1 ?_,fun x hx=>?_⟩,fun x hx=>?_⟩
     ·rintro o H'⟨⟨o1,H2⟩,hm,rfl,rfl⟩
      obtain⟨e,L',rfl,he⟩:=nv _ _ hm
      obtain⟨v,k1,k2⟩:=key _ _ _ hm
      refine⟨lk L',?_,v,k1,_,k2,rfl,rfl⟩
      rcases he with rfl|rfl
      ·exact .inl rfl
      ·exact .inr rfl
     ·obtain⟨⟨o1,H2⟩,hm,r2,k1,k2⟩:=aY h x hx
      obtain⟨e,L',rfl,he⟩:=nv _ _ hm
      have hp:=g2 _ hm
      simp only at k1
      split at k1
      ·cases k1
      ·cases k1
      ·rw[hR]at k1
       simp only[Bool.false_eq_true,if_false]at k1
       split at k1
       ·cases k1;cases List.mem_singleton.1 k2;exact hp
       ·cases k1
     ·obtain⟨⟨o1,H2⟩,hm,r2,k1,k2⟩:=aY h x hx
      obtain⟨e,L',rfl,he⟩:=nv _ _ hm
      simp only at k1
      split at k1
      ·cases k1
      ·cases k1
      ·rw[hR]at k1
       simp only[Bool.false_eq_true,if_false]at k1
       split at k1
       ·cases k1;cases List.mem_singleton.1 k2;exact⟨_,rfl⟩
       ·cases k1
    | true =>
     have key:∀e L' H',(OE.ex e L',H')∈r1→∃bs v,marks (L'.get fn.n)=some bs∧bs.Nodup∧(∀b∈bs,H'[b]?=some .lj)∧fD (lk L') (kill H' bs) fn.res=some v∧(OE.val v,kill H' bs)∈res:=by
      intro e L' H' hm
      obtain⟨r2,k1,k2⟩:=aE h _ hm
      simp only at k1
      split at k1
      ·cases k1
      ·cases k1
      ·rename_i e' L2 aF he
       cases he
       rw[hR]at k1
       simp only[if_true]at k1
       split at k1
       ·rename_i bs n3
        split at k1
        ·rename_i aC
         simp only[Bool.and_eq_true,decide_eq_true_eq]at aC
         split at k1
         ·rename_i v hv
          cases k1
          exact⟨bs,v,n3,aC.1,fun b hb=>zS (List.all_eq_true.1 aC.2 b hb),hv,k2 _ (List.mem_singleton.2 rfl)⟩
         ·cases k1
        ·cases k1
       ·cases k1
     have rest:∀x∈res,bp H x.2∧∃v,x.1=.val v:=by
      intro x hx
      obtain⟨⟨o1,H2⟩,hm,r2,k1,k2⟩:=aY h x hx
      obtain⟨e,L',rfl,he⟩:=nv _ _ hm
      obtain⟨bs,v,q1,q2,q3,q4,q5⟩:=key _ _ _ hm
      simp only at k1
      split at k1
      ·cases k1
      ·cases k1
      ·rename_i e' L2 aF wK
       cases wK
       rw[hR,q1]at k1
       simp only[if_true]at k1
       split at k1
       ·rw[q4]at k1
        cases k1;cases List.mem_singleton.1 k2
        exact⟨(g2 _ hm).trans (mF bs H2 q3 q2),v,rfl⟩
       ·cases k1
     refine⟨⟨.DA (bK r1) hf hn g1 ?_,fun x hx=>(rest x hx).1⟩,fun x hx=>(rest x hx).2⟩
     rintro o H'⟨⟨o1,H2⟩,hm,rfl,rfl⟩
     obtain⟨e,L',rfl,he⟩:=nv _ _ hm
     obtain⟨bs,v,q1,q2,q3,q4,q5⟩:=key _ _ _ hm
     refine⟨lk L',bs,?_,q1,q2,q3,v,q4,_,q5,rfl,rfl⟩
     rcases he with rfl|rfl
     ·exact .inl rfl
     ·exact .inr rfl
  ·cases h
 ·cases h
theorem wu {v:T}{b:Nat}(h:zR v=some b):hZ b v:=by
 unfold zR at h
 split at h
 ·cases h;rfl
 ·rename_i vs
  obtain⟨x,hx,h1⟩:=List.exists_of_findSome?_eq_some h
  split at h1
  ·cases h1;exact⟨_,_,_,hx⟩
  ·cases h1
 ·cases h
theorem ko:∀{r r':List (OE×aa)},kR r=some r'→(∀x∈r,∃v b cs,x.1=.val v∧hZ b v∧x.2[b]?=some (.cells cs)∧(OE.val (mT b cs v),x.2.set b .dead)∈r')∧∀y∈r',∃x∈r,∃v,y.1=.val v∧bp x.2 y.2
 | [],_,h=>by cases h;exact⟨fun x hx=>absurd hx List.not_mem_nil,fun x hx=>absurd hx List.not_mem_nil⟩
 | x :: l,r',h=>by
  unfold kR at h
  split at h
  ·rename_i y m h1 h2
   cases h
   obtain⟨i1,i2⟩:=ko h2
   have AM:∃v b cs,x.1=.val v∧hZ b v∧x.2[b]?=some (.cells cs)∧(OE.val (mT b cs v),x.2.set b .dead)=y:=by
    unfold BX at h1
    split at h1
    ·rename_i v hv
     split at h1
     ·rename_i b hb
      split at h1
      ·rename_i cs kX
       cases h1
       exact⟨v,b,cs,hv,wu hb,kX,rfl⟩
      ·cases h1
     ·cases h1
    ·cases h1
   obtain⟨v,b,cs,k1,k2,k3,k4⟩:=AM
   refine⟨fun z hz=>?_,fun z hz=>?_⟩
   ·rcases List.mem_cons.1 hz with rfl|hz
    ·exact⟨v,b,cs,k1,k2,k3,by rw[k4];exact List.mem_cons_self⟩
    ·obtain⟨v,b,cs,a1,a2,a3,a4⟩:=i1 z hz
     exact⟨v,b,cs,a1,a2,a3,List.mem_cons_of_mem _ a4⟩
   ·rcases List.mem_cons.1 hz with rfl|hz
    ·rw[←k4];exact⟨x,List.mem_cons_self,_,rfl,bp.set _ k3 (by intros;simp)⟩
    ·obtain⟨w,hw,a⟩:=i2 z hz
     exact⟨w,List.mem_cons_of_mem _ hw,a⟩
  ·cases h
theorem o3 {f:Nat}{az:List T}{H:aa}:∀(n:Nat) {r:List (OE×aa)},Good E (.call f az) H r→Good E (.call f az) H (wj n r)
 | 0,r,h=>h
 | n+1,r,h=>by
  unfold wj
  split
  ·rename_i r' hr
   obtain⟨i1,i2⟩:=ko hr
   refine o3 n ⟨.p0 (bK r) h.1 ?_,fun y hy=>?_⟩
   ·rintro o H'⟨x,hx,rfl,rfl⟩
    obtain⟨v,b,cs,a1,a2,a3,a4⟩:=i1 x hx
    exact⟨v,b,cs,by rw[a1];rfl,a2,a3,_,a4,rfl,rfl⟩
   ·obtain⟨x,hx,_,_,hp⟩:=i2 y hy
    exact(h.2 x hx).trans hp
  ·exact h
theorem tL {nT:Nat→Nat}(hr:jb E rec):jb E (xu E.fn nT rec):=fun j ctx H res hc h=>by
 cases j with
 | code c L=>exact tJ hr ctx c L H res hc h
 | call f az =>
  have h:tF E.fn nT rec ctx f az H=some res:=h
  unfold tF at h
  split at h
  ·rename_i r e7
   cases h
   exact o3 _ (tK hr hc e7).1
  ·cases h
end
theorem tM (E:Env)(nT:Nat→Nat):∀n,jb E (run E.fn nT n)
 | 0=>fun j ctx H res hc h=>by cases h
 | n+1=>tL (tM E nT n)
theorem W.closed {E:Env}{f:Nat}(nT:Nat→Nat)(n:Nat)(az:List T)(H:aa)(h:tG (run E.fn nT n (.call f az) [] H)=true):W E (.call f az) H (fun o _=>o=.val (.bool true)):=by
 cases h1:run E.fn nT n (.call f az) [] H with
 | none=>rw[h1]at h;cases h
 | some r =>
  rw[h1]at h
  refine(tM E nT n _ _ _ _ (fun y hy=>by cases hy) h1).1.use fun o H' ⟨x,hx,ho,_⟩=>?_
  have:=List.all_eq_true.1 h x hx
  split at this
  ·rename_i hv;rw[←ho,hv];rfl
  ·cases this
end Go.Rmp
end

section
namespace Go.Rmp
theorem pX {P:Program}{w0 w:World}{name:String}{k:IntKind}{zs:List Int}(h:Lib.TabIs P w0 name k zs)(ho:∀r,r<w0.heap.size→w.heap[r]?=w0.heap[r]?):Lib.TabIs P w name k zs:=by
 unfold Lib.TabIs World.var? at h ⊢
 cases hg:P.globalNamed name with
 | none=>rw[hg]at h;cases h
 | some g =>
  rw[hg]at h
  simp only[Option.bind_some]at h ⊢
  have aD:g<w0.heap.size:=by
   cases hr:w0.heap[g]? with
   | none=>rw[hr]at h;cases h
   | some x=>exact(Array.getElem?_eq_some_iff.1 hr).1
  rw[ho g aD];exact h
theorem SR.grown {w0 w:World}{g:Ctx}{H:aa}(h:SR w0 g H w)(k:Nat)(os:Array Obj):SR w0 g H (Sort.grow (w.drewN k) os)∧Le g w g (Sort.grow (w.drewN k) os):=by
 have jo:∀r,r<w.heap.size→(Sort.grow (w.drewN k) os).heap[r]?=w.heap[r]?:=fun r hr=>by
  show(w.heap++os)[r]?=_
  rw[Array.getElem?_append_left hr]
 have hc:∀r j,r<w.heap.size→(Sort.grow (w.drewN k) os).cell? ⟨r,j,none⟩=w.cell? ⟨r,j,none⟩:=fun r j hr=>by unfold World.cell?;rw[jo r hr]
 have tr:Tr w (Sort.grow (w.drewN k) os) b7 cL:=⟨⟨by show w.heap.size≤(w.heap++os).size;simp,fun r j hr _=>hc r j hr,fun r j hr hs=>by rw[hc r j hr];exact hs,fun r x _ _ hx=>by
  rw[jo r (Array.getElem?_eq_some_iff.1 hx).1];exact hx,fun r hr _ _=>jo r hr,rfl,rfl⟩,fun r j hr=>by unfold World.frozen?;rw[jo r hr]⟩
 have le:Le g w g (Sort.grow (w.drewN k) os):=Le.cz tr (fun _ _ h=>h) (fun _ _ h=>h) (fun _ _ _ h=>h) (fun _ _ hs=>hs.elim)
 refine⟨?_,le⟩
 have b6:w.heap.size≤(Sort.grow (w.drewN k) os).heap.size:=by show w.heap.size≤(w.heap++os).size;simp
 exact h.step (fun _=>False) tr le (fun _ _ hs=>hs.elim) (fun _ hm=>hm.elim) (fun r o hr=>h.fresh r o (Nat.le_trans b6 hr)) h.gG h.cd (fun _ _ _=>rfl) (fun _ _ _ _=>⟨id,id⟩) (fun _ _ _ _=>rfl) (fun b x hx=>.inl ⟨id,hx⟩)
theorem o4 {P:Program}{w:World}:∀{l:List (String×DataW Unit)} {ps:List MemPlace},DataW.LaidVars P w l ps→∀(i:Nat) (n:String) (d:DataW Unit),l[i]?=some (n,d)→∃g t cs fuel p,P.globalNamed n=some g∧(P.globals[g]?).map (·.type)=some t∧w.var? P n=some cs∧DataW.trod (fun _=>()) P w 0 (fun _=>true) false fuel t cs.toList=some (d,p)
 | [],_,_,i,n,d,hi=>by simp at hi
 | (n0,d0) :: r,ps,h,i,n,d,hi=>by
  obtain⟨g,t,cs,fuel,p,q,h1,h2,h3,h4,h5,_⟩:=h
  cases i with
  | zero =>
   simp only[List.getElem?_cons_zero,Option.some.injEq,Prod.mk.injEq]at hi
   obtain⟨rfl,rfl⟩:=hi
   exact⟨g,t,cs,fuel,p,h1,h2,h3,h4⟩
  | succ i=>exact o4 h5 i n d (by simpa using hi)
theorem tN {P:Program}{W:World}{name:String}{k:IntKind}{zs:List Int}{l:List (String×DataW Unit)}{g:Nat}{t e:TypeId}{n:Nat}(i:Nat)(hi:l[i]?=some (name,Lib.tabData k zs))
  (hg:P.globalNamed name=some g) (p4:(P.globals[g]?).map (·.type)=some t) (ht:P.underlying t=some (.array n e)) (he:P.underlying e=some (.int k)) (IW:P.cellsOf e=1) (IX:P.cellsOf t=n) (h:laidMet P l W):Lib.TabIs P W name k zs:=by
 obtain⟨ps,hv,_⟩:=h
 obtain⟨g',t',cs,fuel,p,A5,ED,E9,hd⟩:=o4 hv i _ _ hi
 obtain rfl:=Option.some.inj (hg.symm.trans A5)
 obtain rfl:=Option.some.inj (p4.symm.trans ED)
 unfold Lib.TabIs
 rw[E9,←Lib.cells_of_tab ht he IW IX hd]
def o5 (P:Program) (w:World):Prop:=Lib.TabIs P w "internal/strconv.uint64pow10" .u64 Lib.pow10Tab
def nU (F f:Nat)(az:List T)(H:aa)(Q:T→aa→Prop):Prop:=f=F∧∃n:Int,az=[.int .i64 n,.int .i64 10]∧-9223372036854775808≤n∧n≤9223372036854775807∧Q (.str ⟨(Lib.itoa n).toArray⟩) H
theorem pY {F f:Nat}{az:List T}{H:aa}{Q Q':T→aa→Prop}(h:nU F f az H Q)(hq:∀t H',Q t H'→Q' t H'):nU F f az H Q':=by
 obtain⟨h1,n,h2,h3,h4,h5⟩:=h
 exact⟨h1,n,h2,h3,h4,hq _ _ h5⟩
theorem wv {P:Program}{w0:World}{F:Nat}(db:bc P F=true)(zT:o5 P w0)
  (hF:∀(n:Int),-9223372036854775808≤n→n≤9223372036854775807→∀w:World,o5 P w→Calls P F #[.int .i64 n,.int .i64 10] w fun e w'=>e=.returned (.string ⟨(Lib.itoa n).toArray⟩)∧∃k os,w'=Sort.grow (w.drewN k) os)
  {f:Nat} {az:List T} {H:aa} {Q:T→aa→Prop} (h:nU F f az H Q) (g:Ctx) (w:World) (args:List Value) (sr:SR w0 g H w) (hv:ay g w az args):bc P f=true∧CallsIn (Fw none) 0 P f args.toArray w (iJ w0 g w H Q):=by
 obtain⟨rfl,n,rfl,h1,h2,hq⟩:=h
 obtain⟨hl,hv⟩:=hv
 obtain⟨a,b,rfl⟩:∃a b,args=[a,b]:=by
  match args,hl with
  | [a,b],_=>exact⟨a,b,rfl⟩
 have ha:=hv 0 _ a rfl rfl
 have hb:=hv 1 _ b rfl rfl
 cases ha;cases hb
 refine⟨db,callsIn_wide.2 ((hF n h1 h2 w (pX zT sr.er)).mono fun e w' he=>?_)⟩
 obtain⟨rfl,k,os,rfl⟩:=he
 obtain⟨cW,le⟩:=sr.grown k os
 exact⟨_,_,g,H,rfl,hq,le,cW,.str _,.refl _ _⟩
theorem W.nU {E:Env}{f:Nat}{n:Int}{H:aa}{Q:Out→aa→Prop}(hE:∀az H Q,Go.Rmp.nU f f az H Q→E.fY f az H Q)(h1:-9223372036854775808≤n)(h2:n≤9223372036854775807)(h:Q (.val (.str ⟨(Lib.itoa n).toArray⟩)) H):W E (.call f [.int .i64 n,.int .i64 10]) H Q :=
 W.fY (hE _ _ _ ⟨rfl,n,rfl,h1,h2,h⟩)
def nS (S l:List Nat):Bool:=l.all fun t=>!S.elem t
end Go.Rmp
end

section
namespace Go.Proofs
open Go.Shelf
def Tryz.mG:Go.Shelf.Ren:=⟨fun|173=>42|246=>77|283=>130|284=>131|285=>132|286=>133|129=>172|317=>171|318=>173|319=>174|320=>175|337=>215|338=>216|n=>n,fun|2=>2|3=>3|9=>9|4=>4|171=>214|0=>0|53=>53|37=>67|5=>5|173=>217|212=>250|51=>176|20=>20|213=>251|46=>200|232=>299|233=>300|n=>n,fun|17=>0|18=>1|19=>2|n=>n⟩
theorem Tryz.wx:Go.Proofs.LaysM.n173 Tryz.prog Tryz.mG:={
 mixed:=by kernel_rfl
 f129:=Tryz.func172.trans (congrArg some (by kernel_rfl))
 f173:=Tryz.func42.trans (congrArg some (by kernel_rfl))
 f246:=Tryz.func77.trans (congrArg some (by kernel_rfl))
 f283:=Tryz.func130.trans (congrArg some (by kernel_rfl))
 f284:=Tryz.func131.trans (congrArg some (by kernel_rfl))
 f285:=Tryz.func132.trans (congrArg some (by kernel_rfl))
 f286:=Tryz.func133.trans (congrArg some (by kernel_rfl))
 f317:=Tryz.func171.trans (congrArg some (by kernel_rfl))
 f318:=Tryz.func173.trans (congrArg some (by kernel_rfl))
 f319:=Tryz.func174.trans (congrArg some (by kernel_rfl))
 f320:=Tryz.func175.trans (congrArg some (by kernel_rfl))
 f337:=Tryz.func215.trans (congrArg some (by kernel_rfl))
 f338:=Tryz.func216.trans (congrArg some (by kernel_rfl))
 t0:=Tryz.underlying0
 a0:=Tryz.isAgg0
 z0:=Tryz.sizeOf0
 v0:=Tryz.zeroValue0
 t2:=Tryz.underlying2
 a2:=Tryz.isAgg2
 z2:=Tryz.sizeOf2
 v2:=Tryz.zeroValue2
 t3:=Tryz.underlying3
 a3:=Tryz.isAgg3
 z3:=Tryz.sizeOf3
 v3:=Tryz.zeroValue3
 t4:=Tryz.underlying4
 a4:=Tryz.isAgg4
 z4:=Tryz.sizeOf4
 v4:=Tryz.zeroValue4
 t5:=Tryz.underlying5
 a5:=Tryz.isAgg5
 z5:=Tryz.sizeOf5
 v5:=Tryz.zeroValue5
 t9:=Tryz.underlying9
 a9:=Tryz.isAgg9
 z9:=Tryz.sizeOf9
 v9:=Tryz.zeroValue9
 t20:=Tryz.underlying20
 a20:=Tryz.isAgg20
 z20:=Tryz.sizeOf20
 v20:=Tryz.zeroValue20
 t37:=Tryz.underlying67
 a37:=Tryz.isAgg67
 z37:=Tryz.sizeOf67
 v37:=Tryz.zeroValue67
 t46:=Tryz.underlying200
 a46:=Tryz.isAgg200
 z46:=Tryz.sizeOf200
 v46:=Tryz.zeroValue200
 t51:=Tryz.underlying176
 a51:=Tryz.isAgg176
 z51:=Tryz.sizeOf176
 v51:=Tryz.zeroValue176
 t53:=Tryz.underlying53
 a53:=Tryz.isAgg53
 z53:=Tryz.sizeOf53
 v53:=Tryz.zeroValue53
 t171:=Tryz.underlying214
 a171:=Tryz.isAgg214
 z171:=Tryz.sizeOf214
 v171:=Tryz.zeroValue214
 t173:=Tryz.underlying217
 a173:=Tryz.isAgg217
 z173:=Tryz.sizeOf217
 v173:=Tryz.zeroValue217
 t212:=Tryz.underlying250
 a212:=Tryz.isAgg250
 z212:=Tryz.sizeOf250
 v212:=Tryz.zeroValue250
 t213:=Tryz.underlying251
 a213:=Tryz.isAgg251
 z213:=Tryz.sizeOf251
 t232:=Tryz.underlying299
 a232:=Tryz.isAgg299
 z232:=Tryz.sizeOf299
 v232:=Tryz.zeroValue299
 t233:=Tryz.underlying300
 a233:=Tryz.isAgg300
 z233:=Tryz.sizeOf300
 v233:=Tryz.zeroValue300
 g17:=by kernel_rfl
 g18:=by kernel_rfl
 g19:=by kernel_rfl
 i0:=by kernel_rfl
 i2:=by kernel_rfl
 i3:=by kernel_rfl
 i4:=by kernel_rfl
 i5:=by kernel_rfl
 i9:=by kernel_rfl
 i20:=by kernel_rfl
 i37:=by kernel_rfl
 i46:=by kernel_rfl
 i51:=by kernel_rfl
 i53:=by kernel_rfl
 i171:=by kernel_rfl
 i173:=by kernel_rfl
 i212:=by kernel_rfl
 i232:=by kernel_rfl
 i233:=by kernel_rfl
 m17:=by kernel_rfl
 m18:=by kernel_rfl
 m19:=by kernel_rfl }
end Go.Proofs
end

section
namespace Go.Proofs.YtimbcmkkegikgaaGreatDoor.Ir
open Go.Rmp
set_option maxRecDepth 100000
set_option maxHeartbeats 0
abbrev op (d:Nat)(b:Bo):O:=⟨some d,.b b,none,[]⟩
abbrev ef (b:Bo):O:=⟨none,.b b,none,[]⟩
abbrev cl (d f:Nat)(az:List X):O:=⟨some d,.call f az,none,[]⟩
abbrev sq (a b:C):C:=.seq a b
abbrev mv (d t:Nat):O:=⟨some d,.b (.ak (.r t)),none,[]⟩
abbrev mt (d t g:Nat):O:=⟨some d,.b (.ak (.r t)),some (g,true),[]⟩
abbrev mf (d t g:Nat):O:=⟨some d,.b (.ak (.r t)),some (g,false),[]⟩
abbrev gt (d g:Nat)(b:Bo):O:=⟨some d,.b b,some (g,true),[]⟩
abbrev gf (d g:Nat)(b:Bo):O:=⟨some d,.b b,some (g,false),[]⟩
abbrev l1 (d a:Nat):O:=⟨some d,.b (.ld 1 false (.r a)),none,[]⟩
abbrev ln (d n a:Nat):O:=⟨some d,.b (.ld n true (.r a)),none,[]⟩
abbrev ia (d n a b:Nat):O:=⟨some d,.b (.mJ n (.r a) (.r b)),none,[]⟩
abbrev fa (d n a:Nat):O:=⟨some d,.b (.jy n (.r a)),none,[]⟩
abbrev se (n a b:Nat):O:=⟨none,.b (.st n (.r a) (.r b)),none,[]⟩
abbrev nc (d a:Nat):O:=⟨some d,.b (.hP (.r a)),none,[]⟩
abbrev b2 (d:Nat)(o:BinOp)(a b:Nat):O:=⟨some d,.b (.bin o (.r a) (.r b)),none,[]⟩
abbrev xt (d n a:Nat):O:=⟨some d,.b (.ext n (.r a)),none,[]⟩
abbrev cP (d a:Nat):O:=⟨some d,.b (.len .sl (.r a)),none,[]⟩
abbrev so (l:List O)(c:C):C:=.seq (.ops l) c
abbrev cx (t i:Nat):C:=.cond (.r t) .skip (.exit i)
def IY:An:=⟨[],[]⟩
def Fa:Go.Rmp.Fn:=⟨11,1,[.t 2],so [op 2 (.ak (.c (.bool false)))]<|so [cl 3 9 [],mv 4 3,mt 5 0 4,⟨(some 6),.call 10 [.r 5],(some (4,true)),[]⟩,mt 7 0 4,⟨(some 8),.call 11 [.r 7],(some (4,true)),[]⟩,gt 9 4 (.bin .eql (.r 6) (.r 8)),op 10 (.pick (.r 4) (.r 9) (.c (.bool false))),mv 2 10]<|.ret⟩
def IZ:An:=⟨[],[]⟩
def Hw:Go.Rmp.Fn:=⟨118,0,[.t 0],so [op 0 (.ak (.c (.bool false)))]<|so [cl 15 12 [],mv 1 15]<|sq (so [mv 16 1,op 17 (.eX false .ptr (.r 16) (.c .aL))]<|.cond (.r 17) (so [op 0 (.ak (.c (.bool false)))]<|.ret) (.skip))<|so [mv 19 1,cl 20 24 [.r 19,(.c (.int .i64 0))],mv 18 20,xt 21 0 18,xt 22 1 18,xt 23 2 18,xt 24 3 18,mv 2 21,mv 3 22,mv 4 23,mv 5 24]<|so [mv 26 1,cl 27 36 [.r 26],mv 25 27,xt 28 0 25,xt 29 1 25,mv 6 28,mv 7 29]<|sq (so [mv 30 5,op 31 (.bin .neq (.r 30) (.c (.int .i64 0))),mv 32 31,mf 33 7 32,gf 34 32 (.bin .neq (.r 33) (.c (.int .i64 0))),op 35 (.pick (.r 32) (.c (.bool true)) (.r 34)),mv 36 35,mf 37 2 36,gf 38 36 (.eX false .ptr (.r 37) (.c .aL)),op 39 (.pick (.r 36) (.c (.bool true)) (.r 38)),mv 40 39,mf 41 3 40,gf 42 40 (.eX false .ptr (.r 41) (.c .aL)),op 43 (.pick (.r 40) (.c (.bool true)) (.r 42)),mv 44 43,mf 45 4 44,gf 46 44 (.bin .neq (.r 45) (.c (.int .i64 0))),op 47 (.pick (.r 44) (.c (.bool true)) (.r 46)),mv 48 47,mf 49 6 48,gf 50 48 (.len .sl (.r 49)),gf 51 48 (.bin .neq (.r 50) (.c (.int .i64 0))),op 52 (.pick (.r 48) (.c (.bool true)) (.r 51)),mv 53 52,mf 54 3 53,⟨(some 55),.call 25 [.r 54],(some (53,false)),[]⟩,gf 56 53 (.bin .neq (.r 55) (.c (.str ⟨#[108,111,103,46,48]⟩))),op 57 (.pick (.r 53) (.c (.bool true)) (.r 56)),mv 58 57,mf 59 3 58,⟨(some 60),.call 28 [.r 59],(some (58,false)),[]⟩,gf 61 58 (.bin .neq (.r 60) (.c (.int .i64 0))),op 62 (.pick (.r 58) (.c (.bool true)) (.r 61)),mv 63 62,⟨(some 64),.call 10 [(.c (.int .i64 12))],(some (63,false)),[]⟩,gf 65 63 (.bin .neq (.r 64) (.c (.str ⟨#[108,111,103,46,49,50]⟩))),op 66 (.pick (.r 63) (.c (.bool true)) (.r 65))]<|.cond (.r 66) (so [op 0 (.ak (.c (.bool false)))]<|.ret) (.skip))<|so [mv 67 3,op 68 (.build [.str ⟨#[]⟩,.str ⟨#[]⟩] [(0,1,(.c (.str ⟨#[97]⟩))),(1,1,(.c (.str ⟨#[120]⟩)))]),op 69 (.kr 1 [.str ⟨#[]⟩,.str ⟨#[]⟩] [(0,(.r 68))]),op 70 (.kr 1 [.str ⟨#[]⟩] [(0,(.c (.str ⟨#[97]⟩)))]),op 71 (.build [.int .i64 0,.int .u64 0,.sl .nil [],.sl .nil []] [(0,1,(.c (.int .i64 1))),(1,1,(.c (.int .u64 65536))),(2,1,(.r 69)),(3,1,(.r 70))]),cl 72 30 [.r 67,.r 71],mv 8 72]<|so [mv 74 1,cl 75 24 [.r 74,(.c (.int .i64 3))],mv 73 75,xt 76 0 73,xt 77 1 73,xt 78 2 73,xt 79 3 73,mv 9 76,mv 10 77,mv 11 78,mv 12 79]<|sq (so [mv 80 8,op 81 (.bin .neq (.r 80) (.c (.int .i64 0))),mv 82 81,mf 83 12 82,gf 84 82 (.bin .neq (.r 83) (.c (.int .i64 0))),op 85 (.pick (.r 82) (.c (.bool true)) (.r 84)),mv 86 85,mf 87 9 86,gf 88 86 (.eX false .ptr (.r 87) (.c .aL)),op 89 (.pick (.r 86) (.c (.bool true)) (.r 88)),mv 90 89,mf 91 10 90,gf 92 90 (.eX false .ptr (.r 91) (.c .aL)),op 93 (.pick (.r 90) (.c (.bool true)) (.r 92))]<|.cond (.r 93) (so [op 0 (.ak (.c (.bool false)))]<|.ret) (.skip))<|so [mv 95 9,cl 96 41 [.r 95,(.c (.str ⟨#[97]⟩)),(.c (.int .u64 65536))],mv 94 96,xt 97 0 94,xt 98 1 94,op 13 (.alloc [.str ⟨#[]⟩,.int .u64 0,.str ⟨#[]⟩,.sl .nil []]),se 4 13 97,mv 14 98]<|so [mv 99 14,op 100 (.bin .eql (.r 99) (.c (.int .i64 0))),mv 101 100,gt 102 101 (.jy 2 (.r 13)),gt 103 101 (.ld 1 false (.r 102)),gt 104 101 (.bin .eql (.r 103) (.c (.str ⟨#[120]⟩))),op 105 (.pick (.r 101) (.r 104) (.c (.bool false))),mv 106 105,mt 107 10 106,⟨(some 108),.call 28 [.r 107],(some (106,true)),[]⟩,mt 109 3 106,⟨(some 110),.call 28 [.r 109],(some (106,true)),[]⟩,gt 111 106 (.bin .eql (.r 108) (.r 110)),op 112 (.pick (.r 106) (.r 111) (.c (.bool false))),mv 113 112,mt 114 10 113,⟨(some 115),.call 28 [.r 114],(some (113,true)),[]⟩,gt 116 113 (.bin .gtr (.r 115) (.c (.int .i64 0))),op 117 (.pick (.r 113) (.r 116) (.c (.bool false))),mv 0 117]<|.ret⟩
def Fb:An:=⟨[],[]⟩
def zU:Go.Rmp.Fn:=⟨6,1,[.t 2],so [op 2 (.ak (.c (.str ⟨#[]⟩)))]<|so [mv 3 0,cl 4 42 [.r 3,(.c (.int .i64 10))],op 5 (.bin .add (.c (.str ⟨#[108,111,103,46]⟩)) (.r 4)),mv 2 5]<|.ret⟩
def Fc:An:=⟨[],[]⟩
def wy:Go.Rmp.Fn:=⟨14,1,[.t 2],so [op 2 (.ak (.c (.str ⟨#[]⟩)))]<|sq (so [mv 3 0,op 4 (.bin .lss (.r 3) (.c (.int .i64 0)))]<|.cond (.r 4) (so [mv 5 0,op 6 (.eg .u64 (.r 5)),op 7 (.un .neg (.r 6)),cl 8 43 [.r 7],op 9 (.bin .add (.c (.str ⟨#[108,111,103,46,45]⟩)) (.r 8)),mv 2 9]<|.ret) (.skip))<|so [mv 10 0,op 11 (.eg .u64 (.r 10)),cl 12 43 [.r 11],op 13 (.bin .add (.c (.str ⟨#[108,111,103,46]⟩)) (.r 12)),mv 2 13]<|.ret⟩
def Fe:An:=⟨[],[]⟩
def B0:Go.Rmp.Fn:=⟨4,0,[.t 0],so [op 0 (.ak (.c .aL))]<|so [op 1 (.nV),op 2 (.build [.b9,.bool false,.int .i64 0,.bool false,.int .i64 0,.int .i64 0] [(0,1,(.r 1))]),op 3 (.box (.r 2)),mv 0 3]<|.ret⟩
def Ff:An:=⟨[],[]⟩
def B1:Go.Rmp.Fn:=⟨95,2,[.t 4,.t 5,.t 6,.t 7],so [op 4 (.ak (.c .aL)),op 5 (.ak (.c .aL)),op 6 (.ak (.c (.int .i64 0))),op 7 (.ak (.c (.int .i64 0)))]<|sq (so [mv 19 0,op 20 (.eX false .ptr (.r 19) (.c .aL)),mv 21 20,mf 22 1 21,gf 23 21 (.bin .lss (.r 22) (.c (.int .i64 0))),op 24 (.pick (.r 21) (.c (.bool true)) (.r 23)),mv 25 24,mf 26 1 25,gf 27 25 (.bin .gtr (.r 26) (.c (.int .i64 1099511627776))),op 28 (.pick (.r 25) (.c (.bool true)) (.r 27))]<|.cond (.r 28) (so [op 4 (.ak (.c .aL)),op 5 (.ak (.c .aL)),op 6 (.ak (.c (.int .i64 0))),op 7 (.ak (.c (.int .i64 1)))]<|.ret) (.skip))<|so [mv 30 0,cl 31 36 [.r 30],mv 29 31,xt 32 0 29,xt 33 1 29,mv 8 32,mv 9 33]<|sq (so [mv 34 9,op 35 (.bin .neq (.r 34) (.c (.int .i64 0)))]<|.cond (.r 35) (so [mv 36 9,op 4 (.ak (.c .aL)),op 5 (.ak (.c .aL)),op 6 (.ak (.c (.int .i64 0))),mv 7 36]<|.ret) (.skip))<|so [mv 38 0,mv 39 8,cl 40 63 [.r 39,(.c (.str ⟨#[115,110,97,112]⟩))],mv 41 1,cl 42 62 [.r 38,.r 40,.r 41],mv 37 42,xt 43 0 37,xt 44 1 37,xt 45 2 37,mv 10 43,mv 11 44,mv 9 45]<|sq (so [mv 46 9,op 47 (.bin .neq (.r 46) (.c (.int .i64 0)))]<|.cond (.r 47) (so [mv 48 9,op 4 (.ak (.c .aL)),op 5 (.ak (.c .aL)),op 6 (.ak (.c (.int .i64 0))),mv 7 48]<|.ret) (.skip))<|sq (so [mv 49 8,cP 50 49,op 51 (.ak (.c (.int .i64 0)))]<|.block 0 (.loop (so [b2 52 .lss 51 50]<|sq (cx 52 0)<|sq (.block 1 (so [ia 53 1 49 51,l1 54 53,mv 13 54]<|sq (so [mv 55 13,op 56 (.bin .eql (.r 55) (.c (.str ⟨#[115,110,97,112]⟩))),mv 57 56,mf 58 13 57,mf 59 11 57,⟨(some 60),.call 10 [.r 59],(some (57,false)),[]⟩,gf 61 57 (.bin .eql (.r 58) (.r 60)),op 62 (.pick (.r 57) (.c (.bool true)) (.r 61))]<|.cond (.r 62) (.exit 1) (.skip))<|so [mv 63 0,mv 64 13,cl 65 37 [.r 63,.r 64],mv 14 65]<|so [mv 66 14,op 67 (.bin .neq (.r 66) (.c (.int .i64 0)))]<|.cond (.r 67) (so [mv 68 14,op 4 (.ak (.c .aL)),op 5 (.ak (.c .aL)),op 6 (.ak (.c (.int .i64 0))),mv 7 68]<|.ret) (.skip)))<|.ops [op 69 (.bin .add (.r 51) (.c (.int .i64 1))),mv 51 69])))<|so [mv 71 0,mv 72 11,cl 73 10 [.r 72],cl 74 60 [.r 71,.r 73],mv 70 74,xt 75 0 70,xt 76 1 70,xt 77 2 70,mv 15 75,mv 16 76,mv 9 77]<|sq (so [mv 78 9,op 79 (.bin .neq (.r 78) (.c (.int .i64 0)))]<|.cond (.r 79) (so [mv 80 9,op 4 (.ak (.c .aL)),op 5 (.ak (.c .aL)),op 6 (.ak (.c (.int .i64 0))),mv 7 80]<|.ret) (.skip))<|sq (so [mv 81 16,cP 82 81,op 83 (.ak (.c (.int .i64 0)))]<|.block 2 (.loop (so [b2 84 .lss 83 82]<|sq (cx 84 2)<|sq (.block 3 (so [ia 85 4 81 83,ln 86 4 85,op 18 (.alloc [.int .i64 0,.int .u64 0,.sl .nil [],.sl .nil []]),se 4 18 86]<|.ops [mv 87 10,ln 88 4 18,mv 89 1,cl 90 64 [.r 87,.r 88,.r 89]]))<|.ops [op 91 (.bin .add (.r 83) (.c (.int .i64 1))),mv 83 91])))<|so [mv 92 10,mv 93 15,mv 94 11,mv 4 92,mv 5 93,mv 6 94,op 7 (.ak (.c (.int .i64 0)))]<|.ret⟩
def Fg:An:=⟨[],[]⟩
def B2:Go.Rmp.Fn:=⟨7,1,[.t 2],so [op 2 (.ak (.c (.str ⟨#[]⟩)))]<|so [mv 3 0,nc 4 3,fa 5 1 4,l1 6 5,mv 2 6]<|.ret⟩
def Fh:An:=⟨[],[]⟩
def B3:Go.Rmp.Fn:=⟨7,1,[.t 2],so [op 2 (.ak (.c (.int .i64 0)))]<|so [mv 3 0,nc 4 3,fa 5 2 4,l1 6 5,mv 2 6]<|.ret⟩
def Fi:An:=⟨[],[(4,[(0,true),(1,true),(2,true),(3,true),(4,true),(5,true),(6,true),(7,true),(8,true),(9,false),(10,true)]),(7,[(0,true),(1,true),(2,true),(3,true),(4,true),(5,true),(6,true),(7,true),(8,false),(9,true)])]⟩
def B4:Go.Rmp.Fn:=⟨51,2,[.t 4],so [op 3 (.box (.r 1)),op 4 (.ak (.c (.int .i64 0)))]<|so [ln 10 4 3,cl 11 61 [.r 10],mv 9 11,xt 12 0 9,xt 13 1 9,mv 5 12,mv 6 13]<|sq (so [mv 14 6,op 15 (.bin .neq (.r 14) (.c (.int .i64 0)))]<|.cond (.r 15) (so [mv 16 6,mv 4 16]<|.ret) (.skip))<|sq (so [mv 17 0,nc 18 17,fa 19 0 18,l1 20 19,mv 21 0,nc 22 21,fa 23 1 22,l1 24 23,mv 25 5,cl 26 39 [.r 20,.r 24,.r 25],mv 7 26]<|so [mv 27 7,op 28 (.bin .neq (.r 27) (.c (.int .i64 0)))]<|.cond (.r 28) (so [mv 29 7,mv 4 29]<|.ret) (.skip))<|sq (so [mv 30 0,nc 31 30,fa 32 0 31,l1 33 32,mv 34 0,nc 35 34,fa 36 1 35,l1 37 36,cl 38 44 [.r 33,.r 37],mv 8 38]<|so [mv 39 8,op 40 (.bin .neq (.r 39) (.c (.int .i64 0)))]<|.cond (.r 40) (so [mv 41 8,mv 4 41]<|.ret) (.skip))<|so [mv 42 0,nc 43 42,fa 44 2 43,l1 45 44,mv 46 5,cP 47 46,b2 48 .add 45 47,nc 49 42,fa 50 2 49,se 1 50 48]<|so [op 4 (.ak (.c (.int .i64 0)))]<|.ret⟩
def Fj:An:=⟨[],[]⟩
def B5:Go.Rmp.Fn:=⟨22,2,[.t 4,.t 5],so [op 4 (.ak (.c (.sl .nil []))),op 5 (.ak (.c (.int .i64 0)))]<|so [mv 9 0,mv 10 1,cl 11 71 [.r 9,.r 10],mv 8 11,xt 12 0 8,xt 13 1 8,mv 6 12,mv 7 13]<|sq (so [mv 14 7,op 15 (.bin .neq (.r 14) (.c (.int .i64 0)))]<|.cond (.r 15) (so [mv 16 7,op 4 (.ak (.c (.sl .nil []))),mv 5 16]<|.ret) (.skip))<|so [mv 17 6,nc 18 17,fa 19 0 18,l1 20 19,cl 21 72 [.r 20],mv 4 21,op 5 (.ak (.c (.int .i64 0)))]<|.ret⟩
def Fk:An:=⟨[],[]⟩
def B6:Go.Rmp.Fn:=⟨13,1,[.t 2,.t 3],so [op 2 (.ak (.c (.sl .nil []))),op 3 (.ak (.c (.int .i64 0)))]<|sq (so [mv 4 0,cl 5 73 [.r 4],op 6 (.un .not (.r 5))]<|.cond (.r 6) (so [op 2 (.ak (.c (.sl .nil []))),op 3 (.ak (.c (.int .i64 62)))]<|.ret) (.skip))<|so [mv 7 0,nc 8 7,fa 9 0 8,l1 10 9,cl 11 75 [.r 10],cl 12 74 [.r 11],mv 2 12,op 3 (.ak (.c (.int .i64 0)))]<|.ret⟩
def Fl:An:=⟨[],[]⟩
def B7:Go.Rmp.Fn:=⟨72,3,[.t 6],so [op 6 (.ak (.c (.int .i64 0)))]<|so [mv 10 0,mv 11 1,cl 12 71 [.r 10,.r 11],mv 9 12,xt 13 0 9,xt 14 1 9,mv 7 13,mv 8 14]<|sq (.block 0 (so [mv 16 8,op 17 (.bin .eql (.r 16) (.c (.int .i64 62))),mv 15 17]<|.cond (.r 15) (so [mv 18 8,mv 6 18]<|.ret) (so [mv 20 1,cl 21 76 [.r 20],op 22 (.un .not (.r 21)),mv 19 22]<|.cond (.r 19) (so [op 6 (.ak (.c (.int .i64 1)))]<|.ret) (so [mv 24 8,op 25 (.bin .eql (.r 24) (.c (.int .i64 61))),mv 26 25,mt 27 0 26,gt 28 26 (.hP (.r 27)),gt 29 26 (.jy 0 (.r 28)),gt 30 26 (.ld 1 false (.r 29)),gt 31 26 (.len .map (.r 30)),gt 32 26 (.bin .geq (.r 31) (.c (.int .i64 16))),op 33 (.pick (.r 26) (.r 32) (.c (.bool false))),mv 23 33]<|.cond (.r 23) (so [op 6 (.ak (.c (.int .i64 3)))]<|.ret) (so [mv 35 2,cP 36 35,op 37 (.bin .gtr (.r 36) (.c (.int .i64 0))),mv 38 37,mt 39 0 38,gt 40 38 (.hP (.r 39)),gt 41 38 (.jy 2 (.r 40)),gt 42 38 (.ld 1 false (.r 41)),gt 43 38 (.bin .gtr (.r 42) (.c (.int .i64 0))),op 44 (.pick (.r 38) (.r 43) (.c (.bool false))),mv 34 44]<|.cond (.r 34) (so [mv 45 0,nc 46 45,fa 47 2 46,l1 48 47,op 49 (.bin .sub (.r 48) (.c (.int .i64 1))),nc 50 45,fa 51 2 50,se 1 51 49]<|so [op 6 (.ak (.c (.int .i64 60)))]<|.ret) (so [mv 53 8,op 54 (.bin .eql (.r 53) (.c (.int .i64 61))),mv 52 54]<|.cond (.r 52) (so [op 55 (.build [.sl .nil [],.int .i64 0] []),op 56 (.box (.r 55)),mv 7 56]<|.ops [mv 57 0,nc 58 57,fa 59 0 58,l1 60 59,mv 61 1,mv 62 7,ef (.tR (.sc .str) (.r 60) (.r 61) (.r 62))]) (.skip)))))))<|so [mv 63 7,mv 64 7,nc 65 64,fa 66 0 65,l1 67 66,mv 68 2,op 69 (.app 1 1 false (.r 67) (.r 68)),nc 70 63,fa 71 0 70,se 1 71 69]<|so [op 6 (.ak (.c (.int .i64 0)))]<|.ret⟩
def Fm:An:=⟨[],[(2,[(0,true),(1,true),(2,true),(3,true),(4,true),(5,true),(6,true),(7,true),(8,true),(9,true),(10,false),(11,true)])]⟩
def B8:Go.Rmp.Fn:=⟨29,3,[.cl 6 4 true,.t 7],so [op 6 (.alloc [.str ⟨#[]⟩,.int .u64 0,.str ⟨#[]⟩,.sl .nil []]),op 7 (.ak (.c (.int .i64 0)))]<|so [mv 11 1,mv 12 2,op 13 (.build [.str ⟨#[]⟩,.int .u64 0] [(0,1,(.r 11)),(1,1,(.r 12))]),op 8 (.alloc [.str ⟨#[]⟩,.int .u64 0]),se 2 8 13]<|sq (so [mv 15 0,nc 16 15,fa 17 0 16,l1 18 17,ln 19 2 8,op 20 (.mK (.st [.str,.int]) (.agg [.str ⟨#[]⟩,.sl .nil [],.int .i64 0]) true (.r 18) (.r 19)),mv 14 20,xt 21 0 14,xt 22 1 14,op 9 (.alloc [.str ⟨#[]⟩,.sl .nil [],.int .i64 0]),se 3 9 21,mv 10 22]<|so [mv 23 10,op 24 (.un .not (.r 23))]<|.cond (.r 24) (so [op 25 (.build [.str ⟨#[]⟩,.int .u64 0,.str ⟨#[]⟩,.sl .nil []] []),se 4 6 25,op 7 (.ak (.c (.int .i64 110)))]<|.ret) (.skip))<|so [mv 26 0,ln 27 2 8,cl 28 70 [.r 26,.r 27],se 4 6 28,op 7 (.ak (.c (.int .i64 0)))]<|.ret⟩
def Fo:An:=⟨[],[]⟩
def B9:Go.Rmp.Fn:=⟨8,2,[.t 4],so [op 4 (.ak (.c (.str ⟨#[]⟩)))]<|so [mv 5 0,mv 6 1,cl 7 77 [.r 5,.r 6],mv 4 7]<|.ret⟩
def Fp:An:=⟨[],[]⟩
def wz:Go.Rmp.Fn:=⟨18,1,[.t 2],so [op 2 (.ak (.c (.str ⟨#[]⟩)))]<|so [mv 4 0,op 5 (.bin .rem (.r 4) (.c (.int .u64 10))),op 6 (.bin .add (.c (.int .u64 48)) (.r 5)),op 7 (.eg .u8 (.r 6)),op 8 (.kr 1 [.int .u8 0] [(0,(.r 7))]),op 9 (.p9 (.r 8)),mv 3 9]<|sq (so [mv 10 0,op 11 (.bin .lss (.r 10) (.c (.int .u64 10)))]<|.cond (.r 11) (so [mv 12 3,mv 2 12]<|.ret) (.skip))<|so [mv 13 0,op 14 (.bin .quo (.r 13) (.c (.int .u64 10))),cl 15 43 [.r 14],mv 16 3,b2 17 .add 15 16,mv 2 17]<|.ret⟩
def Fq:An:=⟨[],[]⟩
def Ca:Go.Rmp.Fn:=⟨24,2,[.t 4],so [op 4 (.ak (.c (.int .i64 0)))]<|so [mv 8 0,mv 9 1,cl 10 71 [.r 8,.r 9],mv 7 10,xt 11 0 7,xt 12 1 7,mv 5 11,mv 6 12]<|sq (so [mv 13 6,op 14 (.bin .eql (.r 13) (.c (.int .i64 0)))]<|.cond (.r 14) (.ops [mv 15 5,mv 16 5,nc 17 16,fa 18 0 17,l1 19 18,cP 20 19,nc 21 15,fa 22 1 21,se 1 22 20]) (.skip))<|so [mv 23 6,mv 4 23]<|.ret⟩
def Fs:An:=⟨[],[]⟩
def Cb:Go.Rmp.Fn:=⟨7,0,[.t 0],so [op 0 (.ak (.c .aL))]<|so [op 1 (.nV),op 2 (.nV),op 3 (.nV),op 4 (.nV),op 5 (.build [.b9,.b9,.b9,.b9] [(0,1,(.r 1)),(1,1,(.r 2)),(2,1,(.r 3)),(3,1,(.r 4))]),op 6 (.box (.r 5)),mv 0 6]<|.ret⟩
def Ft:An:=⟨[],[]⟩
def Cc:Go.Rmp.Fn:=⟨52,2,[.t 4,.t 5,.t 6],so [op 4 (.ak (.c .aL)),op 5 (.ak (.c (.sl .nil []))),op 6 (.ak (.c (.int .i64 0)))]<|sq (so [mv 12 0,op 13 (.eX false .ptr (.r 12) (.c .aL))]<|.cond (.r 13) (so [op 4 (.ak (.c .aL)),op 5 (.ak (.c (.sl .nil []))),op 6 (.ak (.c (.int .i64 1)))]<|.ret) (.skip))<|so [mv 15 0,mv 16 1,cl 17 35 [.r 15,.r 16],mv 14 17,xt 18 0 14,xt 19 1 14,mv 7 18,mv 8 19]<|sq (so [mv 20 8]<|.block 0 (so [op 23 (.bin .eql (.r 20) (.c (.int .i64 0))),mv 22 23]<|.cond (.r 22) (.skip) (so [op 25 (.bin .eql (.r 20) (.c (.int .i64 61))),mv 24 25]<|.cond (.r 24) (so [mv 26 0,mv 27 1,op 28 (.build [.aL,.str ⟨#[]⟩,.int .i64 0] [(0,1,(.r 26)),(1,1,(.r 27))]),op 29 (.box (.r 28)),mv 4 29,op 5 (.ak (.c (.sl .nil []))),op 6 (.ak (.c (.int .i64 0)))]<|.ret) (so [mv 21 8,op 4 (.ak (.c .aL)),op 5 (.ak (.c (.sl .nil []))),mv 6 21]<|.ret))))<|so [mv 31 7,cl 32 109 [.r 31],mv 30 32,xt 33 0 30,xt 34 1 30,mv 9 33,mv 10 34]<|sq (so [mv 35 10,mv 36 7,cP 37 36,b2 38 .lss 35 37]<|.cond (.r 38) (so [mv 39 0,mv 40 1,mv 41 10,cl 42 110 [.r 39,.r 40,.r 41],mv 11 42]<|so [mv 43 11,op 44 (.bin .neq (.r 43) (.c (.int .i64 0)))]<|.cond (.r 44) (so [mv 45 11,op 4 (.ak (.c .aL)),op 5 (.ak (.c (.sl .nil []))),mv 6 45]<|.ret) (.skip)) (.skip))<|so [mv 46 0,mv 47 1,mv 48 10,op 49 (.build [.aL,.str ⟨#[]⟩,.int .i64 0] [(0,1,(.r 46)),(1,1,(.r 47)),(2,1,(.r 48))]),op 50 (.box (.r 49)),mv 51 9,mv 4 50,mv 5 51,op 6 (.ak (.c (.int .i64 0)))]<|.ret⟩
def Fu:An:=⟨[],[]⟩
def Cd:Go.Rmp.Fn:=⟨53,1,[.t 2,.t 3],so [op 1 (.box (.r 0)),op 2 (.ak (.c (.sl .nil []))),op 3 (.ak (.c (.int .i64 0)))]<|sq (so [ln 10 4 1,cl 11 111 [.r 10],op 12 (.un .not (.r 11))]<|.cond (.r 12) (so [op 2 (.ak (.c (.sl .nil []))),op 3 (.ak (.c (.int .i64 1)))]<|.ret) (.skip))<|so [ln 14 4 1,cl 15 112 [.r 14],mv 13 15,xt 16 0 13,xt 17 1 13,mv 4 16,mv 5 17]<|sq (so [mv 18 5,op 19 (.bin .neq (.r 18) (.c (.int .i64 0)))]<|.cond (.r 19) (so [op 2 (.ak (.c (.sl .nil []))),op 3 (.ak (.c (.int .i64 3)))]<|.ret) (.skip))<|so [mv 20 4,cP 21 20,op 22 (.bin .add (.c (.int .i64 8)) (.r 21)),cl 23 90 [.r 22],mv 6 23]<|so [mv 24 6,mv 25 4,op 26 (.p9 (.r 25)),cl 27 94 [.r 24,.r 26]]<|so [mv 29 6,cl 30 96 [.r 29],mv 28 30,xt 31 0 28,xt 32 1 28,mv 7 31,mv 8 32]<|so [mv 33 4,cl 34 113 [.r 33],mv 9 34]<|so [mv 35 7,op 36 (.fV 1 (.r 35) none (some (.c (.int .i64 4))) none),cl 37 114 [.r 36],mv 38 9,op 39 (.bin .shr (.r 38) (.c (.int .u64 24))),op 40 (.eg .u8 (.r 39)),mv 41 9,op 42 (.bin .shr (.r 41) (.c (.int .u64 16))),op 43 (.eg .u8 (.r 42)),mv 44 9,op 45 (.bin .shr (.r 44) (.c (.int .u64 8))),op 46 (.eg .u8 (.r 45)),mv 47 9,op 48 (.eg .u8 (.r 47)),op 49 (.kr 4 [.int .u8 0] [(0,(.r 40)),(1,(.r 43)),(2,(.r 46)),(3,(.r 48))]),op 50 (.app 1 1 false (.r 37) (.r 49)),mv 51 4,op 52 (.app 1 1 false (.r 50) (.r 51)),mv 2 52,op 3 (.ak (.c (.int .i64 0)))]<|.ret⟩
def Fv:An:=⟨[],[]⟩
def Ce:Go.Rmp.Fn:=⟨35,3,[.t 6,.t 7,.t 8],so [op 6 (.ak (.c .aL)),op 7 (.ak (.c (.int .i64 0))),op 8 (.ak (.c (.int .i64 0)))]<|sq (so [mv 13 1,op 14 (.un .not (.r 13))]<|.cond (.r 14) (so [cl 15 57 [],mv 6 15,op 7 (.ak (.c (.int .i64 0))),op 8 (.ak (.c (.int .i64 0)))]<|.ret) (.skip))<|so [mv 17 0,cl 18 35 [.r 17,(.c (.str ⟨#[115,110,97,112]⟩))],mv 16 18,xt 19 0 16,xt 20 1 16,mv 9 19,mv 10 20]<|sq (so [mv 21 10,op 22 (.bin .neq (.r 21) (.c (.int .i64 0)))]<|.cond (.r 22) (so [mv 23 10,op 6 (.ak (.c .aL)),op 7 (.ak (.c (.int .i64 0))),mv 8 23]<|.ret) (.skip))<|so [mv 25 9,mv 26 2,cl 27 59 [.r 25,.r 26],mv 24 27,xt 28 0 24,xt 29 1 24,xt 30 2 24,mv 11 28,mv 12 29,mv 10 30]<|sq (so [mv 31 10,op 32 (.bin .neq (.r 31) (.c (.int .i64 0)))]<|.cond (.r 32) (so [op 6 (.ak (.c .aL)),op 7 (.ak (.c (.int .i64 0))),op 8 (.ak (.c (.int .i64 140)))]<|.ret) (.skip))<|so [mv 33 12,mv 34 11,mv 6 33,mv 7 34,op 8 (.ak (.c (.int .i64 0)))]<|.ret⟩
def Fx:An:=⟨[],[]⟩
def Cf:Go.Rmp.Fn:=⟨9,2,[.t 4],so [op 4 (.ak (.c (.bool false)))]<|so [mv 5 0,mv 6 1,cl 7 115 [.r 5,.r 6],op 8 (.bin .geq (.r 7) (.c (.int .i64 0))),mv 4 8]<|.ret⟩
def Fy:An:=⟨[],[]⟩
def Cg:Go.Rmp.Fn:=⟨26,3,[],so [op 4 (.box (.r 1))]<|so [fa 6 0 4,l1 7 6]<|.block 0 (so [op 9 (.bin .eql (.r 7) (.c (.int .i64 1))),mv 8 9]<|.cond (.r 8) (.ops [mv 10 0,fa 11 1 4,l1 12 11,fa 13 2 4,l1 14 13,fa 15 3 4,l1 16 15,mv 17 2,cl 18 65 [.r 10,.r 12,.r 14,.r 16,.r 17]]) (so [op 20 (.bin .eql (.r 7) (.c (.int .i64 2))),mv 19 20]<|.cond (.r 19) (.ops [mv 21 0,fa 22 1 4,l1 23 22,mv 24 2,cl 25 66 [.r 21,.r 23,.r 24]]) (.skip)))⟩
def Fz:An:=⟨[],[(8,[(0,true),(1,true),(2,true),(3,true),(4,true),(5,true),(6,true),(7,true),(8,true),(9,true),(10,false),(11,true)]),(12,[(0,true),(1,true),(2,true),(3,true),(4,true),(5,true),(6,true),(7,true),(8,true)]),(14,[(0,true),(1,true),(2,true),(3,true),(4,true),(6,true),(5,false),(7,true),(8,false)])]⟩
def Ch:Go.Rmp.Fn:=⟨70,5,[.t 10,.t 11],so [op 10 (.ak (.c (.bool false))),op 11 (.ak (.c (.int .i64 0)))]<|sq (so [mv 19 1,mv 20 2,mv 21 3,cl 22 116 [.r 19,.r 20,.r 21],op 23 (.un .not (.r 22)),mv 24 23,mf 25 4 24,⟨(some 26),.call 117 [.r 25],(some (24,false)),[]⟩,gf 27 24 (.un .not (.r 26)),op 28 (.pick (.r 24) (.c (.bool true)) (.r 27))]<|.cond (.r 28) (so [op 10 (.ak (.c (.bool false))),op 11 (.ak (.c (.int .i64 1)))]<|.ret) (.skip))<|so [op 12 (.ak (.c (.bool false)))]<|sq (so [mv 29 2,cP 30 29,op 31 (.ak (.c (.int .i64 0)))]<|.block 0 (.loop (so [b2 32 .lss 31 30]<|sq (cx 32 0)<|sq (.block 1 (so [ia 33 2 29 31,ln 34 2 33,op 14 (.alloc [.str ⟨#[]⟩,.str ⟨#[]⟩]),se 2 14 34]<|so [fa 35 0 14,l1 36 35,mv 37 1,op 38 (.build [.str ⟨#[]⟩,.int .u64 0] [(0,1,(.r 36)),(1,1,(.r 37))]),op 15 (.alloc [.str ⟨#[]⟩,.int .u64 0]),se 2 15 38]<|sq (so [mv 40 0,nc 41 40,fa 42 0 41,l1 43 42,ln 44 2 15,op 45 (.mK (.st [.str,.int]) (.agg [.str ⟨#[]⟩,.sl .nil [],.int .i64 0]) true (.r 43) (.r 44)),mv 39 45,xt 46 0 39,xt 47 1 39,op 16 (.alloc [.str ⟨#[]⟩,.sl .nil [],.int .i64 0]),se 3 16 46,mv 17 47]<|so [mv 48 17]<|.cond (.r 48) (.exit 1) (.skip))<|so [op 12 (.ak (.c (.bool true)))]<|so [op 18 (.ak (.c (.int .i64 (-1))))]<|sq (so [mv 49 1,mv 50 0,nc 51 50,fa 52 3 51,l1 53 52,fa 54 0 14,l1 55 54,op 56 (.mK (.sc .str) (.int .u64 0) false (.r 53) (.r 55)),b2 57 .lss 49 56]<|.cond (.r 57) (.ops [mv 58 4,mv 18 58]) (.skip))<|.ops [mv 59 0,ln 60 2 15,fa 61 1 14,l1 62 61,mv 63 3,mv 65 18,⟨(some 64),.call 119 [.r 63],none,[⟨60,.ld 2 true (.r 15),none⟩,⟨62,.ld 1 false (.r 61),none⟩]⟩,op 66 (.build [.str ⟨#[]⟩,.sl .nil [],.int .i64 0] [(0,1,(.r 62)),(1,1,(.r 64)),(2,1,(.r 65))]),cl 67 118 [.r 59,.r 60,.r 66]]))<|.ops [op 68 (.bin .add (.r 31) (.c (.int .i64 1))),mv 31 68])))<|so [mv 69 12,mv 10 69,op 11 (.ak (.c (.int .i64 0)))]<|.ret⟩
def FA:An:=⟨[],[(1,[(0,true),(1,true),(2,true),(3,true),(4,true),(5,true),(6,true),(7,false)]),(2,[(0,true),(1,true),(2,true),(3,true),(4,true),(5,true),(6,true),(7,true),(8,false),(9,true),(10,false)])]⟩
def Ci:Go.Rmp.Fn:=⟨22,2,[.cl 4 4 true],so [op 3 (.box (.r 1)),op 4 (.alloc [.str ⟨#[]⟩,.int .u64 0,.str ⟨#[]⟩,.sl .nil []])]<|so [mv 6 0,nc 7 6,fa 8 0 7,l1 9 8,ln 10 2 3,op 11 (.mK (.st [.str,.int]) (.agg [.str ⟨#[]⟩,.sl .nil [],.int .i64 0]) false (.r 9) (.r 10)),op 5 (.alloc [.str ⟨#[]⟩,.sl .nil [],.int .i64 0]),se 3 5 11]<|so [fa 12 0 3,l1 13 12,fa 14 1 3,l1 15 14,fa 16 0 5,l1 17 16,fa 18 1 5,l1 19 18,⟨(some 20),.call 119 [.r 19],none,[⟨13,.ld 1 false (.r 12),none⟩,⟨15,.ld 1 false (.r 14),none⟩,⟨17,.ld 1 false (.r 16),none⟩]⟩,op 21 (.build [.str ⟨#[]⟩,.int .u64 0,.str ⟨#[]⟩,.sl .nil []] [(0,1,(.r 13)),(1,1,(.r 15)),(2,1,(.r 17)),(3,1,(.r 20))]),se 4 4 21]<|.ret⟩
def FB:An:=⟨[],[]⟩
def Cj:Go.Rmp.Fn:=⟨23,2,[.t 4,.t 5],so [op 4 (.ak (.c .aL)),op 5 (.ak (.c (.int .i64 0)))]<|sq (so [mv 8 0,cl 9 73 [.r 8],op 10 (.un .not (.r 9))]<|.cond (.r 10) (so [op 4 (.ak (.c .aL)),op 5 (.ak (.c (.int .i64 62)))]<|.ret) (.skip))<|so [mv 12 0,nc 13 12,fa 14 0 13,l1 15 14,mv 16 1,op 17 (.mK (.sc .str) .aL true (.r 15) (.r 16)),mv 11 17,xt 18 0 11,xt 19 1 11,mv 6 18,mv 7 19]<|sq (so [mv 20 7,op 21 (.un .not (.r 20))]<|.cond (.r 21) (so [op 4 (.ak (.c .aL)),op 5 (.ak (.c (.int .i64 61)))]<|.ret) (.skip))<|so [mv 22 6,mv 4 22,op 5 (.ak (.c (.int .i64 0)))]<|.ret⟩
def FC:An:=⟨[],[]⟩
def Ck:Go.Rmp.Fn:=⟨8,1,[.t 2],so [op 2 (.ak (.c (.sl .nil [])))]<|sq (so [mv 3 0,op 4 (.eX false .slice (.r 3) (.c (.sl .nil [])))]<|.cond (.r 4) (so [op 2 (.ak (.c (.sl .nil [])))]<|.ret) (.skip))<|so [op 5 (.kr 0 [.int .u8 0] []),mv 6 0,op 7 (.app 1 1 false (.r 5) (.r 6)),mv 2 7]<|.ret⟩
def FD:An:=⟨[],[]⟩
def Cl:Go.Rmp.Fn:=⟨30,1,[.t 2],so [op 2 (.ak (.c (.bool false)))]<|sq (so [mv 3 0,nc 4 3,fa 5 3 4,l1 6 5]<|.cond (.r 6) (so [mv 7 0,nc 8 7,fa 9 4 8,l1 10 9,op 11 (.bin .eql (.r 10) (.c (.int .i64 0)))]<|.cond (.r 11) (.ops [mv 12 0,mv 13 0,nc 14 13,fa 15 5 14,l1 16 15,cl 17 126 [.r 12,.r 16]]) (.ops [mv 18 0,nc 19 18,fa 20 4 19,l1 21 20,op 22 (.bin .sub (.r 21) (.c (.int .i64 1))),nc 23 18,fa 24 4 23,se 1 24 22])) (.skip))<|so [mv 25 0,nc 26 25,fa 27 1 26,l1 28 27,op 29 (.un .not (.r 28)),mv 2 29]<|.ret⟩
def FE:An:=⟨[],[]⟩
def Cm:Go.Rmp.Fn:=⟨9,1,[.t 2],so [op 2 (.ak (.c (.sl .nil [])))]<|so [mv 4 0,cl 5 127 [.r 4],mv 3 5]<|so [mv 6 3,cl 7 128 [.r 6]]<|so [mv 8 3,mv 2 8]<|.ret⟩
def FF:An:=⟨[],[]⟩
def Cn:Go.Rmp.Fn:=⟨4,1,[.t 2],so [op 1 (.box (.r 0)),op 2 (.ak (.c .dv))]<|so [op 3 (.yC 129 [.r 1]),mv 2 3]<|.ret⟩
def FG:An:=⟨[],[]⟩
def Co:Go.Rmp.Fn:=⟨11,1,[.t 2],so [op 2 (.ak (.c (.bool false)))]<|so [mv 3 0,op 4 (.len .str (.r 3)),op 5 (.bin .geq (.r 4) (.c (.int .i64 1))),mv 6 5,mt 7 0 6,gt 8 6 (.len .str (.r 7)),gt 9 6 (.bin .leq (.r 8) (.c (.int .i64 32))),op 10 (.pick (.r 6) (.r 9) (.c (.bool false))),mv 2 10]<|.ret⟩
def FH:An:=⟨[(9,2),(12,2),(13,2)],[]⟩
def Cp:Go.Rmp.Fn:=⟨54,2,[.t 4],so [op 4 (.ak (.c (.str ⟨#[]⟩)))]<|sq (so [mv 10 1,op 11 (.bin .eql (.r 10) (.c (.int .i64 10)))]<|.cond (.r 11) (sq (so [mv 12 0,op 13 (.bin .leq (.c (.int .i64 0)) (.r 12)),mv 14 13,mt 15 0 14,gt 16 14 (.bin .lss (.r 15) (.c (.int .i64 100))),op 17 (.pick (.r 14) (.r 16) (.c (.bool false)))]<|.cond (.r 17) (so [mv 18 0,cl 19 130 [.r 18],mv 4 19]<|.ret) (.skip))<|so [op 5 (.alloc [.int .u8 0,.int .u8 0,.int .u8 0,.int .u8 0,.int .u8 0,.int .u8 0,.int .u8 0,.int .u8 0,.int .u8 0,.int .u8 0,.int .u8 0,.int .u8 0,.int .u8 0,.int .u8 0,.int .u8 0,.int .u8 0,.int .u8 0,.int .u8 0,.int .u8 0,.int .u8 0,.int .u8 0,.int .u8 0,.int .u8 0,.int .u8 0])]<|so [mv 20 0,op 21 (.eg .u64 (.r 20)),mv 6 21]<|sq (so [mv 22 0,op 23 (.bin .lss (.r 22) (.c (.int .i64 0)))]<|.cond (.r 23) (.ops [mv 24 6,op 25 (.un .neg (.r 24)),mv 6 25]) (.skip))<|so [mv 26 6,cl 27 131 [.r 26],mv 7 27]<|so [mv 28 7,op 29 (.bin .add (.c (.int .i64 1)) (.r 28)),⟨(some 30),.bl (.c .dv) [],none,[]⟩,mv 31 6,cl 32 132 [.r 30,.r 31]]<|sq (so [mv 33 0,op 34 (.bin .lss (.r 33) (.c (.int .i64 0)))]<|.cond (.r 34) (so [op 35 (.wE 24 1 (.r 5) (.c (.int .i64 0))),ef (.st 1 (.r 35) (.c (.int .u8 45)))]<|so [mv 36 7,op 37 (.bin .add (.c (.int .i64 1)) (.r 36)),⟨(some 38),.bl (.c .dv) [],none,[]⟩,op 39 (.p9 (.r 38)),mv 4 39]<|.ret) (.skip))<|so [mv 40 7,op 41 (.bin .add (.c (.int .i64 1)) (.r 40)),⟨(some 42),.bl (.c .dv) [],none,[]⟩,op 43 (.p9 (.r 42)),mv 4 43]<|.ret) (.skip))<|so [mv 45 0,op 46 (.eg .u64 (.r 45)),mv 47 1,mv 48 0,op 49 (.bin .lss (.r 48) (.c (.int .i64 0))),cl 50 133 [(.c (.sl .nil [])),.r 46,.r 47,.r 49,(.c (.bool false))],mv 44 50,xt 51 0 44,xt 52 1 44,mv 8 51,mv 9 52]<|so [mv 53 9,mv 4 53]<|.ret⟩
def FI:An:=⟨[],[]⟩
def Cq:Go.Rmp.Fn:=⟨7,1,[.t 2],so [op 2 (.ak (.c .aL))]<|so [mv 3 0,op 4 (.mx (.r 3) (.c (.int .i64 0))),op 5 (.build [.int .i64 0,.sl .nil [],.int .i64 0] [(0,1,(.r 4))]),op 6 (.box (.r 5)),mv 2 6]<|.ret⟩
def FJ:An:=⟨[],[]⟩
def Cr:Go.Rmp.Fn:=⟨10,2,[],so [mv 4 0,cl 5 148 [.r 4,(.c (.int .i64 4))]]<|.cond (.r 5) (.ops [mv 6 0,mv 7 1,op 8 (.eg .u64 (.r 7)),cl 9 149 [.r 6,.r 8,(.c (.int .i64 4))]]) (.skip)⟩
def FK:An:=⟨[],[]⟩
def Cs:Go.Rmp.Fn:=⟨10,2,[],so [mv 4 0,cl 5 148 [.r 4,(.c (.int .i64 1))]]<|.cond (.r 5) (.ops [mv 6 0,mv 7 1,op 8 (.eg .u64 (.r 7)),cl 9 149 [.r 6,.r 8,(.c (.int .i64 1))]]) (.skip)⟩
def FL:An:=⟨[],[]⟩
def Ct:Go.Rmp.Fn:=⟨9,2,[],so [mv 4 0,cl 5 148 [.r 4,(.c (.int .i64 8))]]<|.cond (.r 5) (.ops [mv 6 0,mv 7 1,cl 8 149 [.r 6,.r 7,(.c (.int .i64 8))]]) (.skip)⟩
def FM:An:=⟨[],[]⟩
def Cu:Go.Rmp.Fn:=⟨23,2,[],so [mv 4 0,mv 5 1,op 6 (.len .str (.r 5)),op 7 (.bin .add (.c (.int .i64 4)) (.r 6)),cl 8 148 [.r 4,.r 7]]<|.cond (.r 8) (so [mv 9 0,mv 10 1,op 11 (.len .str (.r 10)),op 12 (.eg .u64 (.r 11)),cl 13 149 [.r 9,.r 12,(.c (.int .i64 4))]]<|.ops [mv 14 0,mv 15 0,nc 16 15,fa 17 1 16,l1 18 17,mv 19 1,op 20 (.app 1 1 false (.r 18) (.r 19)),nc 21 14,fa 22 1 21,se 1 22 20]) (.skip)⟩
def FN:An:=⟨[],[]⟩
def Cv:Go.Rmp.Fn:=⟨40,2,[],so [op 4 (.ak (.c (.int .i64 4)))]<|sq (so [mv 9 1,cP 10 9,op 11 (.ak (.c (.int .i64 0)))]<|.block 0 (.loop (so [b2 12 .lss 11 10]<|sq (cx 12 0)<|sq (.block 1 (so [ia 13 1 9 11,l1 14 13,mv 6 14]<|.ops [mv 15 4,mv 16 6,op 17 (.len .str (.r 16)),op 18 (.bin .add (.c (.int .i64 4)) (.r 17)),b2 19 .add 15 18,mv 4 19]))<|.ops [op 20 (.bin .add (.r 11) (.c (.int .i64 1))),mv 11 20])))<|sq (so [mv 21 0,mv 22 4,cl 23 148 [.r 21,.r 22],op 24 (.un .not (.r 23))]<|.cond (.r 24) (.ret) (.skip))<|so [mv 25 0,mv 26 1,cP 27 26,op 28 (.eg .u64 (.r 27)),cl 29 149 [.r 25,.r 28,(.c (.int .i64 4))]]<|so [mv 30 1,cP 31 30,op 32 (.ak (.c (.int .i64 0)))]<|.block 2 (.loop (so [b2 33 .lss 32 31]<|sq (cx 33 2)<|sq (.block 3 (so [ia 34 1 30 32,l1 35 34,mv 8 35]<|.ops [mv 36 0,mv 37 8,cl 38 94 [.r 36,.r 37]]))<|.ops [op 39 (.bin .add (.r 32) (.c (.int .i64 1))),mv 32 39]))⟩
def FO:An:=⟨[],[(2,[(0,true),(1,true),(2,true),(3,true),(4,true),(5,true)])]⟩
def Cw:Go.Rmp.Fn:=⟨18,1,[.t 2,.t 3],so [op 2 (.ak (.c (.sl .nil []))),op 3 (.ak (.c (.int .i64 0)))]<|sq (so [mv 4 0,nc 5 4,fa 6 2 5,l1 7 6,op 8 (.bin .neq (.r 7) (.c (.int .i64 0)))]<|.cond (.r 8) (so [mv 9 0,nc 10 9,fa 11 2 10,l1 12 11,op 2 (.ak (.c (.sl .nil []))),mv 3 12]<|.ret) (.skip))<|so [mv 13 0,nc 14 13,fa 15 1 14,l1 16 15,cl 17 72 [.r 16],mv 2 17,op 3 (.ak (.c (.int .i64 0)))]<|.ret⟩
def FP:An:=⟨[],[]⟩
def Cx:Go.Rmp.Fn:=⟨7,1,[.t 2],so [op 2 (.ak (.c .aL))]<|so [mv 3 0,cl 4 72 [.r 3],op 5 (.build [.sl .nil [],.int .i64 0] [(0,1,(.r 4))]),op 6 (.box (.r 5)),mv 2 6]<|.ret⟩
def FQ:An:=⟨[],[]⟩
def Cy:Go.Rmp.Fn:=⟨6,1,[.t 2],so [op 2 (.ak (.c (.int .u32 0)))]<|so [mv 3 0,cl 4 150 [.r 3,(.c (.int .i64 4))],op 5 (.eg .u32 (.r 4)),mv 2 5]<|.ret⟩
def Cz:An:=⟨[],[]⟩
def xw:Go.Rmp.Fn:=⟨6,1,[.t 2],so [op 2 (.ak (.c (.int .u8 0)))]<|so [mv 3 0,cl 4 150 [.r 3,(.c (.int .i64 1))],op 5 (.eg .u8 (.r 4)),mv 2 5]<|.ret⟩
def CA:An:=⟨[],[]⟩
def xy:Go.Rmp.Fn:=⟨5,1,[.t 2],so [op 2 (.ak (.c (.int .u64 0)))]<|so [mv 3 0,cl 4 150 [.r 3,(.c (.int .i64 8))],mv 2 4]<|.ret⟩
def CB:An:=⟨[],[]⟩
def xz:Go.Rmp.Fn:=⟨23,2,[.t 4],so [op 4 (.ak (.c (.int .i64 0)))]<|so [mv 8 0,mv 9 1,cl 10 151 [.r 8,.r 9],mv 7 10,xt 11 0 7,xt 12 1 7,mv 5 11,mv 6 12]<|sq (so [mv 13 6]<|.cond (.r 13) (.ops [mv 14 0,mv 15 0,nc 16 15,fa 17 0 16,l1 18 17,op 19 (.fV 1 (.r 18) (some (.c (.int .i64 4))) none none),nc 20 14,fa 21 0 20,se 1 21 19]) (.skip))<|so [mv 22 5,mv 4 22]<|.ret⟩
def CC:An:=⟨[],[]⟩
def xA:Go.Rmp.Fn:=⟨7,1,[.t 2],so [op 2 (.ak (.c (.int .i64 0)))]<|so [mv 3 0,nc 4 3,fa 5 1 4,l1 6 5,mv 2 6]<|.ret⟩
def CD:An:=⟨[],[]⟩
def xB:Go.Rmp.Fn:=⟨46,2,[.t 4],so [op 4 (.ak (.c (.str ⟨#[]⟩)))]<|so [mv 9 0,mv 10 1,cl 11 151 [.r 9,.r 10],mv 8 11,xt 12 0 8,xt 13 1 8,mv 5 12,mv 6 13]<|sq (so [mv 14 6,op 15 (.un .not (.r 14))]<|.cond (.r 15) (so [op 4 (.ak (.c (.str ⟨#[]⟩)))]<|.ret) (.skip))<|sq (so [mv 16 0,nc 17 16,fa 18 0 17,l1 19 18,cP 20 19,op 21 (.bin .sub (.r 20) (.c (.int .i64 4))),mv 22 5,b2 23 .lss 21 22]<|.cond (.r 23) (so [mv 24 0,nc 25 24,fa 26 1 25,ef (.st 1 (.r 26) (.c (.int .i64 4)))]<|so [op 4 (.ak (.c (.str ⟨#[]⟩)))]<|.ret) (.skip))<|so [mv 27 0,nc 28 27,fa 29 0 28,l1 30 29,mv 31 5,op 32 (.bin .add (.c (.int .i64 4)) (.r 31)),op 33 (.fV 1 (.r 30) (some (.c (.int .i64 4))) (some (.r 32)) none),op 34 (.p9 (.r 33)),mv 7 34]<|so [mv 35 0,mv 36 0,nc 37 36,fa 38 0 37,l1 39 38,mv 40 5,op 41 (.bin .add (.c (.int .i64 4)) (.r 40)),op 42 (.fV 1 (.r 39) (some (.r 41)) none none),nc 43 35,fa 44 0 43,se 1 44 42]<|so [mv 45 7,mv 4 45]<|.ret⟩
def CE:An:=⟨[],[]⟩
def xC:Go.Rmp.Fn:=⟨42,3,[.t 6],so [op 6 (.ak (.c (.sl .nil [])))]<|so [mv 10 0,nc 11 10,fa 12 0 11,l1 13 12,mv 7 13]<|so [mv 14 0,mv 15 1,cl 16 103 [.r 14,.r 15],mv 8 16]<|so [op 9 (.ak (.c (.sl .nil [])))]<|sq (so [mv 17 8,op 18 (.ak (.c (.int .i64 0)))]<|.block 0 (.loop (so [b2 19 .lss 18 17]<|sq (cx 19 0)<|sq (.block 1 (so [mv 20 9,mv 21 0,mv 22 2,cl 23 105 [.r 21,.r 22],op 24 (.kr 1 [.str ⟨#[]⟩] [(0,(.r 23))]),op 25 (.app 1 16 false (.r 20) (.r 24)),mv 9 25]<|so [mv 26 0,nc 27 26,fa 28 1 27,l1 29 28,op 30 (.bin .neq (.r 29) (.c (.int .i64 0)))]<|.cond (.r 30) (.exit 0) (.skip)))<|.ops [op 31 (.bin .add (.r 18) (.c (.int .i64 1))),mv 18 31])))<|sq (so [mv 32 0,nc 33 32,fa 34 1 33,l1 35 34,op 36 (.bin .neq (.r 35) (.c (.int .i64 0)))]<|.cond (.r 36) (so [mv 37 0,mv 38 7,nc 39 37,fa 40 0 39,se 1 40 38]<|so [op 6 (.ak (.c (.sl .nil [])))]<|.ret) (.skip))<|so [mv 41 9,mv 6 41]<|.ret⟩
def CF:An:=⟨[],[]⟩
def xD:Go.Rmp.Fn:=⟨20,1,[.t 2],so [op 2 (.ak (.c (.int .i64 0)))]<|sq (so [mv 3 0,nc 4 3,fa 5 1 4,l1 6 5,op 7 (.bin .eql (.r 6) (.c (.int .i64 0))),mv 8 7,mt 9 0 8,gt 10 8 (.hP (.r 9)),gt 11 8 (.jy 0 (.r 10)),gt 12 8 (.ld 1 false (.r 11)),gt 13 8 (.len .sl (.r 12)),gt 14 8 (.bin .gtr (.r 13) (.c (.int .i64 0))),op 15 (.pick (.r 8) (.r 14) (.c (.bool false)))]<|.cond (.r 15) (so [op 2 (.ak (.c (.int .i64 5)))]<|.ret) (.skip))<|so [mv 16 0,nc 17 16,fa 18 1 17,l1 19 18,mv 2 19]<|.ret⟩
def CG:An:=⟨[],[]⟩
def xE:Go.Rmp.Fn:=⟨28,1,[.t 2,.t 3],so [op 2 (.ak (.c (.sl .nil []))),op 3 (.ak (.c (.int .i64 0)))]<|so [op 4 (.ak (.c (.sl .nil [])))]<|so [op 5 (.ak (.c (.int .i64 0)))]<|.block 0 (.loop (.block 1 (so [mv 10 0,mv 11 5,op 12 (.fV 1 (.r 10) (some (.r 11)) none none),cl 13 153 [.r 12],mv 9 13,xt 14 0 9,xt 15 1 9,xt 16 2 9,op 6 (.alloc [.int .i64 0,.int .u64 0,.sl .nil [],.sl .nil []]),se 4 6 14,mv 7 15,mv 8 16]<|sq (so [mv 17 8,op 18 (.bin .neq (.r 17) (.c (.int .i64 0)))]<|.cond (.r 18) (so [mv 19 4,mv 20 5,mv 2 19,mv 3 20]<|.ret) (.skip))<|so [mv 21 4,ln 22 4 6,op 23 (.kr 1 [.int .i64 0,.int .u64 0,.sl .nil [],.sl .nil []] [(0,(.r 22))]),op 24 (.app 4 64 false (.r 21) (.r 23)),mv 4 24]<|.ops [mv 25 5,mv 26 7,b2 27 .add 25 26,mv 5 27])))⟩
def CH:An:=⟨[],[]⟩
def xF:Go.Rmp.Fn:=⟨66,1,[.t 2],so [op 1 (.box (.r 0)),op 2 (.ak (.c (.bool false)))]<|sq (.block 0 (so [fa 7 1 1,l1 8 7,cl 9 154 [.r 8],op 10 (.un .not (.r 9)),mv 6 10]<|.cond (.r 6) (so [op 2 (.ak (.c (.bool false)))]<|.ret) (so [fa 12 0 1,l1 13 12,op 14 (.bin .eql (.r 13) (.c (.int .i64 2))),mv 11 14]<|.cond (.r 11) (so [fa 15 2 1,l1 16 15,cP 17 16,op 18 (.bin .eql (.r 17) (.c (.int .i64 0))),mv 19 18,gt 20 19 (.jy 3 (.r 1)),gt 21 19 (.ld 1 false (.r 20)),gt 22 19 (.len .sl (.r 21)),gt 23 19 (.bin .eql (.r 22) (.c (.int .i64 0))),op 24 (.pick (.r 19) (.r 23) (.c (.bool false))),mv 2 24]<|.ret) (so [fa 26 0 1,l1 27 26,op 28 (.bin .neq (.r 27) (.c (.int .i64 1))),mv 29 28,gf 30 29 (.jy 3 (.r 1)),gf 31 29 (.ld 1 false (.r 30)),⟨(some 32),.call 155 [.r 31],(some (29,false)),[]⟩,gf 33 29 (.un .not (.r 32)),op 34 (.pick (.r 29) (.c (.bool true)) (.r 33)),mv 25 34]<|.cond (.r 25) (so [op 2 (.ak (.c (.bool false)))]<|.ret) (.skip)))))<|so [fa 35 2 1,l1 36 35,cl 37 156 [.r 36],mv 3 37]<|sq (so [mv 38 3,cP 39 38,op 40 (.bin .eql (.r 39) (.c (.int .i64 0))),mv 41 40,mf 42 3 41,⟨(some 43),.call 157 [.r 42],(some (41,false)),[]⟩,gf 44 41 (.un .not (.r 43)),op 45 (.pick (.r 41) (.c (.bool true)) (.r 44))]<|.cond (.r 45) (so [op 2 (.ak (.c (.bool false)))]<|.ret) (.skip))<|sq (so [fa 46 2 1,l1 47 46,cP 48 47,op 49 (.ak (.c (.int .i64 0)))]<|.block 1 (.loop (so [b2 50 .lss 49 48]<|sq (cx 50 1)<|sq (.block 2 (so [ia 51 2 47 49,ln 52 2 51,op 5 (.alloc [.str ⟨#[]⟩,.str ⟨#[]⟩]),se 2 5 52]<|so [fa 53 3 1,l1 54 53,fa 55 0 5,l1 56 55,cl 57 158 [.r 54,.r 56],op 58 (.un .not (.r 57)),mv 59 58,gf 60 59 (.jy 1 (.r 5)),gf 61 59 (.ld 1 false (.r 60)),gf 62 59 (.len .str (.r 61)),gf 63 59 (.bin .gtr (.r 62) (.c (.int .i64 65535))),op 64 (.pick (.r 59) (.c (.bool true)) (.r 63))]<|.cond (.r 64) (so [op 2 (.ak (.c (.bool false)))]<|.ret) (.skip)))<|.ops [op 65 (.bin .add (.r 49) (.c (.int .i64 1))),mv 49 65])))<|so [op 2 (.ak (.c (.bool true)))]<|.ret⟩
def CI:An:=⟨[],[]⟩
def xG:Go.Rmp.Fn:=⟨50,1,[.t 2,.t 3],so [op 1 (.box (.r 0)),op 2 (.ak (.c (.sl .nil []))),op 3 (.ak (.c (.int .i64 0)))]<|so [cl 7 90 [(.c (.int .i64 1048576))],mv 4 7]<|so [mv 8 4,fa 9 0 1,l1 10 9,op 11 (.eg .u8 (.r 10)),cl 12 92 [.r 8,.r 11]]<|so [mv 13 4,fa 14 1 1,l1 15 14,cl 16 93 [.r 13,.r 15]]<|sq (so [fa 17 0 1,l1 18 17,op 19 (.bin .eql (.r 18) (.c (.int .i64 1)))]<|.cond (.r 19) (so [mv 20 4,fa 21 2 1,l1 22 21,cP 23 22,op 24 (.eg .u32 (.r 23)),cl 25 91 [.r 20,.r 24]]<|sq (so [fa 26 2 1,l1 27 26,cP 28 27,op 29 (.ak (.c (.int .i64 0)))]<|.block 0 (.loop (so [b2 30 .lss 29 28]<|sq (cx 30 0)<|sq (.block 1 (so [ia 31 2 27 29,ln 32 2 31,op 6 (.alloc [.str ⟨#[]⟩,.str ⟨#[]⟩]),se 2 6 32]<|so [mv 33 4,fa 34 0 6,l1 35 34,cl 36 94 [.r 33,.r 35]]<|.ops [mv 37 4,fa 38 1 6,l1 39 38,cl 40 94 [.r 37,.r 39]]))<|.ops [op 41 (.bin .add (.r 29) (.c (.int .i64 1))),mv 29 41])))<|.ops [mv 42 4,fa 43 3 1,l1 44 43,cl 45 95 [.r 42,.r 44]]) (.skip))<|so [mv 46 4,cl 47 96 [.r 46],xt 48 0 47,xt 49 1 47,mv 2 48,mv 3 49]<|.ret⟩
def CJ:An:=⟨[],[]⟩
def xH:Go.Rmp.Fn:=⟨5,1,[.t 2],so [op 2 (.ak (.c (.int .u32 0)))]<|so [mv 3 0,cl 4 159 [(.c (.int .u32 0)),.r 3],mv 2 4]<|.ret⟩
def CK:An:=⟨[],[]⟩
def xI:Go.Rmp.Fn:=⟨8,1,[.t 2],so [op 2 (.ak (.c (.sl .nil [])))]<|sq (so [mv 3 0,op 4 (.eX false .slice (.r 3) (.c (.sl .nil [])))]<|.cond (.r 4) (so [op 2 (.ak (.c (.sl .nil [])))]<|.ret) (.skip))<|so [op 5 (.kr 0 [.int .u8 0] []),mv 6 0,op 7 (.app 1 1 false (.r 5) (.r 6)),mv 2 7]<|.ret⟩
def CL:An:=⟨[],[]⟩
def xJ:Go.Rmp.Fn:=⟨19,2,[.t 4],so [op 4 (.ak (.c (.int .i64 0)))]<|sq (so [mv 6 0,cP 7 6,op 8 (.ak (.c (.int .i64 0)))]<|.block 0 (.loop (so [b2 9 .lss 8 7]<|sq (cx 9 0)<|sq (.block 1 (so [mv 10 8,mv 5 10]<|so [mv 11 1,mv 12 0,mv 13 5,ia 14 1 12 13,l1 15 14,b2 16 .eql 11 15]<|.cond (.r 16) (so [mv 17 5,mv 4 17]<|.ret) (.skip)))<|.ops [op 18 (.bin .add (.r 8) (.c (.int .i64 1))),mv 8 18])))<|so [op 4 (.ak (.c (.int .i64 (-1))))]<|.ret⟩
def CM:An:=⟨[],[(6,[(0,true),(1,true),(2,true),(3,true),(4,true),(5,true),(6,true),(7,true),(8,true),(9,true),(10,true),(11,true),(12,true),(13,true),(14,true),(15,true),(16,true),(17,false),(18,true),(19,true),(20,true),(21,true),(22,true),(23,true),(24,true),(25,true)])]⟩
def xK:Go.Rmp.Fn:=⟨55,3,[.t 6],so [op 6 (.ak (.c (.bool false)))]<|sq (so [mv 9 0,op 10 (.bin .lss (.r 9) (.c (.int .u64 65536))),mv 11 10,mf 12 2 11,⟨(some 13),.call 160 [.r 12],(some (11,false)),[]⟩,gf 14 11 (.un .not (.r 13)),op 15 (.pick (.r 11) (.c (.bool true)) (.r 14)),mv 16 15,mf 17 1 16,gf 18 16 (.len .sl (.r 17)),gf 19 16 (.bin .lss (.r 18) (.c (.int .i64 1))),op 20 (.pick (.r 16) (.c (.bool true)) (.r 19))]<|.cond (.r 20) (so [op 6 (.ak (.c (.bool false)))]<|.ret) (.skip))<|sq (so [mv 21 1,cP 22 21,op 23 (.ak (.c (.int .i64 0)))]<|.block 0 (.loop (so [b2 24 .lss 23 22]<|sq (cx 24 0)<|sq (.block 1 (so [mv 25 23,ia 26 2 21 23,ln 27 2 26,op 8 (.alloc [.str ⟨#[]⟩,.str ⟨#[]⟩]),mv 7 25,se 2 8 27]<|so [mv 28 7,op 29 (.bin .gtr (.r 28) (.c (.int .i64 0))),mv 30 29,gt 31 30 (.jy 0 (.r 8)),gt 32 30 (.ld 1 false (.r 31)),mt 33 1 30,mt 34 7 30,gt 35 30 (.bin .sub (.r 34) (.c (.int .i64 1))),gt 36 30 (.mJ 2 (.r 33) (.r 35)),gt 37 30 (.jy 0 (.r 36)),gt 38 30 (.ld 1 false (.r 37)),gt 39 30 (.bin .leq (.r 32) (.r 38)),op 40 (.pick (.r 30) (.r 39) (.c (.bool false))),mv 41 40,mf 42 2 41,gf 43 41 (.jy 0 (.r 8)),gf 44 41 (.ld 1 false (.r 43)),⟨(some 45),.call 161 [.r 42,.r 44],(some (41,false)),[]⟩,gf 46 41 (.un .not (.r 45)),op 47 (.pick (.r 41) (.c (.bool true)) (.r 46)),mv 48 47,gf 49 48 (.jy 1 (.r 8)),gf 50 48 (.ld 1 false (.r 49)),gf 51 48 (.len .str (.r 50)),gf 52 48 (.bin .gtr (.r 51) (.c (.int .i64 65535))),op 53 (.pick (.r 48) (.c (.bool true)) (.r 52))]<|.cond (.r 53) (so [op 6 (.ak (.c (.bool false)))]<|.ret) (.skip)))<|.ops [op 54 (.bin .add (.r 23) (.c (.int .i64 1))),mv 23 54])))<|so [op 6 (.ak (.c (.bool true)))]<|.ret⟩
def CN:An:=⟨[],[]⟩
def xL:Go.Rmp.Fn:=⟨9,1,[.t 2],so [op 2 (.ak (.c (.bool false)))]<|so [mv 3 0,op 4 (.bin .geq (.r 3) (.c (.int .i64 0))),mv 5 4,mt 6 0 5,gt 7 5 (.bin .leq (.r 6) (.c (.int .i64 1099511627776))),op 8 (.pick (.r 5) (.r 7) (.c (.bool false))),mv 2 8]<|.ret⟩
def CO:An:=⟨[(3,16),(4,16)],[(1,[(0,true),(1,true),(2,true),(3,true),(4,true),(5,true),(6,false)]),(2,[(0,true),(1,true),(2,true),(3,true),(4,true),(5,true),(6,true),(7,true),(8,true),(9,false),(10,true),(11,true),(12,true),(13,true),(14,true)]),(3,[(0,true),(1,true),(2,true),(3,true),(4,true),(5,true),(6,true),(7,true),(8,true),(9,true),(10,true),(11,true),(12,true),(13,true),(14,true),(15,true),(16,false),(17,false),(18,false)]),(4,[(0,true),(1,true),(2,true),(3,true),(4,true),(5,true),(6,true),(7,true),(8,true),(9,true),(10,true),(11,true),(12,true),(13,true),(14,true),(15,true),(16,false),(17,false)])]⟩
def xM:Go.Rmp.Fn:=⟨62,3,[],so [op 4 (.box (.r 1)),op 5 (.box (.r 2))]<|so [mv 8 0,nc 9 8,fa 10 0 9,l1 11 10,ln 12 2 4,ln 13 3 5,ef (.tR (.st [.str,.int]) (.r 11) (.r 12) (.r 13))]<|so [mv 15 0,nc 16 15,fa 17 1 16,l1 18 17,fa 19 0 4,l1 20 19,op 21 (.mK (.sc .str) (.sl .nil []) false (.r 18) (.r 20)),fa 22 1 4,l1 23 22,cl 24 162 [.r 21,.r 23],mv 14 24,xt 25 0 14,xt 26 1 14,mv 6 25,mv 7 26]<|so [mv 27 0,nc 28 27,fa 29 1 28,l1 30 29,fa 31 0 4,l1 32 31,mv 33 0,nc 34 33,fa 35 1 34,l1 36 35,fa 37 0 4,l1 38 37,op 39 (.mK (.sc .str) (.sl .nil []) false (.r 36) (.r 38)),mv 40 6,fa 41 1 4,l1 42 41,⟨(some 43),.b (.z8 1 [.int .u64 0] [(0,(.r 42))]),none,[⟨30,.ld 1 false (.r 29),none⟩,⟨32,.ld 1 false (.r 31),none⟩,⟨36,.ld 1 false (.r 35),none⟩,⟨38,.ld 1 false (.r 37),none⟩,⟨39,.mK (.sc .str) (.sl .nil []) false (.r 36) (.r 38),none⟩]⟩,⟨(some 44),.call 163 [.r 39,.r 40,.r 43],none,[⟨30,.ld 1 false (.r 29),none⟩,⟨32,.ld 1 false (.r 31),none⟩]⟩,ef (.tR (.sc .str) (.r 30) (.r 32) (.r 44))]<|.ops [mv 45 0,nc 46 45,fa 47 2 46,l1 48 47,fa 49 1 4,l1 50 49,mv 51 0,nc 52 51,fa 53 2 52,l1 54 53,fa 55 1 4,l1 56 55,op 57 (.mK (.sc .int) (.sl .nil []) false (.r 54) (.r 56)),fa 58 0 4,l1 59 58,op 60 (.kr 1 [.str ⟨#[]⟩] [(0,(.r 59))]),⟨(some 61),.b (.app 1 16 true (.r 57) (.r 60)),none,[⟨48,.ld 1 false (.r 47),none⟩,⟨50,.ld 1 false (.r 49),none⟩]⟩,ef (.tR (.sc .int) (.r 48) (.r 50) (.r 61))]⟩
def CP:An:=⟨[],[]⟩
def xN:Go.Rmp.Fn:=⟨8,1,[.t 2],so [op 2 (.ak (.c (.sl .nil [])))]<|sq (so [mv 3 0,op 4 (.eX false .slice (.r 3) (.c (.sl .nil [])))]<|.cond (.r 4) (so [op 2 (.ak (.c (.sl .nil [])))]<|.ret) (.skip))<|so [op 5 (.kr 0 [.str ⟨#[]⟩] []),mv 6 0,op 7 (.app 1 16 false (.r 5) (.r 6)),mv 2 7]<|.ret⟩
def CQ:An:=⟨[],[]⟩
def xO:Go.Rmp.Fn:=⟨5,1,[.t 2],so [op 2 (.ak (.c (.sl .nil [])))]<|so [mv 3 0,cl 4 169 [(.c (.sl .nil [])),.r 3],mv 2 4]<|.ret⟩
def CR:An:=⟨[],[]⟩
def xP:Go.Rmp.Fn:=⟨11,1,[],so [mv 3 0,cP 4 3,mv 2 4]<|.ops [mv 5 0,mv 6 2,mv 7 2,op 8 (.eg .u64 (.r 7)),cl 9 166 [.r 8],cl 10 170 [.r 5,(.c (.int .i64 0)),.r 6,.r 9]]⟩
def CS:An:=⟨[],[]⟩
def xQ:Go.Rmp.Fn:=⟨14,2,[],so [l1 4 1,op 5 (.z6 (.r 4))]<|.block 0 (.loop (so [op 6 (.hU (.r 5)),xt 7 0 6]<|sq (cx 7 0)<|.block 1 (so [op 8 (.z7 (.r 5)),xt 9 0 8,mv 3 9]<|so [mv 10 0,mv 11 3,⟨(some 12),.bl (.r 10) [.r 11],none,[]⟩,op 13 (.un .not (.r 12))]<|.cond (.r 13) (.ret) (.skip))))⟩
def CT:An:=⟨[],[]⟩
def xR:Go.Rmp.Fn:=⟨15,1,[.t 2],so [op 2 (.ak (.c (.str ⟨#[]⟩)))]<|sq (so [mv 3 0,op 4 (.bin .lss (.r 3) (.c (.int .i64 10)))]<|.cond (.r 4) (so [mv 5 0,mv 6 0,op 7 (.bin .add (.r 6) (.c (.int .i64 1))),op 8 (.yB (.c (.str ⟨#[48,49,50,51,52,53,54,55,56,57,97,98,99,100,101,102,103,104,105,106,107,108,109,110,111,112,113,114,115,116,117,118,119,120,121,122]⟩)) (some (.r 5)) (some (.r 7))),mv 2 8]<|.ret) (.skip))<|so [mv 9 0,op 10 (.bin .mul (.r 9) (.c (.int .i64 2))),mv 11 0,op 12 (.bin .mul (.r 11) (.c (.int .i64 2))),op 13 (.bin .add (.r 12) (.c (.int .i64 2))),op 14 (.yB (.c (.str ⟨#[48,48,48,49,48,50,48,51,48,52,48,53,48,54,48,55,48,56,48,57,49,48,49,49,49,50,49,51,49,52,49,53,49,54,49,55,49,56,49,57,50,48,50,49,50,50,50,51,50,52,50,53,50,54,50,55,50,56,50,57,51,48,51,49,51,50,51,51,51,52,51,53,51,54,51,55,51,56,51,57,52,48,52,49,52,50,52,51,52,52,52,53,52,54,52,55,52,56,52,57,53,48,53,49,53,50,53,51,53,52,53,53,53,54,53,55,53,56,53,57,54,48,54,49,54,50,54,51,54,52,54,53,54,54,54,55,54,56,54,57,55,48,55,49,55,50,55,51,55,52,55,53,55,54,55,55,55,56,55,57,56,48,56,49,56,50,56,51,56,52,56,53,56,54,56,55,56,56,56,57,57,48,57,49,57,50,57,51,57,52,57,53,57,54,57,55,57,56,57,57]⟩)) (some (.r 10)) (some (.r 13))),mv 2 14]<|.ret⟩
def CU:An:=⟨[],[(1,[(0,true),(1,true),(2,true),(3,true),(4,true),(5,true),(6,true),(7,true),(8,true),(9,true),(10,true),(11,true),(12,true),(13,true),(14,true),(15,true),(16,true),(17,true),(18,true)])]⟩
def xS:Go.Rmp.Fn:=⟨32,2,[.t 4],so [op 4 (.ak (.c (.bool false)))]<|sq (so [mv 5 0,nc 6 5,fa 7 2 6,l1 8 7,op 9 (.bin .eql (.r 8) (.c (.int .i64 0))),mv 10 9,mt 11 1 10,mt 12 0 10,gt 13 10 (.hP (.r 12)),gt 14 10 (.jy 0 (.r 13)),gt 15 10 (.ld 1 false (.r 14)),mt 16 0 10,gt 17 10 (.hP (.r 16)),gt 18 10 (.jy 1 (.r 17)),gt 19 10 (.ld 1 false (.r 18)),gt 20 10 (.len .sl (.r 19)),gt 21 10 (.bin .sub (.r 15) (.r 20)),gt 22 10 (.bin .gtr (.r 11) (.r 21)),op 23 (.pick (.r 10) (.r 22) (.c (.bool false)))]<|.cond (.r 23) (.ops [mv 24 0,nc 25 24,fa 26 2 25,ef (.st 1 (.r 26) (.c (.int .i64 3)))]) (.skip))<|so [mv 27 0,nc 28 27,fa 29 2 28,l1 30 29,op 31 (.bin .eql (.r 30) (.c (.int .i64 0))),mv 4 31]<|.ret⟩
def CV:An:=⟨[],[(3,[(0,true),(1,true),(2,true),(3,true),(4,true),(5,true),(6,true),(7,true),(8,true),(9,true),(10,true),(11,false),(12,true),(13,true),(14,false)])]⟩
def xU:Go.Rmp.Fn:=⟨27,3,[],so [mv 7 2,op 8 (.bin .sub (.r 7) (.c (.int .i64 1))),mv 6 8]<|.block 0 (.loop (sq (so [mv 9 6,op 10 (.bin .geq (.r 9) (.c (.int .i64 0)))]<|cx 10 0)<|sq (.block 1 (.ops [mv 13 0,mv 14 0,nc 15 14,fa 16 1 15,l1 17 16,mv 18 1,mv 19 6,op 20 (.bin .mul (.c (.int .i64 8)) (.r 19)),b2 21 .shr 18 20,op 22 (.eg .u8 (.r 21)),op 23 (.kr 1 [.int .u8 0] [(0,(.r 22))]),op 24 (.app 1 1 false (.r 17) (.r 23)),nc 25 13,fa 26 1 25,se 1 26 24]))<|.ops [mv 11 6,op 12 (.bin .sub (.r 11) (.c (.int .i64 1))),mv 6 12]))⟩
def CW:An:=⟨[],[]⟩
def xV:Go.Rmp.Fn:=⟨24,2,[.t 4],so [op 4 (.ak (.c (.int .u64 0)))]<|so [mv 8 0,mv 9 1,cl 10 187 [.r 8,.r 9],mv 7 10,xt 11 0 7,xt 12 1 7,mv 5 11,mv 6 12]<|sq (so [mv 13 6]<|.cond (.r 13) (.ops [mv 14 0,mv 15 0,nc 16 15,fa 17 0 16,l1 18 17,mv 19 1,op 20 (.fV 1 (.r 18) (some (.r 19)) none none),nc 21 14,fa 22 0 21,se 1 22 20]) (.skip))<|so [mv 23 5,mv 4 23]<|.ret⟩
def CX:An:=⟨[],[]⟩
def xW:Go.Rmp.Fn:=⟨27,2,[.t 4,.t 5],so [op 4 (.ak (.c (.int .i64 0))),op 5 (.ak (.c (.bool false)))]<|so [mv 9 0,cl 10 187 [.r 9,(.c (.int .i64 4))],mv 8 10,xt 11 0 8,xt 12 1 8,mv 6 11,mv 7 12]<|sq (so [mv 13 7,mv 14 13,mt 15 6 14,mt 16 1 14,gt 17 14 (.mx (.r 16) (.c (.int .i64 0))),gt 18 14 (.eg .u64 (.r 17)),gt 19 14 (.bin .gtr (.r 15) (.r 18)),op 20 (.pick (.r 14) (.r 19) (.c (.bool false)))]<|.cond (.r 20) (so [mv 21 0,nc 22 21,fa 23 1 22,ef (.st 1 (.r 23) (.c (.int .i64 3)))]<|so [op 4 (.ak (.c (.int .i64 0))),op 5 (.ak (.c (.bool false)))]<|.ret) (.skip))<|so [mv 24 6,op 25 (.eg .i64 (.r 24)),mv 26 7,mv 4 25,mv 5 26]<|.ret⟩
def CY:An:=⟨[],[]⟩
def xX:Go.Rmp.Fn:=⟨56,1,[.cl 2 4 true,.t 3,.t 4],so [op 2 (.alloc [.int .i64 0,.int .u64 0,.sl .nil [],.sl .nil []]),op 3 (.ak (.c (.int .i64 0))),op 4 (.ak (.c (.int .i64 0)))]<|sq (so [mv 10 0,cP 11 10,op 12 (.bin .lss (.r 11) (.c (.int .i64 8)))]<|.cond (.r 12) (so [op 13 (.build [.int .i64 0,.int .u64 0,.sl .nil [],.sl .nil []] []),se 4 2 13,op 3 (.ak (.c (.int .i64 0))),op 4 (.ak (.c (.int .i64 91)))]<|.ret) (.skip))<|so [mv 14 0,op 15 (.fV 1 (.r 14) none (some (.c (.int .i64 8))) none),cl 16 98 [.r 15],mv 5 16]<|so [mv 17 5,cl 18 99 [.r 17],op 19 (.eg .i64 (.r 18)),mv 20 5,cl 21 99 [.r 20],mv 6 19,mv 7 21]<|sq (.block 0 (so [mv 23 6,op 24 (.bin .gtr (.r 23) (.c (.int .i64 1048576))),mv 22 24]<|.cond (.r 22) (so [op 25 (.build [.int .i64 0,.int .u64 0,.sl .nil [],.sl .nil []] []),se 4 2 25,op 3 (.ak (.c (.int .i64 0))),op 4 (.ak (.c (.int .i64 3)))]<|.ret) (so [mv 27 6,mv 28 0,cP 29 28,op 30 (.bin .sub (.r 29) (.c (.int .i64 8))),b2 31 .gtr 27 30,mv 26 31]<|.cond (.r 26) (so [op 32 (.build [.int .i64 0,.int .u64 0,.sl .nil [],.sl .nil []] []),se 4 2 32,op 3 (.ak (.c (.int .i64 0))),op 4 (.ak (.c (.int .i64 91)))]<|.ret) (so [mv 34 0,mv 35 6,op 36 (.bin .add (.c (.int .i64 8)) (.r 35)),op 37 (.fV 1 (.r 34) (some (.c (.int .i64 8))) (some (.r 36)) none),cl 38 113 [.r 37],mv 39 7,b2 40 .neq 38 39,mv 33 40]<|.cond (.r 33) (so [op 41 (.build [.int .i64 0,.int .u64 0,.sl .nil [],.sl .nil []] []),se 4 2 41,op 3 (.ak (.c (.int .i64 0))),op 4 (.ak (.c (.int .i64 90)))]<|.ret) (.skip)))))<|so [mv 43 0,mv 44 6,op 45 (.bin .add (.c (.int .i64 8)) (.r 44)),op 46 (.fV 1 (.r 43) (some (.c (.int .i64 8))) (some (.r 45)) none),cl 47 188 [.r 46],mv 42 47,xt 48 0 42,xt 49 1 42,op 8 (.alloc [.int .i64 0,.int .u64 0,.sl .nil [],.sl .nil []]),se 4 8 48,mv 9 49]<|sq (so [mv 50 9,op 51 (.un .not (.r 50))]<|.cond (.r 51) (so [op 52 (.build [.int .i64 0,.int .u64 0,.sl .nil [],.sl .nil []] []),se 4 2 52,op 3 (.ak (.c (.int .i64 0))),op 4 (.ak (.c (.int .i64 2)))]<|.ret) (.skip))<|so [ln 53 4 8,mv 54 6,op 55 (.bin .add (.c (.int .i64 8)) (.r 54)),se 4 2 53,mv 3 55,op 4 (.ak (.c (.int .i64 0)))]<|.ret⟩
def CZ:An:=⟨[],[]⟩
def xY:Go.Rmp.Fn:=⟨5,1,[.t 2],so [op 2 (.ak (.c (.bool false)))]<|so [mv 3 0,op 4 (.bin .geq (.r 3) (.c (.int .u64 65536))),mv 2 4]<|.ret⟩
def C0:An:=⟨[],[]⟩
def xZ:Go.Rmp.Fn:=⟨9,1,[.t 2],so [op 2 (.ak (.c (.bool false)))]<|so [mv 3 0,cl 4 189 [.r 3],mv 5 4,mt 6 0 5,⟨(some 7),.call 157 [.r 6],(some (5,true)),[]⟩,op 8 (.pick (.r 5) (.r 7) (.c (.bool false))),mv 2 8]<|.ret⟩
def C1:An:=⟨[],[]⟩
def x0:Go.Rmp.Fn:=⟨19,1,[.t 2],so [op 2 (.ak (.c (.sl .nil [])))]<|so [op 3 (.ak (.c (.sl .nil [])))]<|sq (so [mv 6 0,cP 7 6,op 8 (.ak (.c (.int .i64 0)))]<|.block 0 (.loop (so [b2 9 .lss 8 7]<|sq (cx 9 0)<|sq (.block 1 (so [ia 10 2 6 8,ln 11 2 10,op 5 (.alloc [.str ⟨#[]⟩,.str ⟨#[]⟩]),se 2 5 11]<|.ops [mv 12 3,fa 13 0 5,l1 14 13,op 15 (.kr 1 [.str ⟨#[]⟩] [(0,(.r 14))]),op 16 (.app 1 16 false (.r 12) (.r 15)),mv 3 16]))<|.ops [op 17 (.bin .add (.r 8) (.c (.int .i64 1))),mv 8 17])))<|so [mv 18 3,mv 2 18]<|.ret⟩
def C2:An:=⟨[],[(4,[(0,true),(1,true),(2,true),(3,true),(4,true),(5,true),(6,true),(7,true),(8,true),(9,true)])]⟩
def x7:Go.Rmp.Fn:=⟨20,1,[.t 2],so [op 2 (.ak (.c (.bool false)))]<|sq (so [op 3 (.ak (.c (.int .i64 1)))]<|.block 0 (.loop (sq (so [mv 4 3,mv 5 0,cP 6 5,b2 7 .lss 4 6]<|cx 7 0)<|sq (.block 1 (so [mv 10 0,mv 11 3,op 12 (.bin .sub (.r 11) (.c (.int .i64 1))),ia 13 1 10 12,l1 14 13,mv 15 0,mv 16 3,ia 17 1 15 16,l1 18 17,b2 19 .geq 14 18]<|.cond (.r 19) (so [op 2 (.ak (.c (.bool false)))]<|.ret) (.skip)))<|.ops [mv 8 3,op 9 (.bin .add (.r 8) (.c (.int .i64 1))),mv 3 9])))<|so [op 2 (.ak (.c (.bool true)))]<|.ret⟩
def C3:An:=⟨[],[]⟩
def x8:Go.Rmp.Fn:=⟨12,2,[.t 4],so [op 4 (.ak (.c (.bool false)))]<|so [mv 5 0,cl 6 157 [.r 5],mv 7 6,mt 8 0 7,mt 9 1 7,⟨(some 10),.call 190 [.r 8,.r 9],(some (7,true)),[]⟩,op 11 (.pick (.r 7) (.r 10) (.c (.bool false))),mv 4 11]<|.ret⟩
def C4:An:=⟨[],[]⟩
def x9:Go.Rmp.Fn:=⟨39,2,[.t 4],so [op 4 (.ak (.c (.int .u32 0)))]<|so [cl 9 191 [],op 5 (.alloc [.int .u32 0,.int .u32 0,.int .u32 0,.int .u32 0,.int .u32 0,.int .u32 0,.int .u32 0,.int .u32 0,.int .u32 0,.int .u32 0,.int .u32 0,.int .u32 0,.int .u32 0,.int .u32 0,.int .u32 0,.int .u32 0]),se 16 5 9]<|so [mv 10 0,op 11 (.un .xor (.r 10)),mv 6 11]<|sq (so [mv 12 1,cP 13 12,op 14 (.ak (.c (.int .i64 0)))]<|.block 0 (.loop (so [b2 15 .lss 14 13]<|sq (cx 15 0)<|sq (.block 1 (so [ia 16 1 12 14,l1 17 16,mv 8 17]<|so [mv 18 6,mv 19 8,op 20 (.eg .u32 (.r 19)),b2 21 .xor 18 20,mv 6 21]<|so [mv 22 6,op 23 (.bin .shr (.r 22) (.c (.int .u64 4))),mv 24 6,op 25 (.bin .and (.r 24) (.c (.int .u32 15))),op 26 (.wE 16 1 (.r 5) (.r 25)),l1 27 26,b2 28 .xor 23 27,mv 6 28]<|.ops [mv 29 6,op 30 (.bin .shr (.r 29) (.c (.int .u64 4))),mv 31 6,op 32 (.bin .and (.r 31) (.c (.int .u32 15))),op 33 (.wE 16 1 (.r 5) (.r 32)),l1 34 33,b2 35 .xor 30 34,mv 6 35]))<|.ops [op 36 (.bin .add (.r 14) (.c (.int .i64 1))),mv 14 36])))<|so [mv 37 6,op 38 (.un .xor (.r 37)),mv 4 38]<|.ret⟩
def C5:An:=⟨[],[]⟩
def ya:Go.Rmp.Fn:=⟨37,1,[.t 2],so [op 2 (.ak (.c (.bool false)))]<|sq (so [mv 5 0,cP 6 5,op 7 (.ak (.c (.int .i64 0)))]<|.block 0 (.loop (so [b2 8 .lss 7 6]<|sq (cx 8 0)<|sq (.block 1 (so [mv 9 7,ia 10 1 5 7,l1 11 10,mv 3 9,mv 4 11]<|so [mv 12 4,op 13 (.len .str (.r 12)),op 14 (.bin .gtr (.r 13) (.c (.int .i64 65535))),mv 15 14,mf 16 3 15,gf 17 15 (.bin .gtr (.r 16) (.c (.int .i64 0))),mf 18 17 15,mt 19 4 18,mt 20 0 18,mt 21 3 18,gt 22 18 (.bin .sub (.r 21) (.c (.int .i64 1))),gt 23 18 (.mJ 1 (.r 20) (.r 22)),gt 24 18 (.ld 1 false (.r 23)),gt 25 18 (.bin .leq (.r 19) (.r 24)),gf 26 15 (.pick (.r 18) (.r 25) (.c (.bool false))),op 27 (.pick (.r 15) (.c (.bool true)) (.r 26))]<|.cond (.r 27) (so [op 2 (.ak (.c (.bool false)))]<|.ret) (.skip)))<|.ops [op 28 (.bin .add (.r 7) (.c (.int .i64 1))),mv 7 28])))<|so [mv 29 0,cP 30 29,op 31 (.bin .geq (.r 30) (.c (.int .i64 1))),mv 32 31,mt 33 0 32,gt 34 32 (.len .sl (.r 33)),gt 35 32 (.bin .leq (.r 34) (.c (.int .i64 1024))),op 36 (.pick (.r 32) (.r 35) (.c (.bool false))),mv 2 36]<|.ret⟩
def C6:An:=⟨[],[]⟩
def yc:Go.Rmp.Fn:=⟨14,2,[.t 4],so [op 4 (.ak (.c (.bool false)))]<|so [mv 8 0,mv 9 1,cl 10 192 [.r 8,.r 9],mv 7 10,xt 11 0 7,xt 12 1 7,mv 5 11,mv 6 12]<|so [mv 13 6,mv 4 13]<|.ret⟩
def C7:An:=⟨[],[]⟩
def yd:Go.Rmp.Fn:=⟨54,2,[.t 4,.t 5],so [op 4 (.ak (.c (.int .i64 0))),op 5 (.ak (.c (.bool false)))]<|so [mv 10 0,cP 11 10,mv 6 11]<|so [mv 12 6,op 7 (.ak (.c (.int .i64 0))),mv 8 12]<|sq (.block 0 (.loop (sq (so [mv 13 7,mv 14 8,b2 15 .lss 13 14]<|cx 15 0)<|.block 1 (so [mv 16 7,mv 17 8,b2 18 .add 16 17,op 19 (.eg .u64 (.r 18)),op 20 (.bin .shr (.r 19) (.c (.int .u64 1))),op 21 (.eg .i64 (.r 20)),mv 9 21]<|so [mv 22 0,mv 23 9,ia 24 1 22 23,l1 25 24,mv 26 1,cl 27 193 [.r 25,.r 26]]<|.cond (.r 27) (.ops [mv 28 9,op 29 (.bin .add (.r 28) (.c (.int .i64 1))),mv 7 29]) (.ops [mv 30 9,mv 8 30])))))<|so [mv 31 7,mv 32 7,mv 33 6,b2 34 .lss 32 33,mv 35 34,mt 36 0 35,mt 37 7 35,gt 38 35 (.mJ 1 (.r 36) (.r 37)),gt 39 35 (.ld 1 false (.r 38)),mt 40 1 35,gt 41 35 (.bin .eql (.r 39) (.r 40)),mt 42 41 35,mf 43 0 42,mf 44 7 42,gf 45 42 (.mJ 1 (.r 43) (.r 44)),gf 46 42 (.ld 1 false (.r 45)),⟨(some 47),.call 194 [.r 46],(some (42,false)),[]⟩,mf 48 47 42,mt 49 1 48,⟨(some 50),.call 194 [.r 49],(some (48,true)),[]⟩,gf 51 42 (.pick (.r 48) (.r 50) (.c (.bool false))),gt 52 35 (.pick (.r 42) (.c (.bool true)) (.r 51)),op 53 (.pick (.r 35) (.r 52) (.c (.bool false))),mv 4 31,mv 5 53]<|.ret⟩
def C8:An:=⟨[(7,2)],[(11,[(0,true),(1,true),(2,true),(3,true),(4,true),(5,true),(6,true),(7,true),(8,false)]),(15,[(0,true),(1,true),(2,true),(3,true),(4,true),(5,true),(6,true),(7,true),(8,false)])]⟩
def ye:Go.Rmp.Fn:=⟨95,3,[.t 6],so [op 6 (.ak (.c (.sl .nil [])))]<|so [mv 10 0,mv 11 1,op 12 (.fV 1 (.r 10) (some (.r 11)) none none)]<|so [mv 13 2,cP 14 13,mv 7 14]<|sq (so [mv 15 7,op 16 (.bin .eql (.r 15) (.c (.int .i64 0)))]<|.cond (.r 16) (so [mv 17 0,mv 6 17]<|.ret) (.skip))<|so [mv 18 0,cP 19 18,mv 8 19]<|sq (so [mv 20 1,mv 21 8,b2 22 .eql 20 21]<|.cond (.r 22) (so [mv 23 0,mv 24 2,op 25 (.app 1 8 true (.r 23) (.r 24)),mv 6 25]<|.ret) (.skip))<|sq (so [mv 26 8,mv 27 7,b2 28 .add 26 27,mv 29 0,op 30 (.cap (.r 29)),b2 31 .gtr 28 30]<|.cond (.r 31) (so [mv 32 0,mv 33 1,op 34 (.fV 1 (.r 32) none (some (.r 33)) none),mv 35 8,mv 36 7,b2 37 .add 35 36,mv 38 1,b2 39 .sub 37 38,op 40 (.Au 1 8 [.int .u64 0] (.r 34) (.r 39)),mv 9 40]<|so [mv 41 9,mv 42 1,op 43 (.fV 1 (.r 41) (some (.r 42)) none none),mv 44 2,op 45 (.uf 1 (.r 43) (.r 44))]<|so [mv 46 9,mv 47 1,mv 48 7,b2 49 .add 47 48,op 50 (.fV 1 (.r 46) (some (.r 49)) none none),mv 51 0,mv 52 1,op 53 (.fV 1 (.r 51) (some (.r 52)) none none),op 54 (.uf 1 (.r 50) (.r 53))]<|so [mv 55 9,mv 6 55]<|.ret) (.skip))<|so [mv 56 0,mv 57 8,mv 58 7,b2 59 .add 57 58,op 60 (.fV 1 (.r 56) none (some (.r 59)) none),mv 0 60]<|sq (so [mv 61 2,mv 62 0,mv 63 1,mv 64 7,b2 65 .add 63 64,op 66 (.fV 1 (.r 62) (some (.r 65)) none none),op 67 (.z1 1 (.r 61) (.r 66)),op 68 (.un .not (.r 67))]<|.cond (.r 68) (so [mv 69 0,mv 70 1,mv 71 7,b2 72 .add 70 71,op 73 (.fV 1 (.r 69) (some (.r 72)) none none),mv 74 0,mv 75 1,op 76 (.fV 1 (.r 74) (some (.r 75)) none none),op 77 (.uf 1 (.r 73) (.r 76))]<|so [mv 78 0,mv 79 1,op 80 (.fV 1 (.r 78) (some (.r 79)) none none),mv 81 2,op 82 (.uf 1 (.r 80) (.r 81))]<|so [mv 83 0,mv 6 83]<|.ret) (.skip))<|so [mv 84 0,mv 85 8,op 86 (.fV 1 (.r 84) (some (.r 85)) none none),mv 87 2,op 88 (.uf 1 (.r 86) (.r 87))]<|so [mv 89 0,mv 90 1,op 91 (.fV 1 (.r 89) (some (.r 90)) none none),mv 92 7,cl 93 196 [.r 91,.r 92]]<|so [mv 94 0,mv 6 94]<|.ret⟩
def C9:An:=⟨[],[]⟩
def yf:Go.Rmp.Fn:=⟨8,1,[.t 2],so [op 2 (.ak (.c (.int .i64 0)))]<|sq (.cond (.c (.bool false)) (so [mv 3 0,op 4 (.eg .u32 (.r 3)),cl 5 205 [.r 4],mv 2 5]<|.ret) (.skip))<|so [mv 6 0,cl 7 172 [.r 6],mv 2 7]<|.ret⟩
def Da:An:=⟨[],[]⟩
def yg:Go.Rmp.Fn:=⟨6,1,[.t 2],so [op 2 (.ak (.c (.bool false)))]<|so [mv 3 0,mv 4 0,b2 5 .neq 3 4,mv 2 5]<|.ret⟩
def Db:An:=⟨[(3,3)],[]⟩
def yh:Go.Rmp.Fn:=⟨13,2,[.t 4],so [op 2 (.box (.r 0)),op 4 (.ak (.c (.sl .nil [])))]<|sq (so [mv 6 1]<|.block 0 (.bw 13 (.r 6) [7] (.ops [mv 5 7]) (.block 1 (.ops [l1 8 2,mv 9 5,op 10 (.kr 1 [.str ⟨#[]⟩] [(0,(.r 9))]),op 11 (.app 1 16 true (.r 8) (.r 10)),se 1 2 11]))))<|so [l1 12 2,mv 4 12]<|.ret⟩
def Dc:An:=⟨[],[(17,[(0,true),(1,true),(2,true),(3,true),(4,true),(5,true),(6,true),(7,true),(8,true),(9,true),(10,true),(11,true),(12,false),(13,true),(14,true)])]⟩
def yj:Go.Rmp.Fn:=⟨134,4,[],so [op 8 (.ak (.c (.bool true)))]<|so [op 9 (.ak (.c (.bool true)))]<|.block 0 (.loop (.block 1 (so [mv 19 2,mv 20 1,b2 21 .sub 19 20,mv 10 21]<|sq (so [mv 22 10,op 23 (.bin .leq (.r 22) (.c (.int .i64 12)))]<|.cond (.r 23) (so [mv 24 0,mv 25 1,mv 26 2,cl 27 206 [.r 24,.r 25,.r 26]]<|.ret) (.skip))<|sq (so [mv 28 3,op 29 (.bin .eql (.r 28) (.c (.int .i64 0)))]<|.cond (.r 29) (so [mv 30 0,mv 31 1,mv 32 2,cl 33 207 [.r 30,.r 31,.r 32]]<|.ret) (.skip))<|sq (so [mv 34 8,op 35 (.un .not (.r 34))]<|.cond (.r 35) (so [mv 36 0,mv 37 1,mv 38 2,cl 39 208 [.r 36,.r 37,.r 38]]<|.ops [mv 40 3,op 41 (.bin .sub (.r 40) (.c (.int .i64 1))),mv 3 41]) (.skip))<|so [mv 43 0,mv 44 1,mv 45 2,cl 46 209 [.r 43,.r 44,.r 45],mv 42 46,xt 47 0 42,xt 48 1 42,mv 11 47,mv 12 48]<|sq (so [mv 49 12,op 50 (.bin .eql (.r 49) (.c (.int .i64 2)))]<|.cond (.r 50) (so [mv 51 0,mv 52 1,mv 53 2,cl 54 210 [.r 51,.r 52,.r 53]]<|so [mv 55 2,op 56 (.bin .sub (.r 55) (.c (.int .i64 1))),mv 57 11,mv 58 1,b2 59 .sub 57 58,b2 60 .sub 56 59,mv 11 60]<|.ops [op 12 (.ak (.c (.int .i64 1)))]) (.skip))<|sq (so [mv 61 8,mv 62 61,mt 63 9 62,op 64 (.pick (.r 62) (.r 63) (.c (.bool false))),mv 65 64,mt 66 12 65,gt 67 65 (.bin .eql (.r 66) (.c (.int .i64 1))),op 68 (.pick (.r 65) (.r 67) (.c (.bool false)))]<|.cond (.r 68) (so [mv 69 0,mv 70 1,mv 71 2,cl 72 211 [.r 69,.r 70,.r 71]]<|.cond (.r 72) (.ret) (.skip)) (.skip))<|sq (so [mv 73 1,op 74 (.bin .gtr (.r 73) (.c (.int .i64 0))),mv 75 74,mt 76 0 75,mt 77 1 75,gt 78 75 (.bin .sub (.r 77) (.c (.int .i64 1))),gt 79 75 (.mJ 1 (.r 76) (.r 78)),gt 80 75 (.ld 1 false (.r 79)),mt 81 0 75,mt 82 11 75,gt 83 75 (.mJ 1 (.r 81) (.r 82)),gt 84 75 (.ld 1 false (.r 83)),⟨(some 85),.call 212 [.r 80,.r 84],(some (75,true)),[]⟩,gt 86 75 (.un .not (.r 85)),op 87 (.pick (.r 75) (.r 86) (.c (.bool false)))]<|.cond (.r 87) (so [mv 88 0,mv 89 1,mv 90 2,mv 91 11,cl 92 213 [.r 88,.r 89,.r 90,.r 91],mv 13 92]<|so [mv 93 13,mv 1 93]<|.exit 1) (.skip))<|so [mv 95 0,mv 96 1,mv 97 2,mv 98 11,cl 99 214 [.r 95,.r 96,.r 97,.r 98],mv 94 99,xt 100 0 94,xt 101 1 94,mv 14 100,mv 15 101]<|so [mv 102 15,mv 9 102]<|so [mv 103 14,mv 104 1,b2 105 .sub 103 104,mv 106 2,mv 107 14,b2 108 .sub 106 107,mv 16 105,mv 17 108]<|so [mv 109 10,op 110 (.bin .quo (.r 109) (.c (.int .i64 8))),mv 18 110]<|so [mv 111 16,mv 112 17,b2 113 .lss 111 112]<|.cond (.r 113) (so [mv 114 16,mv 115 18,b2 116 .geq 114 115,mv 8 116]<|so [mv 117 0,mv 118 1,mv 119 14,mv 120 3,cl 121 170 [.r 117,.r 118,.r 119,.r 120]]<|.ops [mv 122 14,op 123 (.bin .add (.r 122) (.c (.int .i64 1))),mv 1 123]) (so [mv 124 17,mv 125 18,b2 126 .geq 124 125,mv 8 126]<|so [mv 127 0,mv 128 14,op 129 (.bin .add (.r 128) (.c (.int .i64 1))),mv 130 2,mv 131 3,cl 132 170 [.r 127,.r 129,.r 130,.r 131]]<|.ops [mv 133 14,mv 2 133]))))⟩
def Dd:An:=⟨[],[]⟩
def yk:Go.Rmp.Fn:=⟨25,1,[.t 2],so [op 2 (.ak (.c (.int .i64 0)))]<|sq (so [mv 3 0,op 4 (.bin .geq (.r 3) (.c (.int .u64 4294967296)))]<|.cond (.r 4) (so [mv 5 0,op 6 (.bin .shr (.r 5) (.c (.int .u64 32))),mv 0 6]<|.ops [op 2 (.ak (.c (.int .i64 32)))]) (.skip))<|sq (so [mv 7 0,op 8 (.bin .geq (.r 7) (.c (.int .u64 65536)))]<|.cond (.r 8) (so [mv 9 0,op 10 (.bin .shr (.r 9) (.c (.int .u64 16))),mv 0 10]<|.ops [mv 11 2,op 12 (.bin .add (.r 11) (.c (.int .i64 16))),mv 2 12]) (.skip))<|sq (so [mv 13 0,op 14 (.bin .geq (.r 13) (.c (.int .u64 256)))]<|.cond (.r 14) (so [mv 15 0,op 16 (.bin .shr (.r 15) (.c (.int .u64 8))),mv 0 16]<|.ops [mv 17 2,op 18 (.bin .add (.r 17) (.c (.int .i64 8))),mv 2 18]) (.skip))<|so [mv 19 2,mv 20 0,op 21 (.eg .u8 (.r 20)),op 22 (.Ar (.c (.str ⟨#[0,1,2,2,3,3,3,3,4,4,4,4,4,4,4,4,5,5,5,5,5,5,5,5,5,5,5,5,5,5,5,5,6,6,6,6,6,6,6,6,6,6,6,6,6,6,6,6,6,6,6,6,6,6,6,6,6,6,6,6,6,6,6,6,7,7,7,7,7,7,7,7,7,7,7,7,7,7,7,7,7,7,7,7,7,7,7,7,7,7,7,7,7,7,7,7,7,7,7,7,7,7,7,7,7,7,7,7,7,7,7,7,7,7,7,7,7,7,7,7,7,7,7,7,7,7,7,7,8,8,8,8,8,8,8,8,8,8,8,8,8,8,8,8,8,8,8,8,8,8,8,8,8,8,8,8,8,8,8,8,8,8,8,8,8,8,8,8,8,8,8,8,8,8,8,8,8,8,8,8,8,8,8,8,8,8,8,8,8,8,8,8,8,8,8,8,8,8,8,8,8,8,8,8,8,8,8,8,8,8,8,8,8,8,8,8,8,8,8,8,8,8,8,8,8,8,8,8,8,8,8,8,8,8,8,8,8,8,8,8,8,8,8,8,8,8,8,8,8,8,8,8,8,8,8,8]⟩)) (.r 21)),op 23 (.eg .i64 (.r 22)),b2 24 .add 19 23,mv 2 24]<|.ret⟩
def De:An:=⟨[],[]⟩
def yl:Go.Rmp.Fn:=⟨49,2,[.t 4,.t 5],so [op 4 (.ak (.c (.int .u64 0))),op 5 (.ak (.c (.bool false)))]<|sq (so [mv 9 0,nc 10 9,fa 11 1 10,l1 12 11,op 13 (.bin .eql (.r 12) (.c (.int .i64 0))),mv 14 13,mt 15 0 14,gt 16 14 (.hP (.r 15)),gt 17 14 (.jy 0 (.r 16)),gt 18 14 (.ld 1 false (.r 17)),gt 19 14 (.len .sl (.r 18)),mt 20 1 14,gt 21 14 (.bin .lss (.r 19) (.r 20)),op 22 (.pick (.r 14) (.r 21) (.c (.bool false)))]<|.cond (.r 22) (.ops [mv 23 0,nc 24 23,fa 25 1 24,ef (.st 1 (.r 25) (.c (.int .i64 4)))]) (.skip))<|sq (so [mv 26 0,nc 27 26,fa 28 1 27,l1 29 28,op 30 (.bin .neq (.r 29) (.c (.int .i64 0)))]<|.cond (.r 30) (so [op 4 (.ak (.c (.int .u64 0))),op 5 (.ak (.c (.bool false)))]<|.ret) (.skip))<|so [op 6 (.ak (.c (.int .u64 0)))]<|sq (so [mv 31 0,nc 32 31,fa 33 0 32,l1 34 33,mv 35 1,op 36 (.fV 1 (.r 34) none (some (.r 35)) none),cP 37 36,op 38 (.ak (.c (.int .i64 0)))]<|.block 0 (.loop (so [b2 39 .lss 38 37]<|sq (cx 39 0)<|sq (.block 1 (so [ia 40 1 36 38,l1 41 40,mv 8 41]<|.ops [mv 42 6,op 43 (.bin .shl (.r 42) (.c (.int .u64 8))),mv 44 8,op 45 (.eg .u64 (.r 44)),b2 46 .or 43 45,mv 6 46]))<|.ops [op 47 (.bin .add (.r 38) (.c (.int .i64 1))),mv 38 47])))<|so [mv 48 6,mv 4 48,op 5 (.ak (.c (.bool true)))]<|.ret⟩
def Df:An:=⟨[],[(8,[(0,true),(1,true),(2,true),(3,true),(4,false),(5,true),(6,true),(7,false),(8,true),(9,false)]),(10,[(0,true),(1,true),(2,false),(3,true),(4,true),(5,true),(6,false),(7,true),(8,false),(9,true)])]⟩
def ym:Go.Rmp.Fn:=⟨52,1,[.cl 2 4 true,.t 3],so [op 2 (.alloc [.int .i64 0,.int .u64 0,.sl .nil [],.sl .nil []]),op 3 (.ak (.c (.bool false)))]<|so [mv 8 0,cl 9 98 [.r 8],mv 4 9]<|so [mv 10 4,cl 11 100 [.r 10],op 12 (.eg .i64 (.r 11)),mv 13 4,cl 14 101 [.r 13],op 15 (.build [.int .i64 0,.int .u64 0,.sl .nil [],.sl .nil []] [(0,1,(.r 12)),(1,1,(.r 14))]),op 5 (.alloc [.int .i64 0,.int .u64 0,.sl .nil [],.sl .nil []]),se 4 5 15]<|sq (so [fa 16 0 5,l1 17 16,op 18 (.bin .eql (.r 17) (.c (.int .i64 1)))]<|.cond (.r 18) (sq (so [mv 19 4,cl 20 103 [.r 19,(.c (.int .i64 1024))],mv 6 20]<|.block 0 (.loop (sq (so [mv 21 6,op 22 (.bin .gtr (.r 21) (.c (.int .i64 0))),mv 23 22,mt 24 4 23,⟨(some 25),.call 104 [.r 24],(some (23,true)),[]⟩,gt 26 23 (.bin .eql (.r 25) (.c (.int .i64 0))),op 27 (.pick (.r 23) (.r 26) (.c (.bool false)))]<|cx 27 0)<|sq (.block 1 (so [mv 30 4,cl 31 105 [.r 30,(.c (.int .i64 65535))],mv 7 31]<|.ops [fa 32 2 5,l1 33 32,mv 34 7,mv 35 4,⟨(some 36),.call 105 [.r 35,(.c (.int .i64 65535))],none,[⟨33,.ld 1 false (.r 32),none⟩]⟩,op 37 (.build [.str ⟨#[]⟩,.str ⟨#[]⟩] [(0,1,(.r 34)),(1,1,(.r 36))]),op 38 (.kr 1 [.str ⟨#[]⟩,.str ⟨#[]⟩] [(0,(.r 37))]),op 39 (.app 2 32 false (.r 33) (.r 38)),fa 40 2 5,se 1 40 39]))<|.ops [mv 28 6,op 29 (.bin .sub (.r 28) (.c (.int .i64 1))),mv 6 29])))<|.ops [mv 41 4,cl 42 106 [.r 41,(.c (.int .i64 1024)),(.c (.int .i64 65535))],fa 43 3 5,se 1 43 42]) (.skip))<|so [ln 44 4 5,mv 45 4,⟨(some 46),.call 107 [.r 45],none,[⟨44,.ld 4 true (.r 5),none⟩]⟩,op 47 (.bin .eql (.r 46) (.c (.int .i64 0))),mv 48 47,gt 49 48 (.ld 4 true (.r 5)),⟨(some 50),.call 111 [.r 49],(some (48,true)),[⟨44,.ld 4 true (.r 5),none⟩]⟩,op 51 (.pick (.r 48) (.r 50) (.c (.bool false))),se 4 2 44,mv 3 51]<|.ret⟩
def Dg:An:=⟨[],[]⟩
def yn:Go.Rmp.Fn:=⟨27,1,[.t 2],so [op 2 (.ak (.c (.bool false)))]<|sq (so [mv 5 0,cP 6 5,op 7 (.bin .lss (.r 6) (.c (.int .i64 1))),mv 8 7,mf 9 0 8,gf 10 8 (.len .sl (.r 9)),gf 11 8 (.bin .gtr (.r 10) (.c (.int .i64 1024))),op 12 (.pick (.r 8) (.c (.bool true)) (.r 11))]<|.cond (.r 12) (so [op 2 (.ak (.c (.bool false)))]<|.ret) (.skip))<|sq (so [mv 13 0,cP 14 13,op 15 (.ak (.c (.int .i64 0)))]<|.block 0 (.loop (so [b2 16 .lss 15 14]<|sq (cx 16 0)<|sq (.block 1 (so [ia 17 1 13 15,l1 18 17,mv 4 18]<|so [mv 19 4,op 20 (.len .str (.r 19)),op 21 (.bin .gtr (.r 20) (.c (.int .i64 65535)))]<|.cond (.r 21) (so [op 2 (.ak (.c (.bool false)))]<|.ret) (.skip)))<|.ops [op 22 (.bin .add (.r 15) (.c (.int .i64 1))),mv 15 22])))<|so [mv 23 0,cl 24 226 [.r 23],cl 25 74 [.r 24],cl 26 157 [.r 25],mv 2 26]<|.ret⟩
def Dh:An:=⟨[],[]⟩
def yo:Go.Rmp.Fn:=⟨14,2,[.t 4],so [op 4 (.ak (.c (.bool false)))]<|so [mv 8 0,mv 9 1,cl 10 192 [.r 8,.r 9],mv 7 10,xt 11 0 7,xt 12 1 7,mv 5 11,mv 6 12]<|so [mv 13 6,mv 4 13]<|.ret⟩
def Di:An:=⟨[],[]⟩
def yp:Go.Rmp.Fn:=⟨19,0,[.cl 0 16 true],so [op 0 (.alloc [.int .u32 0,.int .u32 0,.int .u32 0,.int .u32 0,.int .u32 0,.int .u32 0,.int .u32 0,.int .u32 0,.int .u32 0,.int .u32 0,.int .u32 0,.int .u32 0,.int .u32 0,.int .u32 0,.int .u32 0,.int .u32 0])]<|so [op 1 (.alloc [.int .u32 0,.int .u32 0,.int .u32 0,.int .u32 0,.int .u32 0,.int .u32 0,.int .u32 0,.int .u32 0,.int .u32 0,.int .u32 0,.int .u32 0,.int .u32 0,.int .u32 0,.int .u32 0,.int .u32 0,.int .u32 0])]<|sq (so [op 4 (.ak (.c (.int .i64 0)))]<|.block 0 (.loop (so [op 5 (.bin .lss (.r 4) (.c (.int .i64 16)))]<|sq (cx 5 0)<|sq (.block 1 (so [mv 6 4,mv 2 6]<|so [mv 7 2,op 8 (.eg .u32 (.r 7)),mv 3 8]<|sq (so [op 9 (.ak (.c (.int .i64 0)))]<|.block 2 (.loop (so [op 10 (.bin .lss (.r 9) (.c (.int .i64 4)))]<|sq (cx 10 2)<|sq (.block 3 (.ops [mv 11 3,cl 12 227 [.r 11],mv 3 12]))<|.ops [op 13 (.bin .add (.r 9) (.c (.int .i64 1))),mv 9 13])))<|.ops [mv 14 2,mv 15 3,op 16 (.wE 16 1 (.r 1) (.r 14)),se 1 16 15]))<|.ops [op 17 (.bin .add (.r 4) (.c (.int .i64 1))),mv 4 17])))<|so [ln 18 16 1,se 16 0 18]<|.ret⟩
def Dj:An:=⟨[],[]⟩
def yq:Go.Rmp.Fn:=⟨54,2,[.t 4,.t 5],so [op 4 (.ak (.c (.int .i64 0))),op 5 (.ak (.c (.bool false)))]<|so [mv 10 0,cP 11 10,mv 6 11]<|so [mv 12 6,op 7 (.ak (.c (.int .i64 0))),mv 8 12]<|sq (.block 0 (.loop (sq (so [mv 13 7,mv 14 8,b2 15 .lss 13 14]<|cx 15 0)<|.block 1 (so [mv 16 7,mv 17 8,b2 18 .add 16 17,op 19 (.eg .u64 (.r 18)),op 20 (.bin .shr (.r 19) (.c (.int .u64 1))),op 21 (.eg .i64 (.r 20)),mv 9 21]<|so [mv 22 0,mv 23 9,ia 24 1 22 23,l1 25 24,mv 26 1,cl 27 212 [.r 25,.r 26]]<|.cond (.r 27) (.ops [mv 28 9,op 29 (.bin .add (.r 28) (.c (.int .i64 1))),mv 7 29]) (.ops [mv 30 9,mv 8 30])))))<|so [mv 31 7,mv 32 7,mv 33 6,b2 34 .lss 32 33,mv 35 34,mt 36 0 35,mt 37 7 35,gt 38 35 (.mJ 1 (.r 36) (.r 37)),gt 39 35 (.ld 1 false (.r 38)),mt 40 1 35,gt 41 35 (.bin .eql (.r 39) (.r 40)),mt 42 41 35,mf 43 0 42,mf 44 7 42,gf 45 42 (.mJ 1 (.r 43) (.r 44)),gf 46 42 (.ld 1 false (.r 45)),⟨(some 47),.call 228 [.r 46],(some (42,false)),[]⟩,mf 48 47 42,mt 49 1 48,⟨(some 50),.call 228 [.r 49],(some (48,true)),[]⟩,gf 51 42 (.pick (.r 48) (.r 50) (.c (.bool false))),gt 52 35 (.pick (.r 42) (.c (.bool true)) (.r 51)),op 53 (.pick (.r 35) (.r 52) (.c (.bool false))),mv 4 31,mv 5 53]<|.ret⟩
def Dk:An:=⟨[],[(4,[(0,true),(1,true),(2,true),(3,true),(4,true),(5,true),(6,true),(7,true),(8,true),(9,true),(10,true),(11,true),(12,true),(13,false),(14,true)]),(6,[(0,true),(1,true),(2,true),(3,true),(4,true),(5,true),(6,true),(7,true),(8,true),(9,true),(10,true),(11,true),(12,true),(13,true),(14,true),(15,false),(16,true),(17,false)])]⟩
def yr:Go.Rmp.Fn:=⟨49,3,[],so [mv 8 1,op 9 (.bin .add (.r 8) (.c (.int .i64 1))),mv 6 9]<|.block 0 (.loop (sq (so [mv 10 6,mv 11 2,b2 12 .lss 10 11]<|cx 12 0)<|sq (.block 1 (so [mv 15 6,mv 7 15]<|.block 2 (.loop (sq (so [mv 16 7,mv 17 1,b2 18 .gtr 16 17,mv 19 18,mt 20 0 19,mt 21 7 19,gt 22 19 (.mJ 1 (.r 20) (.r 21)),gt 23 19 (.ld 1 false (.r 22)),mt 24 0 19,mt 25 7 19,gt 26 19 (.bin .sub (.r 25) (.c (.int .i64 1))),gt 27 19 (.mJ 1 (.r 24) (.r 26)),gt 28 19 (.ld 1 false (.r 27)),⟨(some 29),.call 212 [.r 23,.r 28],(some (19,true)),[]⟩,op 30 (.pick (.r 19) (.r 29) (.c (.bool false)))]<|cx 30 2)<|sq (.block 3 (.ops [mv 33 0,mv 34 7,mv 35 0,mv 36 7,op 37 (.bin .sub (.r 36) (.c (.int .i64 1))),mv 38 0,mv 39 7,op 40 (.bin .sub (.r 39) (.c (.int .i64 1))),ia 41 1 38 40,l1 42 41,mv 43 0,mv 44 7,ia 45 1 43 44,l1 46 45,ia 47 1 33 34,se 1 47 42,ia 48 1 35 37,se 1 48 46]))<|.ops [mv 31 7,op 32 (.bin .sub (.r 31) (.c (.int .i64 1))),mv 7 32]))))<|.ops [mv 13 6,op 14 (.bin .add (.r 13) (.c (.int .i64 1))),mv 6 14]))⟩
def Dl:An:=⟨[],[]⟩
def yu:Go.Rmp.Fn:=⟨17,2,[.t 4],so [op 4 (.ak (.c (.bool false)))]<|so [mv 5 0,cl 6 167 [.r 5],mv 7 6,mt 8 1 7,⟨(some 9),.call 167 [.r 8],(some (7,true)),[]⟩,gt 10 7 (.un .not (.r 9)),op 11 (.pick (.r 7) (.r 10) (.c (.bool false))),mv 12 11,mf 13 0 12,mf 14 1 12,gf 15 12 (.bin .lss (.r 13) (.r 14)),op 16 (.pick (.r 12) (.c (.bool true)) (.r 15)),mv 4 16]<|.ret⟩
def Dm:An:=⟨[],[]⟩
def yv:Go.Rmp.Fn:=⟨4,1,[.t 2],so [op 1 (.box (.r 0)),op 2 (.ak (.c .dv))]<|so [op 3 (.yC 242 [.r 1]),mv 2 3]<|.ret⟩
def Dn:An:=⟨[],[]⟩
def yw:Go.Rmp.Fn:=⟨11,1,[.t 2],so [op 2 (.ak (.c (.int .u32 0)))]<|sq (so [mv 3 0,op 4 (.bin .and (.r 3) (.c (.int .u32 1))),op 5 (.bin .eql (.r 4) (.c (.int .u32 1)))]<|.cond (.r 5) (so [mv 6 0,op 7 (.bin .shr (.r 6) (.c (.int .u64 1))),op 8 (.bin .xor (.r 7) (.c (.int .u32 3988292384))),mv 2 8]<|.ret) (.skip))<|so [mv 9 0,op 10 (.bin .shr (.r 9) (.c (.int .u64 1))),mv 2 10]<|.ret⟩
def Dp:An:=⟨[],[]⟩
def yx:Go.Rmp.Fn:=⟨16,2,[],so [l1 5 1,cP 6 5,op 7 (.ak (.c (.int .i64 0)))]<|.block 0 (.loop (so [b2 8 .lss 7 6]<|sq (cx 8 0)<|sq (.block 1 (so [ia 9 1 5 7,l1 10 9,mv 4 10]<|so [mv 11 0,mv 12 4,⟨(some 13),.bl (.r 11) [.r 12],none,[]⟩,op 14 (.un .not (.r 13))]<|.cond (.r 14) (.ret) (.skip)))<|.ops [op 15 (.bin .add (.r 7) (.c (.int .i64 1))),mv 7 15]))⟩
theorem c3:af Tryz.prog IY 3=some Fa:=by kernel_rfl
theorem c9:af Tryz.prog IZ 9=some Hw:=by kernel_rfl
theorem I0:af Tryz.prog Fb 10=some zU:=by kernel_rfl
theorem I1:af Tryz.prog Fc 11=some wy:=by kernel_rfl
theorem I2:af Tryz.prog Fe 12=some B0:=by kernel_rfl
theorem I3:af Tryz.prog Ff 24=some B1:=by kernel_rfl
theorem I4:af Tryz.prog Fg 25=some B2:=by kernel_rfl
theorem I5:af Tryz.prog Fh 28=some B3:=by kernel_rfl
theorem I6:af Tryz.prog Fi 30=some B4:=by kernel_rfl
theorem I7:af Tryz.prog Fj 35=some B5:=by kernel_rfl
theorem I8:af Tryz.prog Fk 36=some B6:=by kernel_rfl
theorem I9:af Tryz.prog Fl 39=some B7:=by kernel_rfl
theorem Ja:af Tryz.prog Fm 41=some B8:=by kernel_rfl
theorem Jb:af Tryz.prog Fo 42=some B9:=by kernel_rfl
theorem Jc:af Tryz.prog Fp 43=some wz:=by kernel_rfl
theorem Jd:af Tryz.prog Fq 44=some Ca:=by kernel_rfl
theorem Je:af Tryz.prog Fs 57=some Cb:=by kernel_rfl
theorem Jf:af Tryz.prog Ft 60=some Cc:=by kernel_rfl
theorem Jg:af Tryz.prog Fu 61=some Cd:=by kernel_rfl
theorem Jh:af Tryz.prog Fv 62=some Ce:=by kernel_rfl
theorem Ji:af Tryz.prog Fx 63=some Cf:=by kernel_rfl
theorem Jj:af Tryz.prog Fy 64=some Cg:=by kernel_rfl
theorem Jk:af Tryz.prog Fz 65=some Ch:=by kernel_rfl
theorem Jl:af Tryz.prog FA 70=some Ci:=by kernel_rfl
theorem Jm:af Tryz.prog FB 71=some Cj:=by kernel_rfl
theorem Jn:af Tryz.prog FC 72=some Ck:=by kernel_rfl
theorem Jo:af Tryz.prog FD 73=some Cl:=by kernel_rfl
theorem Jp:af Tryz.prog FE 74=some Cm:=by kernel_rfl
theorem Jq:af Tryz.prog FF 75=some Cn:=by kernel_rfl
theorem Jr:af Tryz.prog FG 76=some Co:=by kernel_rfl
theorem Js:af Tryz.prog FH 77=some Cp:=by kernel_rfl
theorem Jt:af Tryz.prog FI 90=some Cq:=by kernel_rfl
theorem Ju:af Tryz.prog FJ 91=some Cr:=by kernel_rfl
theorem Jv:af Tryz.prog FK 92=some Cs:=by kernel_rfl
theorem Jw:af Tryz.prog FL 93=some Ct:=by kernel_rfl
theorem Jx:af Tryz.prog FM 94=some Cu:=by kernel_rfl
theorem Jy:af Tryz.prog FN 95=some Cv:=by kernel_rfl
theorem Jz:af Tryz.prog FO 96=some Cw:=by kernel_rfl
theorem JA:af Tryz.prog FP 98=some Cx:=by kernel_rfl
theorem JB:af Tryz.prog FQ 99=some Cy:=by kernel_rfl
theorem FR:af Tryz.prog Cz 100=some xw:=by kernel_rfl
theorem FT:af Tryz.prog CA 101=some xy:=by kernel_rfl
theorem FU:af Tryz.prog CB 103=some xz:=by kernel_rfl
theorem FV:af Tryz.prog CC 104=some xA:=by kernel_rfl
theorem FW:af Tryz.prog CD 105=some xB:=by kernel_rfl
theorem FX:af Tryz.prog CE 106=some xC:=by kernel_rfl
theorem FY:af Tryz.prog CF 107=some xD:=by kernel_rfl
theorem FZ:af Tryz.prog CG 109=some xE:=by kernel_rfl
theorem F0:af Tryz.prog CH 111=some xF:=by kernel_rfl
theorem F1:af Tryz.prog CI 112=some xG:=by kernel_rfl
theorem F2:af Tryz.prog CJ 113=some xH:=by kernel_rfl
theorem F3:af Tryz.prog CK 114=some xI:=by kernel_rfl
theorem F4:af Tryz.prog CL 115=some xJ:=by kernel_rfl
theorem F5:af Tryz.prog CM 116=some xK:=by kernel_rfl
theorem F6:af Tryz.prog CN 117=some xL:=by kernel_rfl
theorem F7:af Tryz.prog CO 118=some xM:=by kernel_rfl
theorem F8:af Tryz.prog CP 119=some xN:=by kernel_rfl
theorem F9:af Tryz.prog CQ 127=some xO:=by kernel_rfl
theorem Ga:af Tryz.prog CR 128=some xP:=by kernel_rfl
theorem Gb:af Tryz.prog CS 129=some xQ:=by kernel_rfl
theorem Gc:af Tryz.prog CT 130=some xR:=by kernel_rfl
theorem Ge:af Tryz.prog CU 148=some xS:=by kernel_rfl
theorem Gf:af Tryz.prog CV 149=some xU:=by kernel_rfl
theorem Gg:af Tryz.prog CW 150=some xV:=by kernel_rfl
theorem Gh:af Tryz.prog CX 151=some xW:=by kernel_rfl
theorem Gi:af Tryz.prog CY 153=some xX:=by kernel_rfl
theorem Gj:af Tryz.prog CZ 154=some xY:=by kernel_rfl
theorem Gk:af Tryz.prog C0 155=some xZ:=by kernel_rfl
theorem Gl:af Tryz.prog C1 156=some x0:=by kernel_rfl
theorem Gm:af Tryz.prog C2 157=some x7:=by kernel_rfl
theorem Gn:af Tryz.prog C3 158=some x8:=by kernel_rfl
theorem Gp:af Tryz.prog C4 159=some x9:=by kernel_rfl
theorem Gq:af Tryz.prog C5 160=some ya:=by kernel_rfl
theorem Gr:af Tryz.prog C6 161=some yc:=by kernel_rfl
theorem Gs:af Tryz.prog C7 162=some yd:=by kernel_rfl
theorem Gt:af Tryz.prog C8 163=some ye:=by kernel_rfl
theorem Gu:af Tryz.prog C9 166=some yf:=by kernel_rfl
theorem Gv:af Tryz.prog Da 167=some yg:=by kernel_rfl
theorem Gw:af Tryz.prog Db 169=some yh:=by kernel_rfl
theorem Gx:af Tryz.prog Dc 170=some yj:=by kernel_rfl
theorem Gy:af Tryz.prog Dd 172=some yk:=by kernel_rfl
theorem Gz:af Tryz.prog De 187=some yl:=by kernel_rfl
theorem GA:af Tryz.prog Df 188=some ym:=by kernel_rfl
theorem GB:af Tryz.prog Dg 189=some yn:=by kernel_rfl
theorem GC:af Tryz.prog Dh 190=some yo:=by kernel_rfl
theorem GD:af Tryz.prog Di 191=some yp:=by kernel_rfl
theorem GF:af Tryz.prog Dj 192=some yq:=by kernel_rfl
theorem GG:af Tryz.prog Dk 206=some yr:=by kernel_rfl
theorem GH:af Tryz.prog Dl 212=some yu:=by kernel_rfl
theorem GI:af Tryz.prog Dm 226=some yv:=by kernel_rfl
theorem GJ:af Tryz.prog Dn 227=some yw:=by kernel_rfl
theorem GK:af Tryz.prog Dp 242=some yx:=by kernel_rfl
def yz:Nat→Option Go.Rmp.Fn
 | 3=>some Fa
 | 9=>some Hw
 | 10=>some zU
 | 11=>some wy
 | 12=>some B0
 | 24=>some B1
 | 25=>some B2
 | 28=>some B3
 | 30=>some B4
 | 35=>some B5
 | 36=>some B6
 | 39=>some B7
 | 41=>some B8
 | 42=>some B9
 | 43=>some wz
 | 44=>some Ca
 | 57=>some Cb
 | 60=>some Cc
 | 61=>some Cd
 | 62=>some Ce
 | 63=>some Cf
 | 64=>some Cg
 | 65=>some Ch
 | 70=>some Ci
 | 71=>some Cj
 | 72=>some Ck
 | 73=>some Cl
 | 74=>some Cm
 | 75=>some Cn
 | 76=>some Co
 | 77=>some Cp
 | 90=>some Cq
 | 91=>some Cr
 | 92=>some Cs
 | 93=>some Ct
 | 94=>some Cu
 | 95=>some Cv
 | 96=>some Cw
 | 98=>some Cx
 | 99=>some Cy
 | 100=>some xw
 | 101=>some xy
 | 103=>some xz
 | 104=>some xA
 | 105=>some xB
 | 106=>some xC
 | 107=>some xD
 | 109=>some xE
 | 111=>some xF
 | 112=>some xG
 | 113=>some xH
 | 114=>some xI
 | 115=>some xJ
 | 116=>some xK
 | 117=>some xL
 | 118=>some xM
 | 119=>some xN
 | 127=>some xO
 | 128=>some xP
 | 129=>some xQ
 | 130=>some xR
 | 148=>some xS
 | 149=>some xU
 | 150=>some xV
 | 151=>some xW
 | 153=>some xX
 | 154=>some xY
 | 155=>some xZ
 | 156=>some x0
 | 157=>some x7
 | 158=>some x8
 | 159=>some x9
 | 160=>some ya
 | 161=>some yc
 | 162=>some yd
 | 163=>some ye
 | 166=>some yf
 | 167=>some yg
 | 169=>some yh
 | 170=>some yj
 | 172=>some yk
 | 187=>some yl
 | 188=>some ym
 | 189=>some yn
 | 190=>some yo
 | 191=>some yp
 | 192=>some yq
 | 206=>some yr
 | 212=>some yu
 | 226=>some yv
 | 227=>some yw
 | 242=>some yx
 | _=>none
def env:Env:=⟨yz,nU 42,fun _ _ _ _ _ h hq=>pY h hq⟩
theorem Dq {w0:World}(zT:o5 Tryz.prog w0):oh Tryz.prog env w0 where
 mixed:=by kernel_rfl
 fn:=by
  intro f fn h
  simp only[env,yz]at h
  split at h
  ·cases h;exact⟨_,c3⟩
  ·cases h;exact⟨_,c9⟩
  ·cases h;exact⟨_,I0⟩
  ·cases h;exact⟨_,I1⟩
  ·cases h;exact⟨_,I2⟩
  ·cases h;exact⟨_,I3⟩
  ·cases h;exact⟨_,I4⟩
  ·cases h;exact⟨_,I5⟩
  ·cases h;exact⟨_,I6⟩
  ·cases h;exact⟨_,I7⟩
  ·cases h;exact⟨_,I8⟩
  ·cases h;exact⟨_,I9⟩
  ·cases h;exact⟨_,Ja⟩
  ·cases h;exact⟨_,Jb⟩
  ·cases h;exact⟨_,Jc⟩
  ·cases h;exact⟨_,Jd⟩
  ·cases h;exact⟨_,Je⟩
  ·cases h;exact⟨_,Jf⟩
  ·cases h;exact⟨_,Jg⟩
  ·cases h;exact⟨_,Jh⟩
  ·cases h;exact⟨_,Ji⟩
  ·cases h;exact⟨_,Jj⟩
  ·cases h;exact⟨_,Jk⟩
  ·cases h;exact⟨_,Jl⟩
  ·cases h;exact⟨_,Jm⟩
  ·cases h;exact⟨_,Jn⟩
  ·cases h;exact⟨_,Jo⟩
  ·cases h;exact⟨_,Jp⟩
  ·cases h;exact⟨_,Jq⟩
  ·cases h;exact⟨_,Jr⟩
  ·cases h;exact⟨_,Js⟩
  ·cases h;exact⟨_,Jt⟩
  ·cases h;exact⟨_,Ju⟩
  ·cases h;exact⟨_,Jv⟩
  ·cases h;exact⟨_,Jw⟩
  ·cases h;exact⟨_,Jx⟩
  ·cases h;exact⟨_,Jy⟩
  ·cases h;exact⟨_,Jz⟩
  ·cases h;exact⟨_,JA⟩
  ·cases h;exact⟨_,JB⟩
  ·cases h;exact⟨_,FR⟩
  ·cases h;exact⟨_,FT⟩
  ·cases h;exact⟨_,FU⟩
  ·cases h;exact⟨_,FV⟩
  ·cases h;exact⟨_,FW⟩
  ·cases h;exact⟨_,FX⟩
  ·cases h;exact⟨_,FY⟩
  ·cases h;exact⟨_,FZ⟩
  ·cases h;exact⟨_,F0⟩
  ·cases h;exact⟨_,F1⟩
  ·cases h;exact⟨_,F2⟩
  ·cases h;exact⟨_,F3⟩
  ·cases h;exact⟨_,F4⟩
  ·cases h;exact⟨_,F5⟩
  ·cases h;exact⟨_,F6⟩
  ·cases h;exact⟨_,F7⟩
  ·cases h;exact⟨_,F8⟩
  ·cases h;exact⟨_,F9⟩
  ·cases h;exact⟨_,Ga⟩
  ·cases h;exact⟨_,Gb⟩
  ·cases h;exact⟨_,Gc⟩
  ·cases h;exact⟨_,Ge⟩
  ·cases h;exact⟨_,Gf⟩
  ·cases h;exact⟨_,Gg⟩
  ·cases h;exact⟨_,Gh⟩
  ·cases h;exact⟨_,Gi⟩
  ·cases h;exact⟨_,Gj⟩
  ·cases h;exact⟨_,Gk⟩
  ·cases h;exact⟨_,Gl⟩
  ·cases h;exact⟨_,Gm⟩
  ·cases h;exact⟨_,Gn⟩
  ·cases h;exact⟨_,Gp⟩
  ·cases h;exact⟨_,Gq⟩
  ·cases h;exact⟨_,Gr⟩
  ·cases h;exact⟨_,Gs⟩
  ·cases h;exact⟨_,Gt⟩
  ·cases h;exact⟨_,Gu⟩
  ·cases h;exact⟨_,Gv⟩
  ·cases h;exact⟨_,Gw⟩
  ·cases h;exact⟨_,Gx⟩
  ·cases h;exact⟨_,Gy⟩
  ·cases h;exact⟨_,Gz⟩
  ·cases h;exact⟨_,GA⟩
  ·cases h;exact⟨_,GB⟩
  ·cases h;exact⟨_,GC⟩
  ·cases h;exact⟨_,GD⟩
  ·cases h;exact⟨_,GF⟩
  ·cases h;exact⟨_,GG⟩
  ·cases h;exact⟨_,GH⟩
  ·cases h;exact⟨_,GI⟩
  ·cases h;exact⟨_,GJ⟩
  ·cases h;exact⟨_,GK⟩
  ·cases h
 fY:=fun f az H Q h g w args sr hv=>wv (by kernel_rfl) zT (fun n h0 h1 w hw=>Any.strconv_FormatInt_10 Tryz.wx n h0 h1 w hw) h g w args sr hv
end Go.Proofs.YtimbcmkkegikgaaGreatDoor.Ir
end

section
namespace Go.Proofs.YtimbcmkkegikgaaGreatDoor.St
open Go.Rmp Go.Proofs.YtimbcmkkegikgaaGreatDoor.Ir
set_option maxRecDepth 100000
theorem zV:W env (.call 9 []) [] (fun o _=>o=.val (.bool true)):=.closed (fun _=>0) 100000 [] [] (by kernel_rfl)
theorem wA:∀(k n:Nat),n<10^(k+1)→(Lib.decDigits n).length≤k+1:=by
 intro k
 induction k with
 | zero=>intro n h;rw[Lib.decDigits_one (by simpa using h)];simp
 | succ k ih =>
  intro n h
  rw[Lib.decDigits]
  split
  ·simp
  ·have:=ih (n/10) (by rw[Nat.pow_succ]at h;omega)
   simp;omega
theorem Ds {n:Nat}(h:n<18446744073709551616):(Lib.decDigits n).length≤20:=wA 19 n (by omega)
def dT (n:Nat):ByteArray:=⟨(Lib.decDigits n).toArray⟩
theorem fU {n:Nat}(h:n<18446744073709551616):(dT n).size≤20:=Ds h
theorem tO (a b:List UInt8):(⟨a.toArray⟩:ByteArray)++⟨b.toArray⟩=⟨(a++b).toArray⟩:=by
 apply ByteArray.ext
 rw[ByteArray.data_append]
 simp
theorem zW {n:Nat}(h:n<10):dT n=⟨#[UInt8.ofNat (48+n)]⟩:=by unfold dT;rw[Lib.decDigits_one h]
theorem wB {n:Nat}(h:¬n<10):dT n=dT (n/10)++⟨#[UInt8.ofNat (48+n%10)]⟩:=by
 unfold dT
 rw[Lib.decDigits,dif_neg h]
 exact(tO _ [_]).symm
theorem mH:∀(n:Nat),n<18446744073709551616→∀H,W env (.call 43 [.int .u64 n]) H (Ap (.str (dT n)) H):=by
 intro n
 induction n using Nat.strongRecOn with
 | _ n ih =>
  intro hn H
  refine W.D0 rfl rfl rfl ?_
  have Ew:n%10<10:=Nat.mod_lt _ (by decide)
  have w1:(n:Int).tmod 10=((n%10:Nat):Int):=by rw[Int.tmod_eq_emod_of_nonneg (by omega)];omega
  have w2:IntKind.u64.wrap (48+((n%10:Nat):Int))=((48+n%10:Nat):Int):=by rw[IntWalk.u64_in _ (by omega)];omega
  have w3:IntKind.u8.wrap ((48+n%10:Nat):Int)=((48+n%10:Nat):Int):=IntWalk.u8_in _ (by omega)
  have w4:(n:Int).tdiv 10=((n/10:Nat):Int):=by rw[Int.tdiv_eq_ediv_of_nonneg (by omega)];omega
  have w5:IntKind.u64.wrap ((n/10:Nat):Int)=((n/10:Nat):Int):=IntWalk.u64_in _ (by omega)
  by_cases aD:n<10
  ·have hm:n%10=n:=Nat.mod_eq_of_lt aD
   rw[hm]at w1 w2 w3
   simp -implicitDefEqProofs only[wz,op,ef,cl,sq,reduceIte,q6,q7,q8,q9,j3,j4,j5,j6,j7,S1,w1,w2,w3,aD,hm,bytesOf]
   rw[zW aD]
   rfl
  ·simp -implicitDefEqProofs only[wz,op,ef,cl,sq,reduceIte,q6,q7,q8,q9,j3,j4,j5,j6,j7,S1,w1,w2,w3,w4,w5,aD,bytesOf]
   refine dk _ _ _ _ _ _ _ _ (ih (n/10) (by omega) (by omega) H) ?_
   rintro u H1⟨hu,rfl⟩
   cases hu
   have hs:=fU (n:=n/10) (by omega)
   simp -implicitDefEqProofs only[op,ef,cl,sq,reduceIte,q6,q7,q8,q9,j3,j4,j5,j6,j7,S1,w1,w2,w3,w4,w5,aD,bytesOf]
   have b6:((dT (n/10)).size+1≤9223372036854775807):=by omega
   have h1:(⟨#[UInt8.ofNat (48+n%10)]⟩:ByteArray).size=1:=rfl
   simp -implicitDefEqProofs only[Int.toNat_natCast,List.toArray,h1,b6,op,ef,cl,sq,reduceIte,q6,q7,q8,q9,j3,j4,j5,j6,j7,S1]
   rw[wB aD]
theorem zX (k:IntKind)(n:Int):yD .neg (.int k n)=some (.int k (k.wrap (0-n))):=rfl
def iT (n:Int):ByteArray:=⟨(Lib.itoa n).toArray⟩
def wC:ByteArray:=⟨#[108,111,103,46]⟩
theorem kp {n:Int}(h:¬n<0):iT n=dT n.toNat:=by unfold iT Lib.itoa;rw[if_neg h];rfl
theorem tP {n:Int}(h:n<0):iT n=⟨#[45]⟩++dT n.natAbs:=by
 unfold iT Lib.itoa dT
 rw[if_pos h]
 exact(tO [45] _).symm
theorem wD {n:Int}(h0:-9223372036854775808≤n)(h1:n≤9223372036854775807):(iT n).size≤21:=by
 by_cases h:n<0
 ·rw[tP h,ByteArray.size_append]
  have:=fU (n:=n.natAbs) (by omega)
  have e:(⟨#[45]⟩:ByteArray).size=1:=rfl
  omega
 ·rw[kp h]
  have:=fU (n:=n.toNat) (by omega)
  omega
theorem log10 (n:Int)(h0:-9223372036854775808≤n)(h1:n≤9223372036854775807)(H:aa):W env (.call 10 [.int .i64 n]) H (Ap (.str (wC++iT n)) H):=by
 refine W.D0 rfl rfl rfl ?_
 simp -implicitDefEqProofs only[zU,op,ef,cl,sq,reduceIte,q6,q7,q8,q9,j3,j4,j5,j6,j7,S1]
 refine dk _ _ _ _ _ _ _ _ (W.nU (fun _ _ _ h=>h) h0 h1 ⟨rfl,rfl⟩:W env _ H (Ap (.str (iT n)) H)) ?_
 rintro u H1⟨hu,rfl⟩
 cases hu
 have hs:=wD h0 h1
 have e:(⟨#[108,111,103,46]⟩:ByteArray).size=4:=rfl
 have b6:4+(iT n).size≤9223372036854775807:=by omega
 simp -implicitDefEqProofs only[op,ef,cl,sq,reduceIte,q6,q7,q8,q9,j3,j4,j5,j6,j7,S1,e,b6,wC]
theorem Dt (n:Int)(h0:-9223372036854775808≤n)(h1:n≤9223372036854775807)(H:aa):W env (.call 11 [.int .i64 n]) H (Ap (.str (wC++iT n)) H):=by
 refine W.D0 rfl rfl rfl ?_
 by_cases hn:n<0
 ·have w1:IntKind.u64.wrap (0-IntKind.u64.wrap n)=((n.natAbs:Nat):Int):=by
   unfold IntKind.wrap
   simp -implicitDefEqProofs only[IntKind.signed,IntKind.bits]
   simp
   omega
  simp -implicitDefEqProofs only[wy,op,ef,cl,sq,reduceIte,q6,q7,q8,q9,j3,j4,j5,j6,j7,S1,hn,zX,w1]
  refine dk _ _ _ _ _ _ _ _ (mH n.natAbs (by omega) H) ?_
  rintro u H1⟨hu,rfl⟩
  cases hu
  have hs:=fU (n:=n.natAbs) (by omega)
  have e:(⟨#[108,111,103,46,45]⟩:ByteArray).size=5:=rfl
  have b6:5+(dT n.natAbs).size≤9223372036854775807:=by omega
  simp -implicitDefEqProofs only[op,ef,cl,sq,reduceIte,q6,q7,q8,q9,j3,j4,j5,j6,j7,S1,e,b6]
  rw[tP hn,←ByteArray.append_assoc]
  rfl
 ·have w1:IntKind.u64.wrap n=((n.toNat:Nat):Int):=by rw[IntWalk.u64_in _ (by omega)];omega
  simp -implicitDefEqProofs only[wy,op,ef,cl,sq,reduceIte,q6,q7,q8,q9,j3,j4,j5,j6,j7,S1,hn,w1]
  refine dk _ _ _ _ _ _ _ _ (mH n.toNat (by omega) H) ?_
  rintro u H1⟨hu,rfl⟩
  cases hu
  have hs:=fU (n:=n.toNat) (by omega)
  have e:(⟨#[108,111,103,46]⟩:ByteArray).size=4:=rfl
  have b6:4+(dT n.toNat).size≤9223372036854775807:=by omega
  simp -implicitDefEqProofs only[op,ef,cl,sq,reduceIte,q6,q7,q8,q9,j3,j4,j5,j6,j7,S1,e,b6,wC]
  rw[kp hn]
theorem zY (n:Int)(h0:-9223372036854775808≤n)(h1:n≤9223372036854775807):W env (.call 3 [.int .i64 n]) [] (fun o _=>o=.val (.bool true)):=by
 refine W.D0 rfl rfl rfl ?_
 simp -implicitDefEqProofs only[Fa,op,ef,cl,sq,reduceIte,q6,q7,q8,q9,j3,j4,j5,j6,j7,S1]
 refine dk _ _ _ _ _ _ _ _ zV ?_
 rintro u H1 hu
 cases hu
 simp -implicitDefEqProofs only[op,ef,cl,sq,reduceIte,q6,q7,q8,q9,j3,j4,j5,j6,j7,S1]
 refine dk _ _ _ _ _ _ _ _ (log10 n h0 h1 _) ?_
 rintro u H2⟨hu,rfl⟩
 cases hu
 simp -implicitDefEqProofs only[op,ef,cl,sq,reduceIte,q6,q7,q8,q9,j3,j4,j5,j6,j7,S1]
 refine dk _ _ _ _ _ _ _ _ (Dt n h0 h1 _) ?_
 rintro u H3⟨hu,rfl⟩
 cases hu
 simp -implicitDefEqProofs only[op,ef,cl,sq,reduceIte,q6,q7,q8,q9,j3,j4,j5,j6,j7,S1]
end Go.Proofs.YtimbcmkkegikgaaGreatDoor.St
end

section
namespace Go.Proofs.YtimbcmkkegikgaaGreatDoor
open Go.ChangeShapes Go.WideShapes Go.ChangeAt Go.RowKit
namespace Law
theorem own:ownKnob Tryz.prog.godebug=none:=by kernel_rfl
theorem kids:Kids Tryz.prog (·<Tryz.prog.types.size):=kids_rows (by kernel_rfl) (by kernel_rfl)
noncomputable def JC:Bool:=(List.range Tryz.prog.types.size).all fun t=>match Tryz.prog.underlying t with
 | some (.slice e)=>decide (0<Tryz.prog.cellsOf e)
 | _=>true
theorem zZ:JC=true:=by kernel_rfl
theorem hz:∀t e,t<Tryz.prog.types.size→Tryz.prog.underlying t=some (.slice e)→0<Tryz.prog.cellsOf e:=fun t e ht h=>by
 have:=(List.all_eq_true.1 zZ) t (List.mem_range.2 ht)
 rw[h]at this
 simpa using this
theorem GL {B:Nat}{t:Go.Rmp.T}(h:Go.Rmp.cD B (.int .i64) t):∃n:Int,t=.int .i64 n∧-9223372036854775808≤n∧n<9223372036854775808:=by
 cases h with|int h =>
  rename_i n
  exact⟨n,rfl,by simp -implicitDefEqProofs only[Lit.wf,IntKind.min,IntKind.max,IntKind.signed,IntKind.bits]at h;simp at h;omega⟩
end Law
namespace Law
theorem tQ {W:World}(h:laidMetH Tryz.prog Rows.bootNamesRow.laid W):Go.Rmp.o5 Tryz.prog W :=
 Go.Rmp.tN (P:=Tryz.prog) (W:=W) (g:=0) (t:=250) (e:=53) (n:=20) 2 (by kernel_rfl) (by kernel_rfl) (by kernel_rfl) (by kernel_rfl) (by kernel_rfl) (by kernel_rfl) (by kernel_rfl) (show laidMet Tryz.prog Rows.bootNamesRow.laid W from h)
noncomputable def gD (os:Os):World :=
 { World.holding Tryz.prog os ⟨#[],#[],[]⟩with heap:=((((World.holding Tryz.prog os ⟨#[],#[],[]⟩).heap.modify 0 fun | .cells _ t frozen=>.cells #[.int .u64 1,.int .u64 10,.int .u64 100,.int .u64 1000,.int .u64 10000,.int .u64 100000,.int .u64 1000000,.int .u64 10000000,.int .u64 100000000,.int .u64 1000000000,.int .u64 10000000000,.int .u64 100000000000,.int .u64 1000000000000,.int .u64 10000000000000,.int .u64 100000000000000,.int .u64 1000000000000000,.int .u64 10000000000000000,.int .u64 100000000000000000,.int .u64 1000000000000000000,.int .u64 10000000000000000000] t frozen|o=>o).modify 1 fun | .cells _ t frozen=>.cells #[.int .u8 0,.int .u8 1,.int .u8 28,.int .u8 2,.int .u8 29,.int .u8 14,.int .u8 24,.int .u8 3,.int .u8 30,.int .u8 22,.int .u8 20,.int .u8 15,.int .u8 25,.int .u8 17,.int .u8 4,.int .u8 8,.int .u8 31,.int .u8 27,.int .u8 13,.int .u8 23,.int .u8 21,.int .u8 19,.int .u8 16,.int .u8 7,.int .u8 26,.int .u8 12,.int .u8 18,.int .u8 6,.int .u8 11,.int .u8 5,.int .u8 10,.int .u8 9] t frozen|o=>o).modify 2 fun | .cells _ t frozen=>.cells #[.int .u8 0,.int .u8 1,.int .u8 56,.int .u8 2,.int .u8 57,.int .u8 49,.int .u8 28,.int .u8 3,.int .u8 61,.int .u8 58,.int .u8 42,.int .u8 50,.int .u8 38,.int .u8 29,.int .u8 17,.int .u8 4,.int .u8 62,.int .u8 47,.int .u8 59,.int .u8 36,.int .u8 45,.int .u8 43,.int .u8 51,.int .u8 22,.int .u8 53,.int .u8 39,.int .u8 33,.int .u8 30,.int .u8 24,.int .u8 18,.int .u8 12,.int .u8 5,.int .u8 63,.int .u8 55,.int .u8 48,.int .u8 27,.int .u8 60,.int .u8 41,.int .u8 37,.int .u8 16,.int .u8 46,.int .u8 35,.int .u8 44,.int .u8 21,.int .u8 52,.int .u8 32,.int .u8 23,.int .u8 11,.int .u8 54,.int .u8 26,.int .u8 40,.int .u8 15,.int .u8 34,.int .u8 20,.int .u8 31,.int .u8 10,.int .u8 25,.int .u8 14,.int .u8 19,.int .u8 9,.int .u8 13,.int .u8 8,.int .u8 7,.int .u8 6] t frozen|o=>o) }
theorem mI (Hx:List Go.Rmp.T)(B:Nat)(hs:Go.Rmp.gz B [.int .i64] Hx):Go.Rmp.W Ir.env (.call 3 Hx) [] (fun o _=>o=.val (.bool true)):=by
 cases hs with|cons h1 hs =>
 cases hs
 obtain⟨n,rfl,h0,h1⟩:=GL h1
 exact St.zY n h0 (by omega)
theorem kV (H:Type):∀ds:List (DataW H),ds.length=Tryz.f3.params.toList.length→Rows.bootNamesSpec.fn H ds={ results:=[.lit (.bool true)],args:=ds }:=by
 have hn:Tryz.f3.params.toList.length=1:=by kernel_rfl
 rw[hn]
 intro ds rf
 cases ds with|nil=>simp at rf|cons d0 ds =>
 cases ds with|cons=>simp at rf|nil =>
 rfl
theorem jx (os:Os):laidMet Tryz.prog Rows.bootNamesRow.laid ((gD os).forCall (fun _ _=>0) ⟨#[],#[.int .i64 0],[]⟩).memory :=
 laidMet_of_run' 8 (by kernel_rfl) (by kernel_rfl)
theorem gW (os:Os){H:Type}(enc:TypeId×Value→H):∃places,DataW.whole enc Tryz.prog ((gD os).forCall (fun _ _=>0) ⟨#[],#[.int .i64 0],[]⟩).memory Tryz.f3.params.toList Rows.bootNamesSpec.vars false (#[.int .i64 0]:Array Value).toList 8=some ([.lit (.int .i64 0)],[],places) :=
 ⟨[],by kernel_rfl⟩
set_option maxRecDepth 100000 in
theorem gE (os:Os)(started:os.Started)(H:Type)(enc:TypeId×Value→H)(F:Stop.Interp) :
  ReturnsInHanded {} Tryz.checked os 3 .any ((OpenSpec.ofChange Rows.bootNamesSpec).preRow enc Tryz.prog Tryz.f3 Rows.bootNamesRow.domain false Rows.bootNamesRow.laid) (((OpenSpec.ofChange Rows.bootNamesSpec).at F).post enc Tryz.prog Tryz.f3 false true false false):=by
 obtain⟨places,hx⟩:=gW os enc
 refine returnsInHanded_of_row (C:=Tryz.checked) (s:=OpenSpec.ofChange Rows.bootNamesSpec) own started (by kernel_rfl) Tryz.func3
  (witness_row_at (enc:=enc) (C:=Tryz.checked) false (gD os) #[.int .i64 0] rfl (by kernel_rfl) (by kernel_rfl) (by kernel_rfl)
   (OpenSpec.preRow_of_cond 8 hx (by kernel_rfl) (fun k hk=>by cases hk) (by kernel_rfl) (jx os))) ?_
 intro W base args ds gs before pS hW _ hk _ hL _ _
 exact Go.Rmp.jv (s:=Rows.bootNamesSpec) (vX:=[.int .i64]) (B:=Go.Rmp.aK (ds++gs)) (tb:=Tryz.f3.resultTypes[0]!) (Ir.Dq (tQ hL)) kids hz (by kernel_rfl) (by intro t ht;exact of_decide_eq_true ((List.all_eq_true.1 (show Tryz.f3.params.toList.all (fun t=>decide (t<Tryz.prog.types.size))=true by kernel_rfl)) t ht)) (by kernel_rfl) (by kernel_rfl) rfl (kV H) (fun ts h _=>mI ts _ h) base args ds gs before pS hW (Nat.le_refl _)
theorem jc:Rows.BootNamesSaid :=
 OpenClaim.holds_of_cond 3 Tryz.f3 rfl rfl rfl rfl rfl rfl rfl ⟨rfl,rfl,rfl,rfl,rfl⟩ rfl rfl rfl rfl rfl (by kernel_rfl) Tryz.func3 (by kernel_rfl)
  (of_decide_eq_true (by kernel_rfl)) (by unfold Func.isWrapper;first|(rw[if_pos (by decide +kernel)];kernel_rfl)|(rw[if_neg (by decide +kernel)];exact⟨rfl,rfl⟩))
  (fun os started H enc _ F=>by rw[OpenClaim.pre_eq_preRow];exact gE os started H enc F)
theorem gX (f:FuncId)(fn:Func)(hf:Tryz.pinned.checked.prog.funcNamed Rows.bootNamesRow.func=some f)(kZ:Tryz.pinned.checked.prog.funcs[f]?=some fn) :
  false=Tryz.pinned.checked.prog.looks []∧∀(j:Nat) t,fn.params[j]?=some t→Tryz.pinned.checked.prog.wantsStandIn t=false:=by
 obtain rfl:f=3:=Option.some.inj ((show Tryz.prog.funcNamed Rows.bootNamesRow.func=some 3 by kernel_rfl).symm.trans hf) |>.symm
 obtain rfl:fn=Tryz.f3:=(Option.some.inj (Tryz.func3.symm.trans kZ)).symm
 refine⟨by kernel_rfl,fun j t ht=>?_⟩
 have h:=(List.all_eq_true.1 (show Tryz.f3.params.toList.all (fun t=>!Tryz.prog.wantsStandIn t)=true by kernel_rfl)) t (Array.mem_toList_iff.2 (Array.mem_of_getElem? ht))
 have h2:Tryz.prog.wantsStandIn t=false:=by simpa using h
 exact h2
theorem bootNames_proved:Rows.BootNamesCardSaid :=
 Claim7.holds_tied_plain_at .later [] _ _ _ _ jc (fun _ h=>by cases h) (by kernel_rfl) (fun _ h=>by cases h) bootNames_row_tie rfl ⟨rfl,rfl⟩ (by kernel_rfl) rfl gX (by kernel_rfl)
end Law
end Go.Proofs.YtimbcmkkegikgaaGreatDoor
end
