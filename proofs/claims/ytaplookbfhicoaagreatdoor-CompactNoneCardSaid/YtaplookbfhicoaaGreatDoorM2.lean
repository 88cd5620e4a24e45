/- Part of a proof of a law of this seat: the machine of plain values, its simulation, and the contracts of the functions that the law reaches. Conditions: none beyond the given row. -/
import Derived.Test.YtaplookbfhicoaaGreatDoorM1
import Derived.Test.YtaplookbfhicoaaGreatDoorProg
import Derived.KernelRfl
import Derived.Test.YtaplookbfhicoaaGreatDoorRows
import Derived.WalkKit
import Derived.ProofKit
import Derived.OpenShut
import Derived.JoinedCond
import Derived.ChangeBears
import Derived.Test.YtaplookbfhicoaaGreatDoorCards
import Derived.Test.YtaplookbfhicoaaGreatDoorTie
import Derived.Deep.DeepHandedRow
import Derived.Lib.LaidTab
open Int renaming reduceLT → q6, reduceLE → q7, reduceBEq → q8, reduceBNe → q9, reduceEq → j3
open Nat renaming reduceAdd → j4, reduceLeDiff → j5, reduceLT → j6, reduceEqDiff → j7
set_option linter.unusedSimpArgs false
set_option linter.unusedVariables false
set_option linter.unnecessarySimpa false
set_option maxHeartbeats 4000000
section
namespace Go.Rmp
theorem jS (l:List T):(T.agg l).cells?=some l:=rfl
theorem jT (k:IntKind)(n:Int):(T.int k n).cells?=some [.int k n]:=rfl
theorem jU (s:ByteArray):(T.str s).cells?=some [.str s]:=rfl
theorem iK (s:Bool):(T.bool s).cells?=some [.bool s]:=rfl
theorem mi (k:SK)(l:List (List T)):(T.sl k l).cells?=some [.sl k l]:=rfl
theorem jV (a b c d:Nat):(T.aP a b c d).cells?=some [.aP a b c d]:=rfl
theorem jW (b:Nat):(T.map b).cells?=some [.map b]:=rfl
theorem jX (a b:Nat):(T.ptr a b).cells?=some [.ptr a b]:=rfl
theorem iL:(T.b6).cells?=some [.b6]:=rfl
theorem iM:(T.aE).cells?=some [.aE]:=rfl
theorem Ac (v:T):oK [v]=v:=rfl
theorem Ad (v w:T):oK [v,w]=.bg [v,w]:=rfl
theorem Ae (v w x:T):oK [v,w,x]=.bg [v,w,x]:=rfl
theorem r5 (k:IntKind)(n:Int):(T.int k n).erase=.int k n:=rfl
theorem r6 (s:ByteArray):(T.str s).erase=.str s:=rfl
theorem oq (s:Bool):(T.bool s).erase=.bool s:=rfl
theorem wJ (k:SK)(l:List (List T)):(T.sl k l).erase=.sl .arg l:=rfl
theorem r7 (a b:Nat):(T.ptr a b).erase=.ptr a b:=rfl
theorem r8 (b:Nat):(T.map b).erase=.map b:=rfl
theorem ot:(T.b6).erase=.b6:=rfl
theorem ou:(T.aE).erase=.aE:=rfl
theorem wK (H:aa)(n:Nat)(k:SK)(es:List (List T)):aH H n (.sl k es)=if es.all (·.length==n)then some es else none:=rfl
theorem r9 (R:ai):au R Option.none=true:=rfl
theorem sa (p:Prop):(True→p)=p:=by simp
theorem wL (p:Prop):(p→True)=True:=by simp
theorem wM (p:Prop):(true=true→p)=p:=by simp
theorem wN (p:Prop):(false=true→p)=True:=by simp
theorem sb (b:Bool):yO .not (.bool b)=some (.bool !b):=rfl
theorem sd (k:IntKind)(a b:Int):aN .add (.int k a) (.int k b)=some (.int k (k.wrap (a+b))):=by simp[aN]
theorem sf (k:IntKind)(a b:Int):aN .sub (.int k a) (.int k b)=some (.int k (k.wrap (a-b))):=by simp[aN]
theorem sg (k:IntKind)(a b:Int):aN .mul (.int k a) (.int k b)=some (.int k (k.wrap (a*b))):=by simp[aN]
theorem sh (k:IntKind)(a b:Int):aN .quo (.int k a) (.int k b)=if b=0 then none else some (.int k (k.wrap (a.tdiv b))):=by simp[aN]
theorem si (k:IntKind)(a b:Int):aN .rem (.int k a) (.int k b)=if b=0 then none else some (.int k (a.tmod b)):=by simp[aN]
theorem sj (k k':IntKind)(a b:Int):aN .shl (.int k a) (.int k' b)=if b<0 then none else some (.int k (k.wrap (a*2^(min b.toNat k.bits)))):=by simp[aN]
theorem sk (k k':IntKind)(a b:Int):aN .shr (.int k a) (.int k' b)=if b<0 then none else some (.int k (a.fdiv (2^(min b.toNat k.bits)))):=by simp[aN]
theorem sm (k:IntKind)(a b:Int):aN .and (.int k a) (.int k b)=some (.int k (k.wrap (BitVec.ofInt k.bits a &&& BitVec.ofInt k.bits b).toNat)):=by simp[aN]
theorem wO (k:IntKind)(a b:Int):aN .or (.int k a) (.int k b)=some (.int k (k.wrap (BitVec.ofInt k.bits a ||| BitVec.ofInt k.bits b).toNat)):=by simp[aN]
theorem sn (k:IntKind)(a b:Int):aN .xor (.int k a) (.int k b)=some (.int k (k.wrap (BitVec.ofInt k.bits a ^^^ BitVec.ofInt k.bits b).toNat)):=by simp[aN]
theorem su (k:IntKind)(a b:Int):aN .eql (.int k a) (.int k b)=some (.bool (a==b)):=by simp[aN]
theorem sv (k:IntKind)(a b:Int):aN .neq (.int k a) (.int k b)=some (.bool (a != b)):=by simp[aN]
theorem sw (k:IntKind)(a b:Int):aN .lss (.int k a) (.int k b)=some (.bool (a<b)):=by simp[aN]
theorem sx (k:IntKind)(a b:Int):aN .leq (.int k a) (.int k b)=some (.bool (a≤b)):=by simp[aN]
theorem sy (k:IntKind)(a b:Int):aN .gtr (.int k a) (.int k b)=some (.bool (b<a)):=by simp[aN]
theorem sz (k:IntKind)(a b:Int):aN .geq (.int k a) (.int k b)=some (.bool (b≤a)):=by simp[aN]
theorem sA (a b:ByteArray):aN .eql (.str a) (.str b)=some (.bool (decide (a=b))):=by simp[aN,cA]
theorem sB (a b:ByteArray):aN .neq (.str a) (.str b)=some (.bool (!decide (a=b))):=by simp[aN,cA]
theorem sC (a b:ByteArray):aN .lss (.str a) (.str b)=some (.bool (strLt a b)):=by rfl
theorem sD (a b:ByteArray):aN .leq (.str a) (.str b)=some (.bool (!strLt b a)):=by have:=not_le b a;simp only[aN,Option.some.injEq,T.bool.injEq];rw[←this];simp
theorem sE (a b:ByteArray):aN .gtr (.str a) (.str b)=some (.bool (strLt b a)):=by have:=not_le b a;simp only[aN,Option.some.injEq,T.bool.injEq];exact this
theorem sF (a b:ByteArray):aN .geq (.str a) (.str b)=some (.bool (!strLt a b)):=by rfl
theorem sG (a b:ByteArray):aN .add (.str a) (.str b)=if a.size+b.size≤9223372036854775807 then some (.str (a++b))else none:=rfl
theorem sH (a b:Nat):decide ((a:Int)<(no_index (OfNat.ofNat b)))=decide (a<OfNat.ofNat b):=Cs a b
theorem sI (a b:Nat):decide ((no_index (OfNat.ofNat b):Int)<(a:Int))=decide (OfNat.ofNat b<a):=Cs b a
theorem sJ (a b:Nat):decide ((a:Int)≤(no_index (OfNat.ofNat b)))=decide (a≤OfNat.ofNat b):=Ct a b
theorem sK (a b:Nat):decide ((no_index (OfNat.ofNat b):Int)≤(a:Int))=decide (OfNat.ofNat b≤a):=Ct b a
theorem sL (a b:Nat):((a:Int)==(no_index (OfNat.ofNat b)))=decide (a=OfNat.ofNat b):=Cu a b
theorem sM (a b:Nat):((a:Int) != (no_index (OfNat.ofNat b)))=!decide (a=OfNat.ofNat b):=Dv a b
set_option linter.defProp false in
theorem S1:type_of% (And.intro (@z2)<|And.intro (@ae.eq_37)<|And.intro (@ae.eq_38)<|And.intro (@ae.eq_43)<|And.intro (@ae.eq_44)<|And.intro (@ae.eq_45)<|And.intro (@z5)<|And.intro (@z6)<|And.intro (@z7)<|And.intro (@cT.eq_1)<|And.intro (@cT.eq_2)<|And.intro (@r9)<|And.intro (@sa)<|And.intro (@wL)<|And.intro (@wM)<|And.intro (@wN)<|And.intro (@rf)<|And.intro (@List.nil_append.{0})<|And.intro (@List.append_nil.{0})<|And.intro (@List.cons_append.{0})<|And.intro (@r5)<|And.intro (@r6)<|And.intro (@oq)<|And.intro (@wJ)<|And.intro (@r7)<|And.intro (@r8)<|And.intro (@ot)<|And.intro (@ou)<|And.intro (@wK)<|And.intro (@bU.eq_1)<|And.intro (@bU.eq_2)<|And.intro (@eV.eq_1)<|And.intro (@eV.eq_2)<|And.intro (@dz.eq_1)<|And.intro (@dz.eq_2)<|And.intro (@dA.eq_1)<|And.intro (@dA.eq_2)<|And.intro (@List.replicate_zero.{0})<|And.intro (@List.replicate_succ.{0})<|And.intro (@List.set_cons_zero.{0})<|And.intro (@List.set_cons_succ.{0})<|And.intro (@List.all_cons.{0})<|And.intro (@List.all_nil.{0})<|And.intro (@Bool.and_true)<|And.intro (@Bool.true_and)<|And.intro (@l0)<|And.intro (@oj)<|And.intro (@rH)<|And.intro (@om)<|And.intro (@rI)<|And.intro (@oo)<|And.intro (@sH)<|And.intro (@sI)<|And.intro (@sJ)<|And.intro (@sK)<|And.intro (@sL)<|And.intro (@sM)<|And.intro (@wv)<|And.intro (@FF)<|And.intro (@FG)<|And.intro (@FH)<|And.intro (@z1)<|And.intro (@rh)<|And.intro (@wx)<|And.intro (@wy)<|And.intro (@rl)<|And.intro (@rm)<|And.intro (@rn)<|And.intro (@wz)<|And.intro (@n8)<|And.intro (@wA)<|And.intro (@rp)<|And.intro (@n9)<|And.intro (@rq)<|And.intro (@wB)<|And.intro (@ru)<|And.intro (@oa)<|And.intro (@ob)<|And.intro (@rv)<|And.intro (@ry)<|And.intro (@rz)<|And.intro (@rA)<|And.intro (@rB)<|And.intro (@wC)<|And.intro (@wD)<|And.intro (@wE)<|And.intro (@Bool.false_eq_true)<|And.intro (@rC)<|And.intro (@rD)<|And.intro (@wF)<|And.intro (@wI)<|And.intro (@wG)<|And.intro (@wH)<|And.intro (@lY)<|And.intro (@jO)<|And.intro (@List.length_cons.{0})<|And.intro (@List.length_nil.{0})<|And.intro (@List.drop_succ_cons.{0})<|And.intro (@List.drop_zero.{0})<|And.intro (@List.take_succ_cons.{0})<|And.intro (@List.take_zero.{0})<|And.intro (@jS)<|And.intro (@jT)<|And.intro (@jU)<|And.intro (@iK)<|And.intro (@mi)<|And.intro (@jV)<|And.intro (@jW)<|And.intro (@jX)<|And.intro (@iL)<|And.intro (@iM)<|And.intro (@kb.eq_1)<|And.intro (@kb.eq_2)<|And.intro (@Nat.zero_add)<|And.intro (@zY)<|And.intro (@zZ)<|And.intro (@kQ.eq_1)<|And.intro (@kQ.eq_2)<|And.intro (@qV)<|And.intro (@qW)<|And.intro (@qX)<|And.intro (@n6)<|And.intro (@od)<|And.intro (@oe)<|And.intro (@og)<|And.intro (@oh)<|And.intro (@true_and)<|And.intro (@and_true)<|And.intro (@Option.map_some.{0,0})<|And.intro (@Option.bind_some.{0,0})<|And.intro (@sb)<|And.intro (@dB.eq_1)<|And.intro (@dB.eq_2)<|And.intro (@dB.eq_3)<|And.intro (@dB.eq_4)<|And.intro (@dB.eq_5)<|And.intro (@jP)<|And.intro (@z3)<|And.intro (@z4)<|And.intro (@nk.eq_1)<|And.intro (@nk.eq_2)<|And.intro (@fC.eq_1)<|And.intro (@jb.eq_1)<|And.intro (@jb.eq_2)<|And.intro (@mG.eq_1)<|And.intro (@mG.eq_2)<|And.intro (@Ac)<|And.intro (@Ad)<|And.intro (@Ae)<|And.intro (@Cs)<|And.intro (@Ct)<|And.intro (@Cu)<|And.intro (@Dv)<|And.intro (@List.map_cons.{0,0})<|And.intro (@List.map_nil.{0,0})<|And.intro (@decide_true)<|And.intro (@decide_false)<|And.intro (@cA)<|And.intro (@Bool.not_true)<|And.intro (@Bool.not_false)<|And.intro (@beq_self_eq_true.{0})<|And.intro (@bne_self_eq_false.{0})<|And.intro (@List.getElem?_cons_zero.{0})<|And.intro (@List.getElem?_cons_succ.{0})<|And.intro (@List.getElem?_nil.{0})<|And.intro (@List.length_map.{0,0})<|And.intro (@oc)<|And.intro (@T.bool.injEq)<|And.intro (@T.int.injEq)<|And.intro (@T.str.injEq)<|And.intro (@T.bg.injEq)<|And.intro (@ae.eq_1)<|And.intro (@ae.eq_2)<|And.intro (@ae.eq_3)<|And.intro (@ae.eq_4)<|And.intro (@ae.eq_5)<|And.intro (@ae.eq_6)<|And.intro (@ae.eq_7)<|And.intro (@ae.eq_8)<|And.intro (@ae.eq_9)<|And.intro (@ae.eq_10)<|And.intro (@ae.eq_11)<|And.intro (@ae.eq_12)<|And.intro (@ae.eq_13)<|And.intro (@ae.eq_14)<|And.intro (@ae.eq_15)<|And.intro (@ae.eq_16)<|And.intro (@ae.eq_17)<|And.intro (@ae.eq_18)<|And.intro (@ae.eq_19)<|And.intro (@ae.eq_20)<|And.intro (@ae.eq_21)<|And.intro (@ae.eq_22)<|And.intro (@ae.eq_23)<|And.intro (@ae.eq_24)<|And.intro (@ae.eq_25)<|And.intro (@ae.eq_26)<|And.intro (@rO)<|And.intro (@l8)<|And.intro (@rP)<|And.intro (@l9)<|And.intro (@rQ)<|And.intro (@rR)<|And.intro (@rS)<|And.intro (@ma)<|And.intro (@rT)<|And.intro (@rU)<|And.intro (@rV)<|And.intro (@mc)<|And.intro (@ae.eq_30)<|And.intro (@ae.eq_31)<|And.intro (@ae.eq_32)<|And.intro (@ae.eq_33)<|And.intro (@ae.eq_34)<|And.intro (@ae.eq_35)<|And.intro (@ae.eq_36)<|And.intro (@rL)<|And.intro (@rN)<|And.intro (@l6)<|And.intro (@rX)<|And.intro (@rY)<|And.intro (@me)<|And.intro (@rZ)<|And.intro (@r4)<|And.intro (@mg)<|And.intro (@mh)<|And.intro (@jQ)<|And.intro (@jR)<|And.intro (@sd)<|And.intro (@sf)<|And.intro (@sg)<|And.intro (@sh)<|And.intro (@si)<|And.intro (@sj)<|And.intro (@sk)<|And.intro (@sm)<|And.intro (@wO)<|And.intro (@sn)<|And.intro (@su)<|And.intro (@sv)<|And.intro (@sw)<|And.intro (@sx)<|And.intro (@sy)<|And.intro (@sz)<|And.intro (@sA)<|And.intro (@sB)<|And.intro (@sC)<|And.intro (@sD)<|And.intro (@sE)<|And.intro (@sF)<|(@sG)):=And.intro (@z2)<|And.intro (@ae.eq_37)<|And.intro (@ae.eq_38)<|And.intro (@ae.eq_43)<|And.intro (@ae.eq_44)<|And.intro (@ae.eq_45)<|And.intro (@z5)<|And.intro (@z6)<|And.intro (@z7)<|And.intro (@cT.eq_1)<|And.intro (@cT.eq_2)<|And.intro (@r9)<|And.intro (@sa)<|And.intro (@wL)<|And.intro (@wM)<|And.intro (@wN)<|And.intro (@rf)<|And.intro (@List.nil_append.{0})<|And.intro (@List.append_nil.{0})<|And.intro (@List.cons_append.{0})<|And.intro (@r5)<|And.intro (@r6)<|And.intro (@oq)<|And.intro (@wJ)<|And.intro (@r7)<|And.intro (@r8)<|And.intro (@ot)<|And.intro (@ou)<|And.intro (@wK)<|And.intro (@bU.eq_1)<|And.intro (@bU.eq_2)<|And.intro (@eV.eq_1)<|And.intro (@eV.eq_2)<|And.intro (@dz.eq_1)<|And.intro (@dz.eq_2)<|And.intro (@dA.eq_1)<|And.intro (@dA.eq_2)<|And.intro (@List.replicate_zero.{0})<|And.intro (@List.replicate_succ.{0})<|And.intro (@List.set_cons_zero.{0})<|And.intro (@List.set_cons_succ.{0})<|And.intro (@List.all_cons.{0})<|And.intro (@List.all_nil.{0})<|And.intro (@Bool.and_true)<|And.intro (@Bool.true_and)<|And.intro (@l0)<|And.intro (@oj)<|And.intro (@rH)<|And.intro (@om)<|And.intro (@rI)<|And.intro (@oo)<|And.intro (@sH)<|And.intro (@sI)<|And.intro (@sJ)<|And.intro (@sK)<|And.intro (@sL)<|And.intro (@sM)<|And.intro (@wv)<|And.intro (@FF)<|And.intro (@FG)<|And.intro (@FH)<|And.intro (@z1)<|And.intro (@rh)<|And.intro (@wx)<|And.intro (@wy)<|And.intro (@rl)<|And.intro (@rm)<|And.intro (@rn)<|And.intro (@wz)<|And.intro (@n8)<|And.intro (@wA)<|And.intro (@rp)<|And.intro (@n9)<|And.intro (@rq)<|And.intro (@wB)<|And.intro (@ru)<|And.intro (@oa)<|And.intro (@ob)<|And.intro (@rv)<|And.intro (@ry)<|And.intro (@rz)<|And.intro (@rA)<|And.intro (@rB)<|And.intro (@wC)<|And.intro (@wD)<|And.intro (@wE)<|And.intro (@Bool.false_eq_true)<|And.intro (@rC)<|And.intro (@rD)<|And.intro (@wF)<|And.intro (@wI)<|And.intro (@wG)<|And.intro (@wH)<|And.intro (@lY)<|And.intro (@jO)<|And.intro (@List.length_cons.{0})<|And.intro (@List.length_nil.{0})<|And.intro (@List.drop_succ_cons.{0})<|And.intro (@List.drop_zero.{0})<|And.intro (@List.take_succ_cons.{0})<|And.intro (@List.take_zero.{0})<|And.intro (@jS)<|And.intro (@jT)<|And.intro (@jU)<|And.intro (@iK)<|And.intro (@mi)<|And.intro (@jV)<|And.intro (@jW)<|And.intro (@jX)<|And.intro (@iL)<|And.intro (@iM)<|And.intro (@kb.eq_1)<|And.intro (@kb.eq_2)<|And.intro (@Nat.zero_add)<|And.intro (@zY)<|And.intro (@zZ)<|And.intro (@kQ.eq_1)<|And.intro (@kQ.eq_2)<|And.intro (@qV)<|And.intro (@qW)<|And.intro (@qX)<|And.intro (@n6)<|And.intro (@od)<|And.intro (@oe)<|And.intro (@og)<|And.intro (@oh)<|And.intro (@true_and)<|And.intro (@and_true)<|And.intro (@Option.map_some.{0,0})<|And.intro (@Option.bind_some.{0,0})<|And.intro (@sb)<|And.intro (@dB.eq_1)<|And.intro (@dB.eq_2)<|And.intro (@dB.eq_3)<|And.intro (@dB.eq_4)<|And.intro (@dB.eq_5)<|And.intro (@jP)<|And.intro (@z3)<|And.intro (@z4)<|And.intro (@nk.eq_1)<|And.intro (@nk.eq_2)<|And.intro (@fC.eq_1)<|And.intro (@jb.eq_1)<|And.intro (@jb.eq_2)<|And.intro (@mG.eq_1)<|And.intro (@mG.eq_2)<|And.intro (@Ac)<|And.intro (@Ad)<|And.intro (@Ae)<|And.intro (@Cs)<|And.intro (@Ct)<|And.intro (@Cu)<|And.intro (@Dv)<|And.intro (@List.map_cons.{0,0})<|And.intro (@List.map_nil.{0,0})<|And.intro (@decide_true)<|And.intro (@decide_false)<|And.intro (@cA)<|And.intro (@Bool.not_true)<|And.intro (@Bool.not_false)<|And.intro (@beq_self_eq_true.{0})<|And.intro (@bne_self_eq_false.{0})<|And.intro (@List.getElem?_cons_zero.{0})<|And.intro (@List.getElem?_cons_succ.{0})<|And.intro (@List.getElem?_nil.{0})<|And.intro (@List.length_map.{0,0})<|And.intro (@oc)<|And.intro (@T.bool.injEq)<|And.intro (@T.int.injEq)<|And.intro (@T.str.injEq)<|And.intro (@T.bg.injEq)<|And.intro (@ae.eq_1)<|And.intro (@ae.eq_2)<|And.intro (@ae.eq_3)<|And.intro (@ae.eq_4)<|And.intro (@ae.eq_5)<|And.intro (@ae.eq_6)<|And.intro (@ae.eq_7)<|And.intro (@ae.eq_8)<|And.intro (@ae.eq_9)<|And.intro (@ae.eq_10)<|And.intro (@ae.eq_11)<|And.intro (@ae.eq_12)<|And.intro (@ae.eq_13)<|And.intro (@ae.eq_14)<|And.intro (@ae.eq_15)<|And.intro (@ae.eq_16)<|And.intro (@ae.eq_17)<|And.intro (@ae.eq_18)<|And.intro (@ae.eq_19)<|And.intro (@ae.eq_20)<|And.intro (@ae.eq_21)<|And.intro (@ae.eq_22)<|And.intro (@ae.eq_23)<|And.intro (@ae.eq_24)<|And.intro (@ae.eq_25)<|And.intro (@ae.eq_26)<|And.intro (@rO)<|And.intro (@l8)<|And.intro (@rP)<|And.intro (@l9)<|And.intro (@rQ)<|And.intro (@rR)<|And.intro (@rS)<|And.intro (@ma)<|And.intro (@rT)<|And.intro (@rU)<|And.intro (@rV)<|And.intro (@mc)<|And.intro (@ae.eq_30)<|And.intro (@ae.eq_31)<|And.intro (@ae.eq_32)<|And.intro (@ae.eq_33)<|And.intro (@ae.eq_34)<|And.intro (@ae.eq_35)<|And.intro (@ae.eq_36)<|And.intro (@rL)<|And.intro (@rN)<|And.intro (@l6)<|And.intro (@rX)<|And.intro (@rY)<|And.intro (@me)<|And.intro (@rZ)<|And.intro (@r4)<|And.intro (@mg)<|And.intro (@mh)<|And.intro (@jQ)<|And.intro (@jR)<|And.intro (@sd)<|And.intro (@sf)<|And.intro (@sg)<|And.intro (@sh)<|And.intro (@si)<|And.intro (@sj)<|And.intro (@sk)<|And.intro (@sm)<|And.intro (@wO)<|And.intro (@sn)<|And.intro (@su)<|And.intro (@sv)<|And.intro (@sw)<|And.intro (@sx)<|And.intro (@sy)<|And.intro (@sz)<|And.intro (@sA)<|And.intro (@sB)<|And.intro (@sC)<|And.intro (@sD)<|And.intro (@sE)<|And.intro (@sF)<|(@sG)
end Go.Rmp
end

section
namespace Go.Rmp
set_option maxRecDepth 10000
abbrev o1 (d:Nat)(b:Bo):O:=⟨some d,.b b,none,[]⟩
end Go.Rmp
end

section
namespace Go.Rmp
def tb:T→Option Nat
 | .aP c _ _ _=>some c
 | _=>none
def bp (H H':aa):Prop:=∀(b:Nat) st p n R ps a c,H[b]?=some (B.loop st p n R ps a c)→∃iV p',H'[b]?=some (B.loop iV p' n R ps a c)
theorem bp.refl (H:aa):bp H H:=fun _ _ _ _ _ _ _ _ h=>⟨_,_,h⟩
theorem bp.trans {H H' H2:aa}(h:bp H H')(h':bp H' H2):bp H H2:=fun b st p n R ps a c hb=>by
 obtain⟨iV,p',h1⟩:=h b st p n R ps a c hb
 exact h' b iV p' n R ps a c h1
theorem bp.app (H l:aa):bp H (H++l):=fun _ _ _ _ _ _ _ _ h=>⟨_,_,cN h⟩
theorem bp.set {H:aa}{b:Nat}{x:B}(y:B)(hb:H[b]?=some x)(hx:∀st p n R ps a c,x≠.loop st p n R ps a c):bp H (H.set b y):=fun b' st p n R ps a c h=>by
 by_cases e:b'=b
 ·subst e;rw[hb]at h;cases h;exact absurd rfl (hx _ _ _ _ _ _ _)
 ·exact⟨st,p,by rw[List.getElem?_set_ne (fun h=>e h.symm)];exact h⟩
theorem bp.oA {H:aa}{b:Nat}{st:pM}{p:Option Ex}{n:Nat}{R:ai}{ps:List Nat}{a c:C}(iV:pM)(p':Option Ex)(hb:H[b]?=some (.loop st p n R ps a c)):bp H (H.set b (.loop iV p' n R ps a c)):=fun b' FI p1 n1 R1 Dw a1 c1 h=>by
 by_cases e:b'=b
 ·subst e;rw[hb]at h;cases h
  exact⟨iV,p',by rw[List.getElem?_set_self (List.getElem?_eq_some_iff.1 hb).1]⟩
 ·exact⟨FI,p1,by rw[List.getElem?_set_ne (fun h=>e h.symm)];exact h⟩
theorem vC {H H':aa}{vs:List T}{t:T}(h:tC H vs t=some H'):bp H H':=by
 unfold tC at h
 split at h
 ·split at h
  ·rename_i hb
   split at h
   ·cases h;exact bp.set _ hb (by intros;simp)
   ·cases h
  ·cases h
 ·cases h
theorem sN {H H':aa}{bytes:Nat}{k:SK}{es new:List (List T)}{v:T}(h:mF H bytes k es new=some (v,H')):bp H H':=by
 unfold mF at h
 split at h
 ·cases h;exact bp.refl _
 ·split at h
  ·split at h
   ·cases h;exact bp.app _ _
   ·cases h;exact bp.app _ _
   ·split at h
    ·rename_i hb
     split at h
     ·cases h;exact bp.set _ hb (by intros;simp)
     ·cases h
    ·cases h
   ·cases h
  ·cases h
theorem sO {H H':aa}{n bytes:Nat}{x:T}{new:List (List T)}{v:T}(h:oI H n bytes x new=some (v,H')):bp H H':=by
 unfold oI at h
 split at h
 ·split at h
  ·cases h;exact bp.refl _
  ·cases h
 ·split at h
  ·split at h
   ·cases h;exact bp.app _ _
   ·cases h
  ·split at h
   ·cases h;exact bp.app _ _
   ·cases h
  ·split at h
   ·rename_i hb
    split at h
    ·cases h;exact(bp.set .dead hb (by intros;simp)).trans (bp.app _ _)
    ·cases h
   ·cases h
  ·cases h
theorem vD {H H':aa}{n:Nat}{x y v:T}(h:pO H n x y=some (v,H')):bp H H':=by
 unfold pO at h
 split at h
 ·split at h
  ·rename_i hb _
   split at h
   ·cases h;exact bp.set _ hb (by intros;simp)
   ·cases h
  ·cases h
 ·split at h
  ·rename_i hb _
   split at h
   ·cases h;exact bp.set _ hb (by intros;simp)
   ·cases h
  ·cases h
 ·cases h
theorem oB {α:Type}{o:Option α}{f:α→T}{H H':aa}{v:T}(h:o.map (fun x=>(f x,H))=some (v,H')):bp H H':=by
 cases o with
 | none=>cases h
 | some x=>cases h;exact bp.refl _
theorem sP {R : ai}{H H' : aa}{b : Bo}{v : T}(h : ae R H b = some (v, H')) : bp H H' := by
  cases hk : gu b with
  | pure => rw[(eO hk h).1]; exact bp.refl _
  | read => rw[(eP hk h).1]; exact bp.refl _
  | make => cases b<;>simp only[gu]at hk<;>(try (cases hk; done))<;>simp only[ae]at h
            · split at hk<;>cases hk
            · cases h; exact bp.app _ _
            · cases h; exact bp.app _ _
  | we =>
    cases b<;>simp only[gu]at hk<;>(try (cases hk; done))<;>simp only[ae]at h
    case eK => exact oB h
    case vR m x =>
      split at h
      · split at h
        · split at h
          · cases h; exact bp.set _ (by assumption) (fun _ _ _ _ _ _ _ e => by cases e)
          · cases h
        · cases h
      · split at h
        · cases h; exact bp.refl _
        · cases h
      · cases h
    case box x =>
      cases hc : (x.ev R).cells? with
      | none => rw[hc]at h; cases h
      | some cs => rw[hc]at h; cases h; exact bp.app _ _
    case st =>
      split at h
      · split at h
        · rw[Option.map_eq_some_iff]at h
          obtain⟨H2, h1, h2⟩ := h
          cases h2; exact vC h1
        · cases h
      · cases h
    case oH =>
      split at h
      · split at h
        · split at h
          · rename_i hb
            split at h
            · cases h; exact bp.set _ hb (by intros; simp)
            · cases h; exact bp.set _ hb (by intros; simp)
            · cases h
          · cases h
        · cases h
      · cases h
    case del =>
      split at h
      · split at h
        · split at h
          · rename_i hb
            split at h
            · cases h; exact bp.set _ hb (by intros; simp)
            · cases h; exact bp.refl _
            · cases h
          · cases h
        · cases h
      · cases h
    case app =>
      split at h
      · split at h
        · exact sO h
        · split at h
          · split at h
            · exact sN h
            · cases h
          · cases h
      · cases h
    case BZ =>
      split at h
      · split at h
        · split at h
          · cases h; exact bp.app _ _
          · split at h
            · cases h; exact bp.refl _
            · cases h; exact bp.app _ _
        · cases h
      · cases h
    case cap =>
      split at h
      · cases h; exact bp.refl _
      · cases h
    case tz => exact vD h
    case vU x =>
      split at h
      · rename_i bb _
        simp only[cn]at h
        split at h
        · rename_i hb; cases h; exact(bp.set _ hb (by intros; simp)).trans (bp.app _ _)
        · rename_i hb; cases h; exact(bp.set _ hb (by intros; simp)).trans (bp.app _ _)
        · cases h
      · cases h
    case gL => cases h
    case vV =>
      split at h
      · split at h
        · split at h
          · split at h
            · exact oB h
            · cases h
          · cases h
        · cases h
      · cases h
    case zb =>
      split at h
      · split at h
        · rename_i hb
          split at h
          · cases h; exact bp.set _ hb (by intros; simp)
          · cases h
        · cases h
      · cases h
    case yN =>
      unfold pQ at h
      split at h
      · split at h
        · split at h
          · cases h; exact bp.refl _
          · cases h
        · cases h
      · cases h
    case zd =>
      rw[Option.bind_eq_some_iff]at h
      obtain⟨k, _, h⟩ := h
      unfold tF at h
      split at h
      · split at h
        · split at h
          · cases h; exact bp.app _ _
          · cases h
        · cases h
      · cases h
    case xi =>
      rw[Option.bind_eq_some_iff]at h
      obtain⟨k, _, h⟩ := h
      split at h
      · cases h; exact bp.app _ _
      · cases h
    case B0 =>
      split at h
      · split at h
        · cases h; exact bp.refl _
        · cases h
      · cases h
inductive cK where
 | lf
 | nd (v:T) (l r:cK)
 | ov (d:Nat) (v:T) (t:cK)
noncomputable def cK.get (t:cK):Nat→T :=
 cK.rec (motive:=fun _=>Nat→T) (fun _=>av) (fun v _ _ gl gr n=>Nat.casesOn (motive:=fun _=>T) n v fun m=>bif Nat.beq (Nat.mod m 2) 0 then gl (Nat.div m 2)else gr (Nat.div m 2)) (fun d v _ g n=>bif Nat.beq n d then v else g n) t
noncomputable def cK.set (t:cK):Nat→T→cK :=
 cK.rec (motive:=fun _=>Nat→T→cK) (fun n v=>.ov n v .lf) (fun x l r gl gr n v=>Nat.casesOn (motive:=fun _=>cK) n (.nd v l r) fun m=>bif Nat.beq (Nat.mod m 2) 0 then .nd x (gl (Nat.div m 2) v) r else .nd x l (gr (Nat.div m 2) v)) (fun d x t g n v=>bif Nat.beq n d then .ov d v t else .ov d x (g n v)) t
def cK.full:Nat→cK
 | 0=>.lf
 | n+1=>.nd av (cK.full n) (cK.full n)
noncomputable abbrev lk (t:cK):ai:=t.get
theorem cK.iP:∀(k n:Nat),(cK.full k).get n=av
 | 0,n=>rfl
 | k+1,0=>rfl
 | k+1,n+1=>by
  show(bif Nat.beq (Nat.mod n 2) 0 then(cK.full k).get (Nat.div n 2)else(cK.full k).get (Nat.div n 2))=_
  cases Nat.beq (Nat.mod n 2) 0
  ·exact cK.iP k _
  ·exact cK.iP k _
theorem sQ (t:cK):∀(d:Nat) (v:T) (n:Nat),(t.set d v).get n=if n=d then v else t.get n:=by
 induction t with
 | lf =>
  intro d v n
  show(bif Nat.beq n d then v else av)=if n=d then v else av
  cases h:Nat.beq n d
  ·rw[if_neg (Nat.ne_of_beq_eq_false h)];rfl
  ·rw[if_pos (Nat.eq_of_beq_eq_true h)];rfl
 | nd x l r GV GW =>
  intro d v n
  cases d with
  | zero=>cases n with
   | zero=>rfl
   | succ n=>rw[if_neg (by omega)];rfl
  | succ d =>
   have hs:(cK.nd x l r).set (d+1) v=bif Nat.beq (Nat.mod d 2) 0 then .nd x (l.set (Nat.div d 2) v) r else .nd x l (r.set (Nat.div d 2) v):=rfl
   rw[hs]
   have hg:∀a b,(cK.nd x a b).get (n)=Nat.casesOn (motive:=fun _=>T) n x fun m=>bif Nat.beq (Nat.mod m 2) 0 then a.get (Nat.div m 2)else b.get (Nat.div m 2):=fun _ _=>rfl
   cases n with
   | zero=>rw[if_neg (by omega)];cases Nat.beq (Nat.mod d 2) 0<;>rfl
   | succ n =>
    have e1:Nat.mod d 2=d%2:=rfl
    have e2:Nat.mod n 2=n%2:=rfl
    have e3:Nat.div d 2=d/2:=rfl
    have e4:Nat.div n 2=n/2:=rfl
    cases hd:Nat.beq (Nat.mod d 2) 0
    ·have eU:=Nat.ne_of_beq_eq_false hd
     simp only[cond_false]
     rw[hg,hg]
     cases hn:Nat.beq (Nat.mod n 2) 0
     ·have v3:=Nat.ne_of_beq_eq_false hn
      simp only[hn,cond_false]
      rw[GW]
      by_cases e:n=d
      ·subst e;simp
      ·rw[if_neg (by omega),if_neg (by omega)]
     ·have v3:=Nat.eq_of_beq_eq_true hn
      simp only[hn,cond_true]
      rw[if_neg (by omega)]
    ·have eU:=Nat.eq_of_beq_eq_true hd
     simp only[cond_true]
     rw[hg,hg]
     cases hn:Nat.beq (Nat.mod n 2) 0
     ·have v3:=Nat.ne_of_beq_eq_false hn
      simp only[hn,cond_false]
      rw[if_neg (by omega)]
     ·have v3:=Nat.eq_of_beq_eq_true hn
      simp only[hn,cond_true]
      rw[GV]
      by_cases e:n=d
      ·subst e;simp
      ·rw[if_neg (by omega),if_neg (by omega)]
 | ov d0 x t ih =>
  intro d v n
  have hs:(cK.ov d0 x t).set d v=bif Nat.beq d d0 then .ov d0 v t else .ov d0 x (t.set d v):=rfl
  have hg:∀y a,(cK.ov d0 y a).get n=bif Nat.beq n d0 then y else a.get n:=fun _ _=>rfl
  rw[hs]
  cases h1:Nat.beq d d0
  ·have pT:=Nat.ne_of_beq_eq_false h1
   simp only[cond_false]
   rw[hg,hg]
   cases h2:Nat.beq n d0
   ·simp only[cond_false];rw[ih]
   ·have mI:=Nat.eq_of_beq_eq_true h2
    simp only[cond_true];rw[if_neg (by omega)]
  ·have pT:=Nat.eq_of_beq_eq_true h1
   simp only[cond_true]
   rw[hg,hg]
   cases h2:Nat.beq n d0
   ·have mI:=Nat.ne_of_beq_eq_false h2
    simp only[cond_false];rw[if_neg (by omega)]
   ·have mI:=Nat.eq_of_beq_eq_true h2
    simp only[cond_true];rw[if_pos (by omega)]
noncomputable def jl (L:cK)(d:Option Nat)(v:T):cK:=match d with|some d=>L.set d v|none=>L
theorem nu (L:cK)(d:Nat)(v:T):lk (L.set d v)=iZ (lk L) d v:=funext fun t=>sQ L d v t
theorem eT (L:cK)(d:Option Nat)(v:T):lk (jl L d v)=ay (lk L) d v:=by
 cases d with
 | none=>rfl
 | some d=>exact nu L d v
noncomputable def pC (L:cK):Nat→List T→cK
 | _,[]=>L
 | i,v :: vs=>pC (L.set i v) (i+1) vs
theorem mj:∀(vs:List T) (L:cK) (i n:Nat),(pC L i vs).get n=if i≤n∧n<i+vs.length then vs.getD (n-i) av else L.get n
 | [],L,i,n=>by simp only[pC,List.length_nil];rw[if_neg (by omega)]
 | v :: vs,L,i,n=>by
  simp only[pC,List.length_cons]
  rw[mj vs,sQ]
  by_cases h1:n=i
  ·subst h1
   rw[if_neg (by omega),if_pos rfl,if_pos (by omega)];simp
  ·by_cases h2:i+1≤n∧n<i+1+vs.length
   ·rw[if_pos h2,if_pos (by omega)]
    have:n-i=(n-(i+1))+1:=by omega
    rw[this];simp
   ·rw[if_neg h2,if_neg h1,if_neg (by omega)]
noncomputable def yv (az:List T):cK:=pC (cK.full 9) 0 az
theorem Dx (az:List T):lk (yv az)=dk az:=by
 funext n
 show(pC (cK.full 9) 0 az).get n=az.getD n av
 rw[mj,cK.iP]
 by_cases h:n<az.length
 ·rw[if_pos (by omega)];simp
 ·rw[if_neg (by omega)];simp[List.getElem?_eq_none (Nat.le_of_not_lt h)]
noncomputable def ml (L:cK):List Nat→List T→cK
 | p :: ps,v :: vs=>ml (L.set p v) ps vs
 | _,_=>L
theorem wP:∀(ps:List Nat) (L:cK) (vs:List T),lk (ml L ps vs)=fA (lk L) ps vs
 | [],L,vs=>by cases vs<;>rfl
 | p :: ps,L,[]=>rfl
 | p :: ps,L,v :: vs=>by simp only[ml,fA];rw[wP ps,nu]
def eI (k:IntKind)(n:Int):Int:=match k,n with
 | .i64,.ofNat a=>bif Nat.ble a 9223372036854775807 then n else k.wrap n
 | .u64,.ofNat a=>.ofNat (Nat.mod a 18446744073709551616)
 | .u32,.ofNat a=>.ofNat (Nat.mod a 4294967296)
 | .u8,.ofNat a=>.ofNat (Nat.mod a 256)
 | k,n=>k.wrap n
theorem mm (k:IntKind)(n:Int):eI k n=k.wrap n:=by
 unfold eI
 split
 ·rename_i a
  cases h:Nat.ble a 9223372036854775807
  ·rfl
  ·have:=Nat.le_of_ble_eq_true h
   simp only[cond_true]
   rw[wrap64 (by have:(Int.ofNat a)=(a:Int):=rfl;omega)]
 ·simp[IntKind.wrap,IntKind.signed,IntKind.bits];rfl
 ·simp[IntKind.wrap,IntKind.signed,IntKind.bits];rfl
 ·simp[IntKind.wrap,IntKind.signed,IntKind.bits];rfl
 ·rfl
def Af (k:IntKind)(x:Int)(k':IntKind)(y:Int):Option T:=if k=k' then some (.int k (eI k (x+y)))else none
def Ag (k:IntKind)(x:Int)(k':IntKind)(y:Int):Option T:=if k=k' then some (.int k (eI k (x-y)))else none
def Ah (k:IntKind)(x:Int)(k':IntKind)(y:Int):Option T:=if k=k' then some (.int k (eI k (x*y)))else none
def Ai (k:IntKind)(x:Int)(k':IntKind)(y:Int):Option T:=if k=k' then some (.bool (x<y))else none
def Aj (k:IntKind)(x:Int)(k':IntKind)(y:Int):Option T:=if k=k' then some (.bool (x≤y))else none
def Ak (k:IntKind)(x:Int)(k':IntKind)(y:Int):Option T:=if k=k' then some (.bool (x>y))else none
def Al (k:IntKind)(x:Int)(k':IntKind)(y:Int):Option T:=if k=k' then some (.bool (x≥y))else none
def Am (k:IntKind)(x:Int)(k':IntKind)(y:Int):Option T:=if k=k' then some (.bool (x==y))else none
def Ao (k:IntKind)(x:Int)(k':IntKind)(y:Int):Option T:=if k=k' then some (.bool (x != y))else none
def Ap (k:IntKind)(x:Int)(k':IntKind)(y:Int):Option T:=if k=k' then some (.int k (eI k (BitVec.ofInt k.bits x &&& BitVec.ofInt k.bits y).toNat))else none
def FJ (k:IntKind)(x:Int)(k':IntKind)(y:Int):Option T:=if k=k' then some (.int k (eI k (BitVec.ofInt k.bits x ||| BitVec.ofInt k.bits y).toNat))else none
def Aq (k:IntKind)(x:Int)(k':IntKind)(y:Int):Option T:=if k=k' then some (.int k (eI k (BitVec.ofInt k.bits x ^^^ BitVec.ofInt k.bits y).toNat))else none
def Ar (k:IntKind)(x:Int)(k':IntKind)(y:Int):Option T:=if k=k' then if y=0 then none else some (.int k (eI k (x.tdiv y)))else none
def As (k:IntKind)(x:Int)(k':IntKind)(y:Int):Option T:=if k=k' then if y=0 then none else some (.int k (x.tmod y))else none
def Au (k:IntKind)(x:Int)(y:Int):Option T:=if y<0 then none else some (.int k (eI k (x*2^(min y.toNat k.bits))))
def Av (k:IntKind)(x:Int)(y:Int):Option T:=if y<0 then none else some (.int k (x.fdiv (2^(min y.toNat k.bits))))
def Aw (op:BinOp)(k:IntKind)(x:Int)(k':IntKind)(y:Int):Option T:=match op with
 | .add=>Af k x k' y
 | .sub=>Ag k x k' y
 | .mul=>Ah k x k' y
 | .lss=>Ai k x k' y
 | .leq=>Aj k x k' y
 | .gtr=>Ak k x k' y
 | .geq=>Al k x k' y
 | .eql=>Am k x k' y
 | .neq=>Ao k x k' y
 | .and=>Ap k x k' y
 | .or=>FJ k x k' y
 | .xor=>Aq k x k' y
 | .quo=>Ar k x k' y
 | .rem=>As k x k' y
 | .shl=>Au k x y
 | .shr=>Av k x y
 | op=>aN op (.int k x) (.int k' y)
def yw (op:BinOp)(a b:T):Option T:=match a,b with
 | .int k x,.int k' y=>Aw op k x k' y
 | a,b=>aN op a b
theorem vE (op:BinOp)(a b:T):yw op a b=aN op a b:=by
 unfold yw
 split
 ·unfold Aw
  split<;>simp only[Af,Ag,Ah,Ai,Aj,Ak,Al,Am,Ao,Ap,FJ,Aq,Ar,As,Au,Av,mm,aN]
 ·rfl
def iQ (o:Option T)(H:aa):Option (T×aa):=match o with
 | some v=>some (v,H)
 | none=>none
theorem dI (o:Option T)(H:aa):iQ o H=o.map (·,H):=by cases o<;>rfl
def FK (R:ai)(H:aa)(n:Nat)(ag:Bool)(x:X):Option (T×aa):=match gD H n (x.ev R)with
 | some cs=>iQ (valOf ag cs) H
 | none=>none
def FL (R:ai)(H:aa)(n:Nat)(a v:X):Option (T×aa):=match (v.ev R).cells? with
 | some vs=>if vs.length=n then(match tC H vs (a.ev R)with|some H'=>some (av,H')|none=>none)else none
 | none=>none
def Ax (R:ai)(H:aa)(i:Nat)(x:X):Option (T×aa):=match x.ev R with
 | .bg vs=>iQ vs[i]? H
 | _=>none
def wQ (R:ai)(H:aa)(c a b:X):Option (T×aa):=match c.ev R with
 | .bool t=>some (if t then a.ev R else b.ev R,H)
 | _=>none
def Ay (R:ai)(H:aa)(k:Lc)(x:X):Option (T×aa):=match dB H k (x.ev R)with
 | some n=>some (.int .i64 (n:Int),H)
 | none=>none
def Az (R:ai)(H:aa)(n:Nat)(x i:X):Option (T×aa):=match aQ (i.ev R)with
 | some i=>iQ (tD n i (x.ev R)) H
 | none=>none
def AA (R:ai)(H:aa)(k:IntKind)(x:X):Option (T×aa):=match x.ev R with
 | .int _ n=>some (.int k (eI k n),H)
 | _=>none
def sR (R:ai)(H:aa)(b:Bo):Option (T×aa):=match b with
 | .al x=>some (x.ev R,H)
 | .bin op x y=>iQ (yw op (x.ev R) (y.ev R)) H
 | .ld n ag x=>FK R H n ag x
 | .st n a v=>FL R H n a v
 | .ny off x=>iQ (kb off (x.ev R)) H
 | .ext i x=>Ax R H i x
 | .pick c a b=>wQ R H c a b
 | .len k x=>Ay R H k x
 | .ja n x i=>Az R H n x i
 | .un op x=>iQ (yO op (x.ev R)) H
 | .fy k x=>AA R H k x
 | .alloc z=>some (.ptr H.length 0,H++[.cells z])
 | b=>ae R H b
theorem sS (R:ai)(H:aa)(b:Bo):sR R H b=ae R H b:=by
 unfold sR
 split
 ·rfl
 ·simp only[ae,dI,vE]
 ·rename_i n ag x
  simp only[ae,FK,dI]
  cases gD H n (x.ev R)<;>rfl
 ·rename_i n a v
  simp only[ae,FL]
  cases(v.ev R).cells? with
  | none=>rfl
  | some vs =>
   simp only
   split
   ·cases tC H vs (a.ev R)<;>rfl
   ·rfl
 ·simp only[ae,dI]
 ·rename_i i x
  simp only[ae,Ax,dI]
  cases x.ev R<;>rfl
 ·rename_i c a b
  simp only[ae,wQ]
  cases c.ev R<;>rfl
 ·rename_i k x
  simp only[ae,Ay]
  cases dB H k (x.ev R)<;>rfl
 ·rename_i n x i
  simp only[ae,Az,dI]
  cases aQ (i.ev R)<;>rfl
 ·simp only[ae,dI]
 ·rename_i k x
  simp only[ae,AA,mm]
  cases x.ev R<;>rfl
 ·rfl
 ·rfl
def vF:T→T→Bool
 | .int k a,.int k' b=>decide (k=k')&&decide (a=b)
 | .bool a,.bool b=>a==b
 | .str a,.str b=>di a b
 | .aE,.aE=>true
 | .b6,.b6=>true
 | .ptr a b,.ptr a' b'=>decide (a=a')&&decide (b=b')
 | .map b,.map b'=>decide (b=b')
 | .aP a b c d,.aP a' b' c' d'=>decide (a=a')&&decide (b=b')&&decide (c=c')&&decide (d=d')
 | _,_=>false
theorem oC {a b:T}(h:vF a b=true):a=b:=by
 unfold vF at h
 split at h<;>simp_all [cA]
def kD {α:Type}(p:α→α→Bool):List α→List α→Bool
 | [],[]=>true
 | a :: l,b :: m=>p a b&&kD p l m
 | _,_=>false
theorem kE {α:Type}{p:α→α→Bool}(hp:∀a b,p a b=true→a=b):∀(a b:List α),kD p a b=true→a=b
 | [],[],_=>rfl
 | a :: l,b :: m,h=>by
  simp only[kD,Bool.and_eq_true]at h
  rw[hp _ _ h.1,kE hp _ _ h.2]
def mo:Nat→T→T→Bool
 | 0,a,b=>vF a b
 | n+1,a,b=>match a,b with
  | .sl k es,.sl k' zn=>decide (k=k')&&kD (kD (mo n)) es zn
  | .agg a,.agg b=>kD (mo n) a b
  | .bg a,.bg b=>kD (mo n) a b
  | .cC a,.cC b=>kD (mo n) a b
  | .fn f a,.fn f' b=>decide (f=f')&&kD (mo n) a b
  | a,b=>vF a b
theorem oD:∀(n:Nat) (a b:T),mo n a b=true→a=b
 | 0,a,b,h=>oC h
 | n+1,a,b,h=>by
  have ih:=kE (oD n)
  unfold mo at h
  split at h
  ·simp only[Bool.and_eq_true,decide_eq_true_eq]at h;rw[h.1,kE ih _ _ h.2]
  ·rw[ih _ _ h]
  ·rw[ih _ _ h]
  ·rw[ih _ _ h]
  ·simp only[Bool.and_eq_true,decide_eq_true_eq]at h;rw[h.1,ih _ _ h.2]
  ·exact oC h
abbrev AB:T→T→Bool:=mo 6
theorem vG {a b:T}(h:AB a b=true):a=b:=oD 6 a b h
def sU (b:Bo):Bool:=match gu b with | .pure=>true | .read=>true|_=>false
noncomputable def fS (R:ai)(H:aa)(s:List Rd):Bool:=s.all fun r=>!au R r.g||(sU r.op&&match ae R H r.op with|some (v,_)=>AB v (R r.d)|none=>false)
theorem eJ {R:ai}{H:aa}{s:List Rd}(h:fS R H s=true):cE R H s:=fun r hr hw=>by
 have:=List.all_eq_true.1 h r hr
 simp only[hw,Bool.not_true,Bool.false_or,Bool.and_eq_true]at this
 obtain⟨h1,h2⟩:=this
 cases he:ae R H r.op with
 | none=>rw[he]at h2;cases h2
 | some x =>
  obtain⟨v,H'⟩:=x
  rw[he]at h2
  have hv:=vG h2
  have hh:H'=H:=by
   unfold sU at h1
   split at h1
   ·rename_i hk;exact(eO hk he).1
   ·rename_i hk;exact(eP hk he).1
   ·cases h1
  rw[hv,hh]
inductive OE where
 | ex (e:Ex) (L:cK)
 | val (v:T)
noncomputable def OE.out:OE→Out
 | .ex e L=>.ex e (lk L)
 | .val v=>.val v
abbrev gT:=Option (List (OE×aa))
inductive JE where
 | code (c:C) (L:cK)
 | call (f:Nat) (az:List T)
noncomputable def JE.j:JE→J
 | .code c L=>.code c (lk L)
 | .call f az=>.call f az
structure Yc where
 b:Nat
 n:Nat
 L:cK
 ps:List Nat
 bf:C
 body:C
def fb (ctx:List Yc)(H:aa):Prop:=∀y∈ctx,∃st p,H[y.b]?=some (B.loop st p y.n (lk y.L) y.ps y.bf y.body)
theorem fb.mono {ctx:List Yc}{H H':aa}(h:fb ctx H)(hp:bp H H'):fb ctx H':=fun y hy=>by
 obtain⟨st,p,h1⟩:=h y hy
 exact hp _ _ _ _ _ _ _ _ h1
def bJ (l:List (OE×aa)):Out→aa→Prop:=fun o H'=>∃x∈l,x.1.out=o∧x.2=H'
def fc {α:Type}:List α→(α→gT)→gT
 | [],_=>some []
 | x :: l,k=>match l with
  | []=>k x
  | _=>match k x with
   | none=>none
   | some a=>match fc l k with
    | none=>none
    | some b=>some (a++b)
theorem aD {α:Type}{k:α→gT}:∀{l:List α} {res:List (OE×aa)},fc l k=some res→∀x∈l,∃r,k x=some r∧∀y∈r,y∈res
 | [],_,_,x,hx=>by cases hx
 | [a],res,h,x,hx=>by
  simp only[List.mem_singleton]at hx;subst hx
  exact⟨res,h,fun y hy=>hy⟩
 | a :: b :: l,res,h,x,hx=>by
  unfold fc at h
  simp only at h
  cases ha:k a with
  | none=>rw[ha]at h;cases h
  | some ra =>
   rw[ha]at h
   simp only at h
   cases hb:fc (b :: l) k with
   | none=>rw[hb]at h;cases h
   | some rb =>
    rw[hb]at h;cases h
    rcases List.mem_cons.1 hx with rfl|hx
    ·exact⟨ra,ha,fun y hy=>List.mem_append_left _ hy⟩
    ·obtain⟨r,h1,h2⟩:=aD hb x hx
     exact⟨r,h1,fun y hy=>List.mem_append_right _ (h2 y hy)⟩
theorem aY {α:Type}{k:α→gT}:∀{l:List α} {res:List (OE×aa)},fc l k=some res→∀y∈res,∃x∈l,∃r,k x=some r∧y∈r
 | [],_,h,y,hy=>by cases h;cases hy
 | [a],res,h,y,hy=>⟨a,List.mem_singleton.2 rfl,res,h,hy⟩
 | a :: b :: l,res,h,y,hy=>by
  unfold fc at h
  simp only at h
  cases ha:k a with
  | none=>rw[ha]at h;cases h
  | some ra =>
   rw[ha]at h
   simp only at h
   cases hb:fc (b :: l) k with
   | none=>rw[hb]at h;cases h
   | some rb =>
    rw[hb]at h;cases h
    rcases List.mem_append.1 hy with hy|hy
    ·exact⟨a,List.mem_cons_self,ra,ha,hy⟩
    ·obtain⟨x,hx,r,h1,h2⟩:=aY hb y hy
     exact⟨x,List.mem_cons_of_mem _ hx,r,h1,h2⟩
def tv (r:gT)(k:OE→aa→gT):gT:=match r with
 | none=>none
 | some l=>fc l fun x=>k x.1 x.2
noncomputable def yx (H:aa)(R:ai)(x:X):Option (List (T×aa)):=match x.ev R with
 | .ptr bi 0=>match H[bi]? with
  | some (.pE b)=>match H[b]? with
   | some (.cm es ix vX _)=>if vX=bi then
     match ix with
     | []=>some [(.bg [.bool false],H.set b (.map es))]
     | _=>some (ix.filterMap fun i=>es[i]?.map fun e=>(.bg [.bool true,e.1,e.2],H.set b (.cm es (ix.erase i) bi (some i))))
    else none
   | _=>none
  | _=>none
 | _=>none
def AD:Bo→Option X
 | .gL x=>some x
 | _=>none
noncomputable def yz (R:ai)(g:Gd)(s:List Rd):Bo→Bool
 | .eK _ .slice x y=>match g,s,x.ev R,y.ev R with
  | none,[],.sl .arg [],.sl .nil []=>true
  | _,_,_,_=>false
 | _=>false
def kF (H:aa)(b:Nat):Bool:=match H[b]? with
 | some (.loop .ready none _ _ _ _ _)=>true
 | _=>false
def sV (H:aa)(b:Nat):Bool:=match H[b]? with
 | some (.loop .busy none _ _ _ _ _)=>true
 | _=>false
noncomputable def AE (rec:JE→List Yc→aa→gT)(ctx:List Yc)(y:Yc)(vs:List T)(H:aa)(k:Bool→aa→gT):gT :=
 if kF H y.b&&decide (vs.length=y.ps.length)then
  tv (rec (.code y.bf (ml y.L y.ps vs)) ctx H) fun o H1=>match o with
   | .ex .normal L1=>if kF H1 y.b then
     tv (rec (.code y.body L1) ctx (H1.set y.b (.loop .busy none y.n (lk y.L) y.ps y.bf y.body))) fun o2 H2=>if sV H2 y.b then
      match o2 with
      | .ex .normal _=>k true (H2.set y.b (.loop .ready none y.n (lk y.L) y.ps y.bf y.body))
      | .ex e _=>k false (H2.set y.b (.loop .done (some e) y.n (lk y.L) y.ps y.bf y.body))
      | .val _=>none
      else none
    else none
   | _=>none
 else none
noncomputable def gA (rec:JE→List Yc→aa→gT)(ctx:List Yc):List O→cK→aa→gT
 | [],L,H=>some [(.ex .normal L,H)]
 | o :: l,L,H =>
  if au (lk L) o.g then
   match o.op with
   | .b b=>match sR (lk L) H b with
    | some (v,H')=>if fS (lk L) H' o.gM then gA rec ctx l (jl L o.d v) H' else none
    | none=>match AD b with
     | some x=>match yx H (lk L) x with
      | some r=>fc r fun p=>if fS (lk L) p.2 o.gM then gA rec ctx l (jl L o.d p.1) p.2 else none
      | none=>none
     | none=>if yz (lk L) o.g o.gM b then fc [true,false] fun t=>gA rec ctx l (jl L o.d (.bool t)) H else none
   | .call f az=>tv (rec (.call f (az.map (X.ev (lk L)))) ctx H) fun r H'=>match r with
    | .val v=>if fS (lk L) H' o.gM then gA rec ctx l (jl L o.d v) H' else none
    | _=>none
   | .a6 x az=>match x.ev (lk L)with
    | .fn f cs=>tv (rec (.call f (az.map (X.ev (lk L))++cs)) ctx H) fun r H'=>match r with
     | .val v=>if fS (lk L) H' o.gM then gA rec ctx l (jl L o.d v) H' else none
     | _=>none
    | .gV b=>match ctx.find? fun y=>y.b==b with
     | some y=>AE rec ctx y (az.map (X.ev (lk L))) H fun t H'=>if fS (lk L) H' o.gM then gA rec ctx l (jl L o.d (.bool t)) H' else none
     | none=>none
    | _=>none
  else gA rec ctx l (jl L o.d av) H
def oE:Option Ex→Bool
 | some .normal=>true
 | _=>false
noncomputable def cL (rec:JE→List Yc→aa→gT)(ctx:List Yc):C→cK→aa→gT
 | .skip,L,H=>some [(.ex .normal L,H)]
 | .exit id,L,H=>some [(.ex (.exit id) L,H)]
 | .ret,L,H=>some [(.ex .ret L,H)]
 | .ops l,L,H=>gA rec ctx l L H
 | .seq a b,L,H=>tv (cL rec ctx a L H) fun o H'=>match o with
  | .ex .normal L'=>cL rec ctx b L' H'
  | o=>some [(o,H')]
 | .cond x a b,L,H=>match x.ev (lk L)with
  | .bool true=>cL rec ctx a L H
  | .bool false=>cL rec ctx b L H
  | _=>none
 | .block id a,L,H=>tv (cL rec ctx a L H) fun o H'=>match o with
  | .ex (.exit i) L'=>if i=id then some [(.ex .normal L',H')]else some [(.ex (.exit i) L',H')]
  | o=>some [(o,H')]
 | .loop a,L,H=>tv (cL rec ctx a L H) fun o H'=>match o with
  | .ex .normal L'=>rec (.code (.loop a) L') ctx H'
  | o=>some [(o,H')]
 | .bo n x ps bf body,L,H=>match x.ev (lk L)with
  | .fn f cs=>tv (rec (.call f (.gV (H.length+1) :: cs)) (⟨H.length+1,n,L,ps,bf,body⟩ :: ctx) (H++[.kS,.loop .ready none n (lk L) ps bf body])) fun o H'=>match o with
   | .val _=>match H'[H.length+1]? with
    | some (.loop st bz _ _ _ _ _)=>if st≠.busy∧oE bz=false then some [(.ex (kc bz) (L.set n (fB (L.get n) H.length)),H'.set (H.length+1) .dead)]else none
    | _=>none
   | _=>none
  | _=>none
def yA (H:aa)(b:Nat):Bool:=match H[b]? with
 | some .kS=>true
 | _=>false
def yB:T→Option Nat
 | .aP b _ _ _=>some b
 | .bg vs=>vs.findSome? fun v=>match v with | .aP b _ _ _=>some b|_=>none
 | _=>none
def AF (x:OE×aa):Option (OE×aa):=match x.1 with
 | .val v=>match yB v with
  | some b=>match x.2[b]? with
   | some (.cells cs)=>some (.val (mH b cs v),x.2.set b .dead)
   | _=>none
  | none=>none
 | _=>none
def kG:List (OE×aa)→Option (List (OE×aa))
 | []=>some []
 | x :: l=>match AF x,kG l with
  | some y,some m=>some (y :: m)
  | _,_=>none
def vH:Nat→List (OE×aa)→List (OE×aa)
 | 0,r=>r
 | n+1,r=>match kG r with
  | some r'=>vH n r'
  | none=>r
noncomputable def sW (fns:Nat→Option Fn)(rec:JE→List Yc→aa→gT)(ctx:List Yc)(f:Nat)(az:List T)(H:aa):gT:=match fns f with
 | some fn=>if az.length=fn.np then
   tv (rec (.code fn.body (yv az)) ctx H) fun o H'=>match o with
    | .val _=>none
    | .ex (.exit _) _=>none
    | .ex _ L'=>if fn.body.eg then
      match marks (L'.get fn.n)with
      | some bs=>if decide bs.Nodup&&bs.all (yA H')then match fC (lk L') (kill H' bs) fn.res with
        | some v=>some [(.val v,kill H' bs)]
        | none=>none
       else none
      | none=>none
     else match fC (lk L') H' fn.res with
      | some v=>some [(.val v,H')]
      | none=>none
  else none
 | none=>none
noncomputable def sX (fns:Nat→Option Fn)(nw:Nat→Nat)(rec:JE→List Yc→aa→gT)(ctx:List Yc)(f:Nat)(az:List T)(H:aa):gT:=match sW fns rec ctx f az H with
 | some r=>some (vH (nw f) r)
 | none=>none
noncomputable def wR (fns:Nat→Option Fn)(nw:Nat→Nat)(rec:JE→List Yc→aa→gT):JE→List Yc→aa→gT
 | .code c L,ctx,H=>cL rec ctx c L H
 | .call f az,ctx,H=>sX fns nw rec ctx f az H
noncomputable def run (fns:Nat→Option Fn)(nw:Nat→Nat)(n:Nat):JE→List Yc→aa→gT :=
 Nat.rec (motive:=fun _=>JE→List Yc→aa→gT) (fun _ _ _=>none) (fun _ ih=>wR fns nw ih) n
def sY:gT→Bool
 | some r=>r.all fun x=>match x.1 with | .val (.bool true)=>true|_=>false
 | none=>false
section
variable {E:Env} {rec:JE→List Yc→aa→gT}
def Good (E:Env)(j:J)(H:aa)(res:List (OE×aa)):Prop:=W E j H (bJ res)∧∀x∈res,bp H x.2
def iR (E:Env)(rec:JE→List Yc→aa→gT):Prop:=∀j ctx H res,fb ctx H→rec j ctx H=some res→Good E j.j H res
theorem bJ.sub {a b:List (OE×aa)}(h:∀y∈a,y∈b):∀o H,bJ a o H→bJ b o H:=fun o H ⟨x,hx,h1,h2⟩=>⟨x,h x hx,h1,h2⟩
theorem kH {x:OE}{v:T}(h:x.out=.val v):x=.val v:=by
 cases x with
 | ex e L=>cases h
 | val v'=>cases h;rfl
theorem kI {x:OE}{e:Ex}{R:ai}(h:x.out=.ex e R):∃L,x=.ex e L∧lk L=R:=by
 cases x with
 | ex e' L=>cases h;exact⟨L,rfl,rfl⟩
 | val v'=>cases h
theorem vI {R:ai}{g:Gd}{s:List Rd}{b:Bo}(h:yz R g s b=true):∃neg x y,b=.eK neg .slice x y∧g=none∧s=[]∧x.ev R=.sl .arg []∧y.ev R=.sl .nil []:=by
 unfold yz at h
 split at h
 ·rename_i neg x y
  split at h
  ·rename_i h1 h2
   exact⟨neg,x,y,rfl,rfl,rfl,h1,h2⟩
  ·cases h
 ·cases h
theorem sZ {ctx:List Yc}{b:Nat}{y:Yc}(h:ctx.find? (fun y=>y.b==b)=some y):y∈ctx∧y.b=b:=⟨List.mem_of_find?_eq_some h,by simpa using List.find?_some h⟩
theorem mq {H:aa}{b:Nat}(h:kF H b=true):∃n R ps a c,H[b]?=some (.loop .ready none n R ps a c):=by
 unfold kF at h
 split at h
 ·rename_i hb;exact⟨_,_,_,_,_,hb⟩
 ·cases h
theorem vJ {H:aa}{b:Nat}(h:sV H b=true):∃n R ps a c,H[b]?=some (.loop .busy none n R ps a c):=by
 unfold sV at h
 split at h
 ·rename_i hb;exact⟨_,_,_,_,_,hb⟩
 ·cases h
theorem vK {H:aa}{R:ai}{x:X}{r:List (T×aa)}(h:yx H R x=some r):∃bi b es ix cur,x.ev R=.ptr bi 0∧H[b]?=some (.cm es ix bi cur)∧(∀t H',fD H b bi es ix t H'→(t,H')∈r)∧∀p∈r,bp H p.2:=by
 unfold yx at h
 split at h
 ·rename_i bi hx
  split at h
  ·rename_i b IG
   split at h
   ·rename_i es ix vX cur hb
    split at h
    ·rename_i he
     subst he
     refine⟨_,b,es,ix,cur,hx,hb,?_⟩
     split at h
     ·cases h
      refine⟨fun t H' hn=>?_,fun p hp=>?_⟩
      ·rcases hn with⟨_,rfl,rfl⟩|⟨i,e,hi,_⟩
       ·exact List.mem_singleton.2 rfl
       ·cases hi
      ·cases List.mem_singleton.1 hp
       exact bp.set _ hb (by intros;simp)
     ·rename_i aF
      cases h
      refine⟨fun t H' hn=>?_,fun p hp=>?_⟩
      ·rcases hn with⟨e,_⟩|⟨i,e,hi,he,rfl,rfl⟩
       ·exact absurd e aF
       ·exact List.mem_filterMap.2 ⟨i,hi,by rw[he];rfl⟩
      ·obtain⟨i,_,hi⟩:=List.mem_filterMap.1 hp
       rw[Option.map_eq_some_iff]at hi
       obtain⟨e,_,rfl⟩:=hi
       exact bp.set _ hb (by intros;simp)
    ·cases h
   ·cases h
  ·cases h
 ·cases h
theorem jY {f:Nat}{az:List T}{ctx:List Yc}{H:aa}{l:List O}{L:cK}{d:Option Nat}{s:List Rd}{res:List (OE×aa)}(hr:iR E rec)(hc:fb ctx H)
  (ih:∀L' H' res,fb ctx H'→gA rec ctx l L' H'=some res→Good E (.ops l (lk L')) H' res)
  (h:tv (rec (.call f az) ctx H) (fun r H'=>match r with
    | .val v=>if fS (lk L) H' s then gA rec ctx l (jl L d v) H' else none
    | _=>none)=some res) :
  ∃M:Out→aa→Prop,W E (.call f az) H M∧(∀v H',M (.val v) H'→cE (lk L) H' s)∧(∀v H',M (.val v) H'→W E (.ops l (ay (lk L) d v)) H' (bJ res))∧∀x∈res,bp H x.2:=by
 cases h1:rec (.call f az) ctx H with
 | none=>rw[h1]at h;cases h
 | some r =>
  rw[h1]at h
  obtain⟨g1,g2⟩:=hr _ _ _ _ hc h1
  refine⟨bJ r,g1,fun v H' hp=>?_,fun v H' hp=>?_,fun x hx=>?_⟩
  ·obtain⟨⟨o,H2⟩,hx,ho,rfl⟩:=hp
   cases kH ho
   obtain⟨r2,h2,_⟩:=aD h _ hx
   simp only at h2
   split at h2
   ·rename_i hs;exact eJ hs
   ·cases h2
  ·obtain⟨⟨o,H2⟩,hx,ho,rfl⟩:=hp
   cases kH ho
   obtain⟨r2,h2,h3⟩:=aD h _ hx
   simp only at h2
   split at h2
   ·rw[←eT]
    exact(ih _ _ _ (hc.mono (g2 _ hx)) h2).1.use (bJ.sub h3)
   ·cases h2
  ·obtain⟨⟨o,H2⟩,hy,r2,h2,h3⟩:=aY h x hx
   simp only at h2
   split at h2
   ·split at h2
    ·exact(g2 _ hy).trans ((ih _ _ _ (hc.mono (g2 _ hy)) h2).2 x h3)
    ·cases h2
   ·cases h2
theorem vL (hr:iR E rec)(ctx:List Yc):∀(l:List O) (L:cK) (H:aa) (res:List (OE×aa)),fb ctx H→gA rec ctx l L H=some res→Good E (.ops l (lk L)) H res:=by
 intro l
 induction l with
 | nil =>
  intro L H res hc h
  cases h
  exact⟨.nil ⟨_,List.mem_singleton.2 rfl,rfl,rfl⟩,fun x hx=>by cases List.mem_singleton.1 hx;exact bp.refl _⟩
 | cons o l ih =>
  intro L H res hc h
  obtain⟨d,op,g,s⟩:=o
  unfold gA at h
  simp only at h
  split at h
  ·rename_i hw
   split at h
   ·rename_i b
    split at h
    ·rename_i v H' he
     rw[sS]at he
     split at h
     ·rename_i hs
      have hp:=sP he
      obtain⟨g1,g2⟩:=ih _ _ _ (hc.mono hp) h
      rw[eT]at g1
      exact⟨.op hw he (eJ hs) g1,fun x hx=>hp.trans (g2 x hx)⟩
     ·cases h
    ·split at h
     ·rename_i x hx
      have hb:b=.gL x:=by
       unfold AD at hx;split at hx<;>cases hx;rfl
      subst hb
      split at h
      ·rename_i r hn
       obtain⟨bi,bb,es,ix,cur,h1,h2,h3,h4⟩:=vK hn
       refine⟨.gL hw h1 h2 (fun t H' ht=>?_) (fun t H' ht=>?_),fun y hy=>?_⟩
       ·obtain⟨r2,k1,_⟩:=aD h _ (h3 t H' ht)
        simp only at k1
        split at k1
        ·rename_i hs;exact eJ hs
        ·cases k1
       ·obtain⟨r2,k1,k2⟩:=aD h _ (h3 t H' ht)
        simp only at k1
        split at k1
        ·have:=(ih _ _ _ (hc.mono (h4 _ (h3 t H' ht))) k1).1
         rw[eT]at this
         exact this.use (bJ.sub k2)
        ·cases k1
       ·obtain⟨p,hp,r2,k1,k2⟩:=aY h y hy
        split at k1
        ·exact(h4 p hp).trans ((ih _ _ _ (hc.mono (h4 p hp)) k1).2 y k2)
        ·cases k1
      ·cases h
     ·split at h
      ·rename_i hn
       obtain⟨neg,x,y,rfl,rfl,rfl,h1,h2⟩:=vI hn
       refine⟨.pS rfl (fun t=>?_) h1 h2 rfl,fun z hz=>?_⟩
       ·obtain⟨r2,k1,k2⟩:=aD h t (by cases t<;>simp)
        have:=(ih _ _ _ hc k1).1
        rw[eT]at this
        exact this.use (bJ.sub k2)
       ·obtain⟨t,_,r2,k1,k2⟩:=aY h z hz
        exact(ih _ _ _ hc k1).2 z k2
      ·cases h
   ·obtain⟨M,m1,m2,m3,m4⟩:=jY hr hc ih h
    exact⟨.call M hw m1 m2 m3,m4⟩
   ·rename_i x az
    split at h
    ·rename_i hf
     obtain⟨M,m1,m2,m3,m4⟩:=jY hr hc ih h
     exact⟨.a6 M hw hf m1 m2 m3,m4⟩
    ·rename_i b hf
     split at h
     ·rename_i y hy
      obtain⟨GX,rfl⟩:=sZ hy
      unfold AE at h
      split at h
      ·rename_i aB
       simp only[Bool.and_eq_true,decide_eq_true_eq]at aB
       obtain⟨GY,hlen⟩:=aB
       obtain⟨st,pp,hb⟩:=hc y GX
       obtain⟨n1,R1,Dw,a1,c1,jr⟩:=mq GY
       rw[hb]at jr;cases jr
       cases h1:rec (.code y.bf (ml y.L y.ps (az.map (X.ev (lk L))))) ctx H with
       | none=>rw[h1]at h;cases h
       | some r1 =>
        rw[h1]at h
        obtain⟨g1,g2⟩:=hr _ _ _ _ hc h1
        simp only[JE.j,wP]at g1
        have mid:∀L1 H1,(OE.ex .normal L1,H1)∈r1→H1[y.b]?=some (.loop .ready none y.n (lk y.L) y.ps y.bf y.body)∧∃r2,rec (.code y.body L1) ctx (H1.set y.b (.loop .busy none y.n (lk y.L) y.ps y.bf y.body))=some r2∧Good E (.code y.body (lk L1)) (H1.set y.b (.loop .busy none y.n (lk y.L) y.ps y.bf y.body)) r2:=by
         intro L1 H1 hm
         obtain⟨rk,k1,_⟩:=aD h _ hm
         simp only at k1
         split at k1
         ·rename_i Dy
          obtain⟨FI,IH,e1⟩:=g2 _ hm _ _ _ _ _ _ _ _ hb
          obtain⟨n1,R1,Dw,a1,c1,jr⟩:=mq Dy
          rw[e1]at jr;cases jr
          refine⟨e1,?_⟩
          cases h2:rec (.code y.body L1) ctx (H1.set y.b (.loop .busy none y.n (lk y.L) y.ps y.bf y.body))with
          | none=>rw[h2]at k1;cases k1
          | some r2=>exact⟨r2,rfl,hr _ _ _ _ ((hc.mono (g2 _ hm)).mono (bp.oA _ _ e1)) h2⟩
         ·cases k1
        have norm:∀x∈r1,∃L1,x.1=.ex .normal L1:=by
         rintro⟨o1,H1⟩ hx
         obtain⟨rk,k1,_⟩:=aD h _ hx
         simp only at k1
         split at k1
         ·exact⟨_,rfl⟩
         ·cases k1
        have last:∀L1 H1 r2,(OE.ex .normal L1,H1)∈r1→rec (.code y.body L1) ctx (H1.set y.b (.loop .busy none y.n (lk y.L) y.ps y.bf y.body))=some r2→∀o2 H2,(o2,H2)∈r2→H2[y.b]?=some (.loop .busy none y.n (lk y.L) y.ps y.bf y.body)∧bp H H2∧∃(e:Ex) (L2:cK),o2=.ex e L2 ∧
          ∃(t:Bool) (st:pM) (pe:Option Ex),((e=.normal∧t=true∧st=.ready∧pe=none)∨(e≠.normal∧t=false∧st=.done∧pe=some e))∧fS (lk L) (H2.set y.b (.loop st pe y.n (lk y.L) y.ps y.bf y.body)) s=true∧∃r3,gA rec ctx l (jl L d (.bool t)) (H2.set y.b (.loop st pe y.n (lk y.L) y.ps y.bf y.body))=some r3∧∀z∈r3,z∈res:=by
         intro L1 H1 r2 hm h2 o2 H2 nW
         obtain⟨e1,II,mI,g3,g4⟩:=mid L1 H1 hm
         rw[h2]at mI;cases mI
         obtain⟨rk,k1,k2⟩:=aD h _ hm
         simp only at k1
         split at k1
         ·rw[h2]at k1
          obtain⟨rj,j1,j2⟩:=aD k1 _ nW
          simp only at j1
          have s0:=g4 _ nW
          have GZ:(H1.set y.b (.loop .busy none y.n (lk y.L) y.ps y.bf y.body))[y.b]?=some (.loop .busy none y.n (lk y.L) y.ps y.bf y.body):=by rw[List.getElem?_set_self (List.getElem?_eq_some_iff.1 e1).1]
          obtain⟨IJ,IK,e2⟩:=s0 _ _ _ _ _ _ _ _ GZ
          split at j1
          ·rename_i nE
           obtain⟨n1,R1,Dw,a1,c1,jr⟩:=vJ nE
           rw[e2]at jr;cases jr
           refine⟨e2,((g2 _ hm).trans (bp.oA _ _ e1)).trans s0,?_⟩
           split at j1
           ·rename_i L2
            split at j1
            ·rename_i hs
             exact⟨.normal,L2,rfl,true,.ready,none,.inl ⟨rfl,rfl,rfl,rfl⟩,hs,rj,j1,fun z hz=>k2 z (j2 z hz)⟩
            ·cases j1
           ·rename_i e L2 aF
            split at j1
            ·rename_i hs
             exact⟨e,L2,rfl,false,.done,some e,.inr ⟨fun hh=>aF hh,rfl,rfl,rfl⟩,hs,rj,j1,fun z hz=>k2 z (j2 z hz)⟩
            ·cases j1
           ·cases j1
          ·cases j1
         ·cases k1
        let M:Out→aa→Prop:=fun o H2=>∃L1 H1 r2,(OE.ex .normal L1,H1)∈r1∧rec (.code y.body L1) ctx (H1.set y.b (.loop .busy none y.n (lk y.L) y.ps y.bf y.body))=some r2∧bJ r2 o H2
        have fin:∀o H2,M o H2→∃e R2,o=.ex e R2∧H2[y.b]?=some (.loop .busy none y.n (lk y.L) y.ps y.bf y.body)∧bp H H2 ∧
          ∃(t:Bool) (st:pM) (pe:Option Ex),((e=.normal∧t=true∧st=.ready∧pe=none)∨(e≠.normal∧t=false∧st=.done∧pe=some e))∧fS (lk L) (H2.set y.b (.loop st pe y.n (lk y.L) y.ps y.bf y.body)) s=true∧W E (.ops l (ay (lk L) d (.bool t))) (H2.set y.b (.loop st pe y.n (lk y.L) y.ps y.bf y.body)) (bJ res):=by
         rintro o H2⟨L1,H1,r2,hm,h2,⟨o2,G0⟩,nW,ho,rfl⟩
         obtain⟨e2,s0,e,L2,rfl,t,st,pe,dG,hs,r3,h3,h4⟩:=last L1 H1 r2 hm h2 o2 G0 nW
         cases ho
         refine⟨e,lk L2,rfl,e2,s0,t,st,pe,dG,hs,?_⟩
         have:=(ih _ _ _ ((hc.mono s0).mono (bp.oA st pe e2)) h3).1
         rw[eT]at this
         exact this.use (bJ.sub h4)
        refine⟨.gV (bJ r1) M hw hf hb (by simpa using hlen) g1 ?_ ?_ ?_ ?_ ?_ ?_ ?_,fun x hx=>?_⟩
        ·rintro o H'⟨⟨o1,H1⟩,hm,ho,rfl⟩
         obtain⟨L1,rfl⟩:=norm _ hm
         cases ho
         exact⟨⟨_,rfl⟩,(mid _ _ hm).1⟩
        ·rintro R1 H1⟨⟨o1,G1⟩,hm,ho,rfl⟩
         obtain⟨L1,rfl,rfl⟩:=kI ho
         obtain⟨e1,r2,h2,g3,g4⟩:=mid _ _ hm
         exact g3.use fun o H2 hp=>⟨L1,G1,r2,hm,h2,hp⟩
        ·intro o H2 hM
         obtain⟨e,R2,_,e2,_⟩:=fin o H2 hM
         exact e2
        ·intro R2 H2 hM
         obtain⟨e,Dz,ho,e2,s0,t,st,pe,dG,hs,hW⟩:=fin _ H2 hM
         cases ho
         rcases dG with⟨_,rfl,rfl,rfl⟩|⟨aF,_⟩
         ·exact eJ hs
         ·exact absurd rfl aF
        ·intro R2 H2 hM
         obtain⟨e,Dz,ho,e2,s0,t,st,pe,dG,hs,hW⟩:=fin _ H2 hM
         cases ho
         rcases dG with⟨_,rfl,rfl,rfl⟩|⟨aF,_⟩
         ·exact hW
         ·exact absurd rfl aF
        ·intro e R2 H2 hM aF
         obtain⟨e',Dz,ho,e2,s0,t,st,pe,dG,hs,hW⟩:=fin _ H2 hM
         cases ho
         rcases dG with⟨he,_⟩|⟨_,rfl,rfl,rfl⟩
         ·exact absurd he aF
         ·exact eJ hs
        ·intro e R2 H2 hM aF
         obtain⟨e',Dz,ho,e2,s0,t,st,pe,dG,hs,hW⟩:=fin _ H2 hM
         cases ho
         rcases dG with⟨he,_⟩|⟨_,rfl,rfl,rfl⟩
         ·exact absurd he aF
         ·exact hW
        ·obtain⟨⟨o1,H1⟩,hm,rk,k1,k2⟩:=aY h x hx
         obtain⟨L1,he⟩:=norm _ hm
         cases he
         obtain⟨e1,r2,h2,g3,g4⟩:=mid _ _ hm
         simp only at k1
         split at k1
         ·rw[h2]at k1
          obtain⟨⟨o2,H2⟩,nW,rj,j1,j2⟩:=aY k1 x k2
          obtain⟨e2,s0,e,L2,rfl,t,st,pe,dG,hs,r3,h3,h4⟩:=last L1 H1 r2 hm h2 o2 H2 nW
          have Ci:=s0.trans (bp.oA st pe e2)
          refine Ci.trans ((ih _ _ _ (hc.mono Ci) h3).2 x ?_)
          simp only at j1
          split at j1
          ·rcases dG with⟨rfl,rfl,rfl,rfl⟩|⟨aF,rfl,rfl,rfl⟩
           ·simp only[hs,if_true]at j1
            rw[h3]at j1;cases j1;exact j2
           ·cases e with
            | normal=>exact absurd rfl aF
            | _ =>
             simp only[hs,if_true]at j1
             rw[h3]at j1;cases j1;exact j2
          ·cases j1
         ·cases k1
      ·cases h
     ·cases h
    ·cases h
  ·rename_i hw
   obtain⟨g1,g2⟩:=ih _ _ _ hc h
   rw[eT]at g1
   exact⟨.no (by simpa using hw) g1,g2⟩
theorem s7 (hr:iR E rec)(ctx:List Yc):∀(c:C) (L:cK) (H:aa) (res:List (OE×aa)),fb ctx H→cL rec ctx c L H=some res→Good E (.code c (lk L)) H res:=by
 intro c
 induction c with
 | skip=>intro L H res hc h;cases h;exact⟨.skip ⟨_,List.mem_singleton.2 rfl,rfl,rfl⟩,fun x hx=>by cases List.mem_singleton.1 hx;exact bp.refl _⟩
 | exit id=>intro L H res hc h;cases h;exact⟨.exit ⟨_,List.mem_singleton.2 rfl,rfl,rfl⟩,fun x hx=>by cases List.mem_singleton.1 hx;exact bp.refl _⟩
 | ret=>intro L H res hc h;cases h;exact⟨.ret ⟨_,List.mem_singleton.2 rfl,rfl,rfl⟩,fun x hx=>by cases List.mem_singleton.1 hx;exact bp.refl _⟩
 | ops l =>
  intro L H res hc h
  obtain⟨g1,g2⟩:=vL hr ctx l L H res hc h
  exact⟨.ze g1,g2⟩
 | seq a b wS AG =>
  intro L H res hc h
  unfold cL at h
  cases h1:cL rec ctx a L H with
  | none=>rw[h1]at h;cases h
  | some r1 =>
   rw[h1]at h
   obtain⟨g1,g2⟩:=wS _ _ _ hc h1
   refine⟨.seq (bJ r1) g1 ?_ ?_,fun x hx=>?_⟩
   ·rintro R' H'⟨⟨o,H2⟩,hm,ho,rfl⟩
    obtain⟨L',rfl,rfl⟩:=kI ho
    obtain⟨r2,k1,k2⟩:=aD h _ hm
    exact(AG _ _ _ (hc.mono (g2 _ hm)) k1).1.use (bJ.sub k2)
   ·rintro o H'⟨⟨o1,H2⟩,hm,rfl,rfl⟩ aF
    obtain⟨r2,k1,k2⟩:=aD h _ hm
    simp only at k1
    split at k1
    ·exact absurd rfl (aF _)
    ·cases k1;exact⟨_,k2 _ (List.mem_singleton.2 rfl),rfl,rfl⟩
   ·obtain⟨⟨o1,H2⟩,hm,r2,k1,k2⟩:=aY h x hx
    simp only at k1
    split at k1
    ·exact(g2 _ hm).trans ((AG _ _ _ (hc.mono (g2 _ hm)) k1).2 x k2)
    ·cases k1;cases List.mem_singleton.1 k2;exact g2 _ hm
 | cond x a b wS AG =>
  intro L H res hc h
  unfold cL at h
  split at h
  ·rename_i hx
   obtain⟨g1,g2⟩:=wS _ _ _ hc h
   exact⟨.cond true hx (by rw[if_pos rfl];exact g1),g2⟩
  ·rename_i hx
   obtain⟨g1,g2⟩:=AG _ _ _ hc h
   exact⟨.cond false hx (by rw[if_neg (by simp)];exact g1),g2⟩
  ·cases h
 | block id a wS =>
  intro L H res hc h
  unfold cL at h
  cases h1:cL rec ctx a L H with
  | none=>rw[h1]at h;cases h
  | some r1 =>
   rw[h1]at h
   obtain⟨g1,g2⟩:=wS _ _ _ hc h1
   refine⟨.block (bJ r1) g1 ?_ ?_,fun x hx=>?_⟩
   ·rintro R' H'⟨⟨o,H2⟩,hm,ho,rfl⟩
    obtain⟨L',rfl,rfl⟩:=kI ho
    obtain⟨r2,k1,k2⟩:=aD h _ hm
    simp only[if_true]at k1
    cases k1
    exact⟨_,k2 _ (List.mem_singleton.2 rfl),rfl,rfl⟩
   ·rintro o H'⟨⟨o1,H2⟩,hm,rfl,rfl⟩ aF
    obtain⟨r2,k1,k2⟩:=aD h _ hm
    simp only at k1
    split at k1
    ·split at k1
     ·rename_i e;subst e;exact absurd rfl (aF _)
     ·cases k1;exact⟨_,k2 _ (List.mem_singleton.2 rfl),rfl,rfl⟩
    ·cases k1;exact⟨_,k2 _ (List.mem_singleton.2 rfl),rfl,rfl⟩
   ·obtain⟨⟨o1,H2⟩,hm,r2,k1,k2⟩:=aY h x hx
    simp only at k1
    have hp:=g2 _ hm
    split at k1
    ·split at k1
     ·cases k1;cases List.mem_singleton.1 k2;exact hp
     ·cases k1;cases List.mem_singleton.1 k2;exact hp
    ·cases k1;cases List.mem_singleton.1 k2;exact hp
 | loop a wS =>
  intro L H res hc h
  unfold cL at h
  cases h1:cL rec ctx a L H with
  | none=>rw[h1]at h;cases h
  | some r1 =>
   rw[h1]at h
   obtain⟨g1,g2⟩:=wS _ _ _ hc h1
   refine⟨.loop (bJ r1) g1 ?_ ?_,fun x hx=>?_⟩
   ·rintro R' H'⟨⟨o,H2⟩,hm,ho,rfl⟩
    obtain⟨L',rfl,rfl⟩:=kI ho
    obtain⟨r2,k1,k2⟩:=aD h _ hm
    exact(hr _ _ _ _ (hc.mono (g2 _ hm)) k1).1.use (bJ.sub k2)
   ·rintro o H'⟨⟨o1,H2⟩,hm,rfl,rfl⟩ aF
    obtain⟨r2,k1,k2⟩:=aD h _ hm
    simp only at k1
    split at k1
    ·exact absurd rfl (aF _)
    ·cases k1;exact⟨_,k2 _ (List.mem_singleton.2 rfl),rfl,rfl⟩
   ·obtain⟨⟨o1,H2⟩,hm,r2,k1,k2⟩:=aY h x hx
    simp only at k1
    split at k1
    ·exact(g2 _ hm).trans ((hr _ _ _ _ (hc.mono (g2 _ hm)) k1).2 x k2)
    ·cases k1;cases List.mem_singleton.1 k2;exact g2 _ hm
 | bo n x ps bf body wS AG =>
  intro L H res hc h
  unfold cL at h
  split at h
  ·rename_i f cs hf
   have hg:(H++[B.kS,.loop .ready none n (lk L) ps bf body])[H.length+1]?=some (.loop .ready none n (lk L) ps bf body):=by
    rw[List.getElem?_append_right (by omega)]
    have:H.length+1-H.length=1:=by omega
    rw[this];rfl
   have ur:fb (⟨H.length+1,n,L,ps,bf,body⟩ :: ctx) (H++[B.kS,.loop .ready none n (lk L) ps bf body]):=fun y hy=>by
    rcases List.mem_cons.1 hy with rfl|hy
    ·exact⟨_,_,hg⟩
    ·exact hc.mono (bp.app _ _) y hy
   cases h1:rec (.call f (.gV (H.length+1) :: cs)) (⟨H.length+1,n,L,ps,bf,body⟩ :: ctx) (H++[.kS,.loop .ready none n (lk L) ps bf body])with
   | none=>rw[h1]at h;cases h
   | some r1 =>
    rw[h1]at h
    obtain⟨g1,g2⟩:=hr _ _ _ _ ur h1
    have key:∀v H',(OE.val v,H')∈r1→∃st bz,st≠.busy∧bz≠some .normal∧H'[H.length+1]?=some (.loop st bz n (lk L) ps bf body)∧(OE.ex (kc bz) (L.set n (fB (L.get n) H.length)),H'.set (H.length+1) .dead)∈res:=by
     intro v H' hm
     obtain⟨r2,k1,k2⟩:=aD h _ hm
     simp only at k1
     obtain⟨iV,G2,e1⟩:=g2 _ hm _ _ _ _ _ _ _ _ hg
     rw[e1]at k1
     simp only at k1
     split at k1
     ·rename_i aB
      cases k1
      refine⟨iV,G2,aB.1,fun e=>?_,e1,k2 _ (List.mem_singleton.2 rfl)⟩
      rw[e]at aB;exact absurd aB.2 (by simp[oE])
     ·cases k1
    refine⟨.bo (bJ r1) hf g1 ?_,fun y hy=>?_⟩
    ·rintro v H'⟨⟨o,H2⟩,hm,ho,rfl⟩
     cases kH ho
     obtain⟨st,bz,k1,k2,k3,k4⟩:=key v H2 hm
     refine⟨st,bz,k1,k2,k3,_,k4,?_,rfl⟩
     simp only[OE.out]
     rw[nu]
    ·obtain⟨⟨o,H2⟩,hm,r2,k1,k2⟩:=aY h y hy
     simp only at k1
     split at k1
     ·split at k1
      ·split at k1
       ·cases k1;cases List.mem_singleton.1 k2
        intro b st p n R ps a c hb
        have aC:=(List.getElem?_eq_some_iff.1 hb).1
        obtain⟨iV,p',cU⟩:=((bp.app _ _).trans (g2 _ hm)) b st p n R ps a c hb
        exact⟨iV,p',by rw[List.getElem?_set_ne (by omega)];exact cU⟩
       ·cases k1
      ·cases k1
     ·cases k1
  ·cases h
theorem mr:∀(bs:List Nat) (H:aa),(∀b∈bs,H[b]?=some .kS)→bs.Nodup→bp H (kill H bs)
 | [],H,_,_=>bp.refl _
 | b :: bs,H,h,hn=>by
  have hb:=h b List.mem_cons_self
  have v3:=List.nodup_cons.1 hn
  refine(bp.set .dead hb (by intros;simp)).trans (mr bs _ (fun b' cU=>?_) v3.2)
  rw[List.getElem?_set_ne (by rintro rfl;exact v3.1 cU)]
  exact h b' (List.mem_cons_of_mem _ cU)
theorem yC {H:aa}{b:Nat}(h:yA H b=true):H[b]?=some .kS:=by
 unfold yA at h
 split at h
 ·rename_i hb;exact hb
 ·cases h
theorem s8 (hr:iR E rec){ctx:List Yc}{f:Nat}{az:List T}{H:aa}{res:List (OE×aa)}(hc:fb ctx H)(h:sW E.fn rec ctx f az H=some res):Good E (.call f az) H res∧∀x∈res,∃v,x.1=.val v:=by
 unfold sW at h
 split at h
 ·rename_i fn hf
  split at h
  ·rename_i hn
   cases h1:rec (.code fn.body (yv az)) ctx H with
   | none=>rw[h1]at h;cases h
   | some r1 =>
    rw[h1]at h
    obtain⟨g1,g2⟩:=hr _ _ _ _ hc h1
    simp only[JE.j,Dx]at g1
    have nv:∀o H',(o,H')∈r1→∃e L',o=.ex e L'∧(e=.normal∨e=.ret):=by
     intro o H' hm
     obtain⟨r2,k1,_⟩:=aD h _ hm
     simp only at k1
     split at k1
     ·cases k1
     ·cases k1
     ·rename_i e L' aF
      refine⟨e,L',rfl,?_⟩
      cases e with
      | normal=>exact .inl rfl
      | ret=>exact .inr rfl
      | exit id=>exact absurd rfl (aF id)
    cases hR:fn.body.eg with
    | false =>
     have key:∀e L' H',(OE.ex e L',H')∈r1→∃v,fC (lk L') H' fn.res=some v∧(OE.val v,H')∈res:=by
      intro e L' H' hm
      obtain⟨r2,k1,k2⟩:=aD h _ hm
      simp only at k1
      split at k1
      ·cases k1
      ·cases k1
      ·rename_i e' L2 aF he
       cases he
       rw[hR]at k1
       simp only[Bool.false_eq_true,if_false]at k1
       split at k1
       ·rename_i v hv
        cases k1
        exact⟨v,hv,k2 _ (List.mem_singleton.2 rfl)⟩
       ·cases k1
     refine⟨⟨.fn (bJ r1) hf hR hn g1 ?_,fun x hx=>?_⟩,fun x hx=>?_⟩
     ·rintro o H'⟨⟨o1,H2⟩,hm,rfl,rfl⟩
      obtain⟨e,L',rfl,he⟩:=nv _ _ hm
      obtain⟨v,k1,k2⟩:=key _ _ _ hm
      refine⟨lk L',?_,v,k1,_,k2,rfl,rfl⟩
      rcases he with rfl|rfl
      ·exact .inl rfl
      ·exact .inr rfl
     ·obtain⟨⟨o1,H2⟩,hm,r2,k1,k2⟩:=aY h x hx
      obtain⟨e,L',rfl,he⟩:=nv _ _ hm
      have hp:=g2 _ hm
      simp only at k1
      split at k1
      ·cases k1
      ·cases k1
      ·rw[hR]at k1
       simp only[Bool.false_eq_true,if_false]at k1
       split at k1
       ·cases k1;cases List.mem_singleton.1 k2;exact hp
       ·cases k1
     ·obtain⟨⟨o1,H2⟩,hm,r2,k1,k2⟩:=aY h x hx
      obtain⟨e,L',rfl,he⟩:=nv _ _ hm
      simp only at k1
      split at k1
      ·cases k1
      ·cases k1
      ·rw[hR]at k1
       simp only[Bool.false_eq_true,if_false]at k1
       split at k1
       ·cases k1;cases List.mem_singleton.1 k2;exact⟨_,rfl⟩
       ·cases k1
    | true =>
     have key:∀e L' H',(OE.ex e L',H')∈r1→∃bs v,marks (L'.get fn.n)=some bs∧bs.Nodup∧(∀b∈bs,H'[b]?=some .kS)∧fC (lk L') (kill H' bs) fn.res=some v∧(OE.val v,kill H' bs)∈res:=by
      intro e L' H' hm
      obtain⟨r2,k1,k2⟩:=aD h _ hm
      simp only at k1
      split at k1
      ·cases k1
      ·cases k1
      ·rename_i e' L2 aF he
       cases he
       rw[hR]at k1
       simp only[if_true]at k1
       split at k1
       ·rename_i bs nE
        split at k1
        ·rename_i aB
         simp only[Bool.and_eq_true,decide_eq_true_eq]at aB
         split at k1
         ·rename_i v hv
          cases k1
          exact⟨bs,v,nE,aB.1,fun b hb=>yC (List.all_eq_true.1 aB.2 b hb),hv,k2 _ (List.mem_singleton.2 rfl)⟩
         ·cases k1
        ·cases k1
       ·cases k1
     have rest:∀x∈res,bp H x.2∧∃v,x.1=.val v:=by
      intro x hx
      obtain⟨⟨o1,H2⟩,hm,r2,k1,k2⟩:=aY h x hx
      obtain⟨e,L',rfl,he⟩:=nv _ _ hm
      obtain⟨bs,v,q1,q2,q3,q4,q5⟩:=key _ _ _ hm
      simp only at k1
      split at k1
      ·cases k1
      ·cases k1
      ·rename_i e' L2 aF v5
       cases v5
       rw[hR,q1]at k1
       simp only[if_true]at k1
       split at k1
       ·rw[q4]at k1
        cases k1;cases List.mem_singleton.1 k2
        exact⟨(g2 _ hm).trans (mr bs H2 q3 q2),v,rfl⟩
       ·cases k1
     refine⟨⟨.B3 (bJ r1) hf hn g1 ?_,fun x hx=>(rest x hx).1⟩,fun x hx=>(rest x hx).2⟩
     rintro o H'⟨⟨o1,H2⟩,hm,rfl,rfl⟩
     obtain⟨e,L',rfl,he⟩:=nv _ _ hm
     obtain⟨bs,v,q1,q2,q3,q4,q5⟩:=key _ _ _ hm
     refine⟨lk L',bs,?_,q1,q2,q3,v,q4,_,q5,rfl,rfl⟩
     rcases he with rfl|rfl
     ·exact .inl rfl
     ·exact .inr rfl
  ·cases h
 ·cases h
theorem vM {v:T}{b:Nat}(h:yB v=some b):hG b v:=by
 unfold yB at h
 split at h
 ·cases h;rfl
 ·rename_i vs
  obtain⟨x,hx,h1⟩:=List.exists_of_findSome?_eq_some h
  split at h1
  ·cases h1;exact⟨_,_,_,hx⟩
  ·cases h1
 ·cases h
theorem jZ:∀{r r':List (OE×aa)},kG r=some r'→(∀x∈r,∃v b cs,x.1=.val v∧hG b v∧x.2[b]?=some (.cells cs)∧(OE.val (mH b cs v),x.2.set b .dead)∈r')∧∀y∈r',∃x∈r,∃v,y.1=.val v∧bp x.2 y.2
 | [],_,h=>by cases h;exact⟨fun x hx=>absurd hx List.not_mem_nil,fun x hx=>absurd hx List.not_mem_nil⟩
 | x :: l,r',h=>by
  unfold kG at h
  split at h
  ·rename_i y m h1 h2
   cases h
   obtain⟨i1,i2⟩:=jZ h2
   have zu:∃v b cs,x.1=.val v∧hG b v∧x.2[b]?=some (.cells cs)∧(OE.val (mH b cs v),x.2.set b .dead)=y:=by
    unfold AF at h1
    split at h1
    ·rename_i v hv
     split at h1
     ·rename_i b hb
      split at h1
      ·rename_i cs kN
       cases h1
       exact⟨v,b,cs,hv,vM hb,kN,rfl⟩
      ·cases h1
     ·cases h1
    ·cases h1
   obtain⟨v,b,cs,k1,k2,k3,k4⟩:=zu
   refine⟨fun z hz=>?_,fun z hz=>?_⟩
   ·rcases List.mem_cons.1 hz with rfl|hz
    ·exact⟨v,b,cs,k1,k2,k3,by rw[k4];exact List.mem_cons_self⟩
    ·obtain⟨v,b,cs,a1,a2,a3,a4⟩:=i1 z hz
     exact⟨v,b,cs,a1,a2,a3,List.mem_cons_of_mem _ a4⟩
   ·rcases List.mem_cons.1 hz with rfl|hz
    ·rw[←k4];exact⟨x,List.mem_cons_self,_,rfl,bp.set _ k3 (by intros;simp)⟩
    ·obtain⟨w,hw,a⟩:=i2 z hz
     exact⟨w,List.mem_cons_of_mem _ hw,a⟩
  ·cases h
theorem oF {f:Nat}{az:List T}{H:aa}:∀(n:Nat) {r:List (OE×aa)},Good E (.call f az) H r→Good E (.call f az) H (vH n r)
 | 0,r,h=>h
 | n+1,r,h=>by
  unfold vH
  split
  ·rename_i r' hr
   obtain⟨i1,i2⟩:=jZ hr
   refine oF n ⟨.pF (bJ r) h.1 ?_,fun y hy=>?_⟩
   ·rintro o H'⟨x,hx,rfl,rfl⟩
    obtain⟨v,b,cs,a1,a2,a3,a4⟩:=i1 x hx
    exact⟨v,b,cs,by rw[a1];rfl,a2,a3,_,a4,rfl,rfl⟩
   ·obtain⟨x,hx,_,_,hp⟩:=i2 y hy
    exact(h.2 x hx).trans hp
  ·exact h
theorem s9 {nw:Nat→Nat}(hr:iR E rec):iR E (wR E.fn nw rec):=fun j ctx H res hc h=>by
 cases j with
 | code c L=>exact s7 hr ctx c L H res hc h
 | call f az =>
  have h:sX E.fn nw rec ctx f az H=some res:=h
  unfold sX at h
  split at h
  ·rename_i r eY
   cases h
   exact oF _ (s8 hr hc eY).1
  ·cases h
end
theorem ta (E:Env)(nw:Nat→Nat):∀n,iR E (run E.fn nw n)
 | 0=>fun j ctx H res hc h=>by cases h
 | n+1=>s9 (ta E nw n)
theorem W.closed {E:Env}{f:Nat}(nw:Nat→Nat)(n:Nat)(az:List T)(H:aa)(h:sY (run E.fn nw n (.call f az) [] H)=true):W E (.call f az) H (fun o _=>o=.val (.bool true)):=by
 cases h1:run E.fn nw n (.call f az) [] H with
 | none=>rw[h1]at h;cases h
 | some r =>
  rw[h1]at h
  refine(ta E nw n _ _ _ _ (fun y hy=>by cases hy) h1).1.use fun o H' ⟨x,hx,ho,_⟩=>?_
  have:=List.all_eq_true.1 h x hx
  split at this
  ·rename_i hv;rw[←ho,hv];rfl
  ·cases this
end Go.Rmp
end

section
namespace Go.Proofs.YtaplookbfhicoaaGreatDoor.Ir
open Go.Rmp
set_option maxRecDepth 100000
set_option maxHeartbeats 0
abbrev op (d:Nat)(b:Bo):O:=⟨some d,.b b,none,[]⟩
abbrev ef (b:Bo):O:=⟨none,.b b,none,[]⟩
abbrev cl (d f:Nat)(az:List X):O:=⟨some d,.call f az,none,[]⟩
abbrev sq (a b:C):C:=.seq a b
abbrev mv (d t:Nat):O:=⟨some d,.b (.al (.r t)),none,[]⟩
abbrev mt (d t g:Nat):O:=⟨some d,.b (.al (.r t)),some (g,true),[]⟩
abbrev mf (d t g:Nat):O:=⟨some d,.b (.al (.r t)),some (g,false),[]⟩
abbrev gt (d g:Nat)(b:Bo):O:=⟨some d,.b b,some (g,true),[]⟩
abbrev gf (d g:Nat)(b:Bo):O:=⟨some d,.b b,some (g,false),[]⟩
abbrev l1 (d a:Nat):O:=⟨some d,.b (.ld 1 false (.r a)),none,[]⟩
abbrev ln (d n a:Nat):O:=⟨some d,.b (.ld n true (.r a)),none,[]⟩
abbrev ia (d n a b:Nat):O:=⟨some d,.b (.ja n (.r a) (.r b)),none,[]⟩
abbrev fa (d n a:Nat):O:=⟨some d,.b (.ny n (.r a)),none,[]⟩
abbrev se (n a b:Nat):O:=⟨none,.b (.st n (.r a) (.r b)),none,[]⟩
abbrev nc (d a:Nat):O:=⟨some d,.b (.ka (.r a)),none,[]⟩
abbrev b2 (d:Nat)(o:BinOp)(a b:Nat):O:=⟨some d,.b (.bin o (.r a) (.r b)),none,[]⟩
abbrev xt (d n a:Nat):O:=⟨some d,.b (.ext n (.r a)),none,[]⟩
abbrev dw (d a:Nat):O:=⟨some d,.b (.len .sl (.r a)),none,[]⟩
abbrev so (l:List O)(c:C):C:=.seq (.ops l) c
abbrev cx (t i:Nat):C:=.cond (.r t) .skip (.exit i)
def G3:An:=⟨[(7,1)],[]⟩
def DA:Go.Rmp.Fn:=⟨67,2,[.t 4],so [op 4 (.al (.c (.bool false)))]<|sq (so [cl 12 7 [],op 13 (.un .not (.r 12))]<|.cond (.r 13) (so [op 4 (.al (.c (.bool false)))]<|.ret) (.skip))<|so [cl 14 8 [],mv 5 14]<|so [cl 15 9 [],mv 6 15]<|sq (so [mv 16 5,op 17 (.eK false .ptr (.r 16) (.c .aE)),mv 18 17,mf 19 6 18,gf 20 18 (.eK false .ptr (.r 19) (.c .aE)),op 21 (.pick (.r 18) (.c (.bool true)) (.r 20))]<|.cond (.r 21) (so [op 4 (.al (.c (.bool false)))]<|.ret) (.skip))<|so [mv 22 5,op 23 (.xi 1 [.int .u8 0] [(0,(.c (.int .u8 120)))]),op 24 (.vR true (.r 23)),cl 25 10 [.r 22,(.c (.str ⟨#[115,110,97,112]⟩)),.r 24]]<|so [mv 26 5,cl 27 11 [.r 26,(.c (.int .i64 0)),(.c (.int .i64 0))]]<|so [mv 28 5,mv 7 28]<|so [mv 29 6,mv 8 29]<|sq (so [mv 30 1,op 31 (.bin .and (.r 30) (.c (.int .i64 3)))]<|.block 0 (so [op 36 (.bin .eql (.r 31) (.c (.int .i64 0))),mv 35 36]<|.cond (.r 35) (.ops [op 7 (.al (.c .aE))]) (so [op 38 (.bin .eql (.r 31) (.c (.int .i64 1))),mv 37 38]<|.cond (.r 37) (.ops [op 8 (.al (.c .aE))]) (so [op 40 (.bin .eql (.r 31) (.c (.int .i64 2))),mv 39 40]<|.cond (.r 39) (.ops [mv 41 0,op 42 (.bin .and (.r 41) (.c (.int .i64 16777215))),op 43 (.bin .sub (.c (.int .i64 (-1))) (.r 42)),mv 0 43]) (.ops [mv 32 0,op 33 (.bin .and (.r 32) (.c (.int .i64 16777215))),op 34 (.bin .add (.c (.int .i64 1099511627776)) (.r 33)),mv 0 34])))))<|so [mv 45 7,mv 46 8,mv 47 0,cl 48 12 [.r 45,.r 46,.r 47],mv 44 48,xt 49 0 44,xt 50 1 44,xt 51 2 44,mv 9 49,mv 10 50,mv 11 51]<|so [mv 52 9,op 53 (.eK false .ptr (.r 52) (.c .aE)),mv 54 53,mt 55 10 54,gt 56 54 (.bin .eql (.r 55) (.c (.int .i64 0))),op 57 (.pick (.r 54) (.r 56) (.c (.bool false))),mv 58 57,mt 59 11 58,gt 60 58 (.bin .eql (.r 59) (.c (.int .i64 1))),op 61 (.pick (.r 58) (.r 60) (.c (.bool false))),mv 62 61,mt 63 5 62,⟨(some 64),.call 13 [.r 63],(some (62,true)),[]⟩,gt 65 62 (.un .not (.r 64)),op 66 (.pick (.r 62) (.r 65) (.c (.bool false))),mv 4 66]<|.ret⟩
def G4:An:=⟨[],[]⟩
def FM:Go.Rmp.Fn:=⟨73,0,[.t 0],so [op 0 (.al (.c (.bool false)))]<|so [cl 8 8 [],mv 1 8]<|so [cl 9 9 [],mv 2 9]<|sq (so [mv 10 1,op 11 (.eK false .ptr (.r 10) (.c .aE)),mv 12 11,mf 13 2 12,gf 14 12 (.eK false .ptr (.r 13) (.c .aE)),op 15 (.pick (.r 12) (.c (.bool true)) (.r 14))]<|.cond (.r 15) (so [op 0 (.al (.c (.bool false)))]<|.ret) (.skip))<|so [mv 16 2,op 17 (.build [.str ⟨#[]⟩,.str ⟨#[]⟩] [(0,1,(.c (.str ⟨#[97]⟩))),(1,1,(.c (.str ⟨#[49]⟩)))]),op 18 (.kL 1 [.str ⟨#[]⟩,.str ⟨#[]⟩] [(0,(.r 17))]),op 19 (.kL 1 [.str ⟨#[]⟩] [(0,(.c (.str ⟨#[97]⟩)))]),cl 20 17 [.r 16,(.c (.int .u64 65536)),.r 18,.r 19,(.c (.int .i64 0))]]<|so [mv 21 2,cl 22 18 [.r 21,(.c (.int .u64 65536)),(.c (.int .i64 0))]]<|so [mv 24 1,mv 25 2,cl 26 12 [.r 24,.r 25,(.c (.int .i64 0))],mv 23 26,xt 27 0 23,xt 28 1 23,xt 29 2 23,mv 3 27,mv 4 28,mv 5 29]<|sq (so [mv 30 3,op 31 (.eK false .ptr (.r 30) (.c .aE)),mv 32 31,mf 33 4 32,gf 34 32 (.bin .neq (.r 33) (.c (.int .i64 1))),op 35 (.pick (.r 32) (.c (.bool true)) (.r 34)),mv 36 35,mf 37 5 36,gf 38 36 (.bin .neq (.r 37) (.c (.int .i64 0))),op 39 (.pick (.r 36) (.c (.bool true)) (.r 38)),mv 40 39,mf 41 3 40,⟨(some 42),.call 19 [.r 41],(some (40,false)),[]⟩,gf 43 40 (.bin .neq (.r 42) (.c (.int .i64 0))),op 44 (.pick (.r 40) (.c (.bool true)) (.r 43)),mv 45 44,mf 46 3 45,⟨(some 47),.call 20 [.r 46],(some (45,false)),[]⟩,gf 48 45 (.bin .neq (.r 47) (.c (.str ⟨#[108,111,103,46,49]⟩))),op 49 (.pick (.r 45) (.c (.bool true)) (.r 48))]<|.cond (.r 49) (so [op 0 (.al (.c (.bool false)))]<|.ret) (.skip))<|so [mv 51 1,cl 52 21 [.r 51],mv 50 52,xt 53 0 50,xt 54 1 50,mv 6 53,mv 7 54]<|so [mv 55 7,op 56 (.bin .eql (.r 55) (.c (.int .i64 0))),mv 57 56,mt 58 6 57,gt 59 57 (.len .sl (.r 58)),gt 60 57 (.bin .eql (.r 59) (.c (.int .i64 1))),op 61 (.pick (.r 57) (.r 60) (.c (.bool false))),mv 62 61,mt 63 6 62,gt 64 62 (.ja 1 (.r 63) (.c (.int .i64 0))),gt 65 62 (.ld 1 false (.r 64)),gt 66 62 (.bin .eql (.r 65) (.c (.str ⟨#[115,110,97,112]⟩))),op 67 (.pick (.r 62) (.r 66) (.c (.bool false))),mv 68 67,mt 69 2 68,⟨(some 70),.call 22 [.r 69,(.c (.str ⟨#[97]⟩))],(some (68,true)),[]⟩,gt 71 68 (.bin .eql (.r 70) (.c (.int .u64 65536))),op 72 (.pick (.r 68) (.r 71) (.c (.bool false))),mv 0 72]<|.ret⟩
def G5:An:=⟨[],[]⟩
def DB:Go.Rmp.Fn:=⟨4,0,[.t 0],so [op 0 (.al (.c .aE))]<|so [op 1 (.nz),op 2 (.build [.b6,.bool false,.int .i64 0,.bool false,.int .i64 0,.int .i64 0] [(0,1,(.r 1))]),op 3 (.box (.r 2)),mv 0 3]<|.ret⟩
def G6:An:=⟨[],[]⟩
def DC:Go.Rmp.Fn:=⟨7,0,[.t 0],so [op 0 (.al (.c .aE))]<|so [op 1 (.nz),op 2 (.nz),op 3 (.nz),op 4 (.nz),op 5 (.build [.b6,.b6,.b6,.b6] [(0,1,(.r 1)),(1,1,(.r 2)),(2,1,(.r 3)),(3,1,(.r 4))]),op 6 (.box (.r 5)),mv 0 6]<|.ret⟩
def DD:An:=⟨[],[]⟩
def yD:Go.Rmp.Fn:=⟨72,3,[.t 6],so [op 6 (.al (.c (.int .i64 0)))]<|so [mv 10 0,mv 11 1,cl 12 23 [.r 10,.r 11],mv 9 12,xt 13 0 9,xt 14 1 9,mv 7 13,mv 8 14]<|sq (.block 0 (so [mv 16 8,op 17 (.bin .eql (.r 16) (.c (.int .i64 62))),mv 15 17]<|.cond (.r 15) (so [mv 18 8,mv 6 18]<|.ret) (so [mv 20 1,cl 21 24 [.r 20],op 22 (.un .not (.r 21)),mv 19 22]<|.cond (.r 19) (so [op 6 (.al (.c (.int .i64 1)))]<|.ret) (so [mv 24 8,op 25 (.bin .eql (.r 24) (.c (.int .i64 61))),mv 26 25,mt 27 0 26,gt 28 26 (.ka (.r 27)),gt 29 26 (.ny 0 (.r 28)),gt 30 26 (.ld 1 false (.r 29)),gt 31 26 (.len .map (.r 30)),gt 32 26 (.bin .geq (.r 31) (.c (.int .i64 16))),op 33 (.pick (.r 26) (.r 32) (.c (.bool false))),mv 23 33]<|.cond (.r 23) (so [op 6 (.al (.c (.int .i64 3)))]<|.ret) (so [mv 35 2,dw 36 35,op 37 (.bin .gtr (.r 36) (.c (.int .i64 0))),mv 38 37,mt 39 0 38,gt 40 38 (.ka (.r 39)),gt 41 38 (.ny 2 (.r 40)),gt 42 38 (.ld 1 false (.r 41)),gt 43 38 (.bin .gtr (.r 42) (.c (.int .i64 0))),op 44 (.pick (.r 38) (.r 43) (.c (.bool false))),mv 34 44]<|.cond (.r 34) (so [mv 45 0,nc 46 45,fa 47 2 46,l1 48 47,op 49 (.bin .sub (.r 48) (.c (.int .i64 1))),nc 50 45,fa 51 2 50,se 1 51 49]<|so [op 6 (.al (.c (.int .i64 60)))]<|.ret) (so [mv 53 8,op 54 (.bin .eql (.r 53) (.c (.int .i64 61))),mv 52 54]<|.cond (.r 52) (so [op 55 (.build [.sl .nil [],.int .i64 0] []),op 56 (.box (.r 55)),mv 7 56]<|.ops [mv 57 0,nc 58 57,fa 59 0 58,l1 60 59,mv 61 1,mv 62 7,ef (.oH (.sc .str) (.r 60) (.r 61) (.r 62))]) (.skip)))))))<|so [mv 63 7,mv 64 7,nc 65 64,fa 66 0 65,l1 67 66,mv 68 2,op 69 (.app 1 1 false (.r 67) (.r 68)),nc 70 63,fa 71 0 70,se 1 71 69]<|so [op 6 (.al (.c (.int .i64 0)))]<|.ret⟩
def DE:An:=⟨[],[]⟩
def yE:Go.Rmp.Fn:=⟨19,3,[],.ops [mv 6 0,mv 7 0,mv 8 0,mv 9 1,op 10 (.bin .geq (.r 9) (.c (.int .i64 0))),mv 11 1,mv 12 2,nc 13 6,fa 14 3 13,se 1 14 10,nc 15 7,fa 16 4 15,se 1 16 11,nc 17 8,fa 18 5 17,se 1 18 12]⟩
def DF:An:=⟨[],[]⟩
def pD:Go.Rmp.Fn:=⟨85,3,[.t 6,.t 7,.t 8],so [op 6 (.al (.c .aE)),op 7 (.al (.c (.int .i64 0))),op 8 (.al (.c (.int .i64 0)))]<|sq (so [mv 15 0,op 16 (.eK false .ptr (.r 15) (.c .aE)),mv 17 16,mf 18 1 17,gf 19 17 (.eK false .ptr (.r 18) (.c .aE)),op 20 (.pick (.r 17) (.c (.bool true)) (.r 19)),mv 21 20,mf 22 2 21,gf 23 21 (.bin .lss (.r 22) (.c (.int .i64 0))),op 24 (.pick (.r 21) (.c (.bool true)) (.r 23)),mv 25 24,mf 26 2 25,gf 27 25 (.bin .geq (.r 26) (.c (.int .i64 1099511627776))),op 28 (.pick (.r 25) (.c (.bool true)) (.r 27))]<|.cond (.r 28) (so [op 6 (.al (.c .aE)),op 7 (.al (.c (.int .i64 0))),op 8 (.al (.c (.int .i64 1)))]<|.ret) (.skip))<|so [mv 29 2,op 30 (.bin .add (.r 29) (.c (.int .i64 1))),mv 9 30]<|so [mv 32 9,mv 33 1,cl 34 25 [.r 32,.r 33],mv 31 34,xt 35 0 31,xt 36 1 31,mv 10 35,mv 11 36]<|sq (so [mv 37 11,op 38 (.bin .neq (.r 37) (.c (.int .i64 0)))]<|.cond (.r 38) (so [mv 39 11,op 6 (.al (.c .aE)),op 7 (.al (.c (.int .i64 0))),mv 8 39]<|.ret) (.skip))<|so [mv 41 0,cl 42 21 [.r 41],mv 40 42,xt 43 0 40,xt 44 1 40,mv 12 43,mv 11 44]<|sq (so [mv 45 11,op 46 (.bin .neq (.r 45) (.c (.int .i64 0)))]<|.cond (.r 46) (so [mv 47 11,op 6 (.al (.c .aE)),op 7 (.al (.c (.int .i64 0))),mv 8 47]<|.ret) (.skip))<|sq (so [mv 48 0,mv 49 12,mv 50 9,cl 51 27 [.r 50],op 52 (.kL 2 [.str ⟨#[]⟩] [(0,(.c (.str ⟨#[115,110,97,112,46,116,109,112]⟩))),(1,(.r 51))]),cl 53 26 [.r 48,.r 49,.r 52],mv 11 53]<|so [mv 54 11,op 55 (.bin .neq (.r 54) (.c (.int .i64 0)))]<|.cond (.r 55) (so [mv 56 11,op 6 (.al (.c .aE)),op 7 (.al (.c (.int .i64 0))),mv 8 56]<|.ret) (.skip))<|sq (so [mv 57 0,mv 58 10,cl 59 28 [.r 57,.r 58],mv 11 59]<|so [mv 60 11,op 61 (.bin .neq (.r 60) (.c (.int .i64 0)))]<|.cond (.r 61) (so [mv 62 11,op 6 (.al (.c .aE)),op 7 (.al (.c (.int .i64 0))),mv 8 62]<|.ret) (.skip))<|sq (so [mv 63 0,mv 64 12,mv 65 2,cl 66 27 [.r 65],op 67 (.kL 1 [.str ⟨#[]⟩] [(0,(.r 66))]),cl 68 26 [.r 63,.r 64,.r 67],mv 11 68]<|so [mv 69 11,op 70 (.bin .neq (.r 69) (.c (.int .i64 0)))]<|.cond (.r 70) (so [mv 71 11,op 6 (.al (.c .aE)),op 7 (.al (.c (.int .i64 0))),mv 8 71]<|.ret) (.skip))<|so [mv 73 0,mv 74 9,cl 75 27 [.r 74],cl 76 29 [.r 73,.r 75],mv 72 76,xt 77 0 72,xt 78 1 72,xt 79 2 72,mv 13 77,mv 14 78,mv 11 79]<|sq (so [mv 80 11,op 81 (.bin .neq (.r 80) (.c (.int .i64 0)))]<|.cond (.r 81) (so [mv 82 11,op 6 (.al (.c .aE)),op 7 (.al (.c (.int .i64 0))),mv 8 82]<|.ret) (.skip))<|so [mv 83 13,mv 84 9,mv 6 83,mv 7 84,op 8 (.al (.c (.int .i64 0)))]<|.ret⟩
def DG:An:=⟨[],[]⟩
def yF:Go.Rmp.Fn:=⟨7,1,[.t 2],so [op 2 (.al (.c (.bool false)))]<|so [mv 3 0,nc 4 3,fa 5 1 4,l1 6 5,mv 2 6]<|.ret⟩
def DH:An:=⟨[],[(8,[(0,true),(1,true),(2,true),(3,true),(4,true),(5,true),(6,true),(7,true),(8,true),(9,true),(10,false),(11,true)]),(12,[(0,true),(1,true),(2,true),(3,true),(4,true),(5,true),(6,true),(7,true),(8,true)]),(14,[(0,true),(1,true),(2,true),(3,true),(4,true),(6,true),(5,false),(7,true),(8,false)])]⟩
def AH:Go.Rmp.Fn:=⟨70,5,[.t 10,.t 11],so [op 10 (.al (.c (.bool false))),op 11 (.al (.c (.int .i64 0)))]<|sq (so [mv 19 1,mv 20 2,mv 21 3,cl 22 35 [.r 19,.r 20,.r 21],op 23 (.un .not (.r 22)),mv 24 23,mf 25 4 24,⟨(some 26),.call 36 [.r 25],(some (24,false)),[]⟩,gf 27 24 (.un .not (.r 26)),op 28 (.pick (.r 24) (.c (.bool true)) (.r 27))]<|.cond (.r 28) (so [op 10 (.al (.c (.bool false))),op 11 (.al (.c (.int .i64 1)))]<|.ret) (.skip))<|so [op 12 (.al (.c (.bool false)))]<|sq (so [mv 29 2,dw 30 29,op 31 (.al (.c (.int .i64 0)))]<|.block 0 (.loop (so [b2 32 .lss 31 30]<|sq (cx 32 0)<|sq (.block 1 (so [ia 33 2 29 31,ln 34 2 33,op 14 (.alloc [.str ⟨#[]⟩,.str ⟨#[]⟩]),se 2 14 34]<|so [fa 35 0 14,l1 36 35,mv 37 1,op 38 (.build [.str ⟨#[]⟩,.int .u64 0] [(0,1,(.r 36)),(1,1,(.r 37))]),op 15 (.alloc [.str ⟨#[]⟩,.int .u64 0]),se 2 15 38]<|sq (so [mv 40 0,nc 41 40,fa 42 0 41,l1 43 42,ln 44 2 15,op 45 (.gW (.st [.str,.int]) (.agg [.str ⟨#[]⟩,.sl .nil [],.int .i64 0]) true (.r 43) (.r 44)),mv 39 45,xt 46 0 39,xt 47 1 39,op 16 (.alloc [.str ⟨#[]⟩,.sl .nil [],.int .i64 0]),se 3 16 46,mv 17 47]<|so [mv 48 17]<|.cond (.r 48) (.exit 1) (.skip))<|so [op 12 (.al (.c (.bool true)))]<|so [op 18 (.al (.c (.int .i64 (-1))))]<|sq (so [mv 49 1,mv 50 0,nc 51 50,fa 52 3 51,l1 53 52,fa 54 0 14,l1 55 54,op 56 (.gW (.sc .str) (.int .u64 0) false (.r 53) (.r 55)),b2 57 .lss 49 56]<|.cond (.r 57) (.ops [mv 58 4,mv 18 58]) (.skip))<|.ops [mv 59 0,ln 60 2 15,fa 61 1 14,l1 62 61,mv 63 3,mv 65 18,⟨(some 64),.call 38 [.r 63],none,[⟨60,.ld 2 true (.r 15),none⟩,⟨62,.ld 1 false (.r 61),none⟩]⟩,op 66 (.build [.str ⟨#[]⟩,.sl .nil [],.int .i64 0] [(0,1,(.r 62)),(1,1,(.r 64)),(2,1,(.r 65))]),cl 67 37 [.r 59,.r 60,.r 66]]))<|.ops [op 68 (.bin .add (.r 31) (.c (.int .i64 1))),mv 31 68])))<|so [mv 69 12,mv 10 69,op 11 (.al (.c (.int .i64 0)))]<|.ret⟩
def DI:An:=⟨[],[(15,[(0,true),(1,true),(2,true),(3,true),(4,true),(5,true),(6,true),(7,true),(8,false)])]⟩
def AI:Go.Rmp.Fn:=⟨89,3,[.t 6,.t 7],so [op 6 (.al (.c (.int .i64 0))),op 7 (.al (.c (.int .i64 0)))]<|sq (so [mv 13 1,op 14 (.bin .lss (.r 13) (.c (.int .u64 65536))),mv 15 14,mf 16 2 15,⟨(some 17),.call 36 [.r 16],(some (15,false)),[]⟩,gf 18 15 (.un .not (.r 17)),op 19 (.pick (.r 15) (.c (.bool true)) (.r 18))]<|.cond (.r 19) (so [op 6 (.al (.c (.int .i64 0))),op 7 (.al (.c (.int .i64 1)))]<|.ret) (.skip))<|sq (so [mv 20 0,nc 21 20,fa 22 2 21,l1 23 22,mv 24 1,op 25 (.gW (.sc .int) (.sl .nil []) false (.r 23) (.r 24)),dw 26 25,op 27 (.al (.c (.int .i64 0)))]<|.block 0 (.loop (so [b2 28 .lss 27 26]<|sq (cx 28 0)<|sq (.block 1 (so [ia 29 1 25 27,l1 30 29,mv 9 30]<|sq (so [mv 31 0,nc 32 31,fa 33 3 32,l1 34 33,mv 35 9,op 36 (.gW (.sc .str) (.int .u64 0) false (.r 34) (.r 35)),mv 37 1,b2 38 .geq 36 37]<|.cond (.r 38) (.exit 1) (.skip))<|so [mv 39 0,nc 40 39,fa 41 3 40,l1 42 41,mv 43 9,mv 44 1,ef (.oH (.sc .str) (.r 42) (.r 43) (.r 44))]<|so [mv 45 0,nc 46 45,fa 47 1 46,l1 48 47,mv 49 9,op 50 (.gW (.sc .str) (.sl .nil []) false (.r 48) (.r 49)),dw 51 50,op 52 (.al (.c (.int .i64 0)))]<|.block 2 (.loop (so [b2 53 .lss 52 51]<|sq (cx 53 2)<|sq (.block 3 (so [ia 54 1 50 52,l1 55 54,mv 11 55]<|sq (so [mv 56 11,mv 57 1,b2 58 .geq 56 57]<|.cond (.r 58) (.exit 2) (.skip))<|so [mv 59 0,nc 60 59,fa 61 0 60,l1 62 61,mv 63 9,mv 64 11,op 65 (.build [.str ⟨#[]⟩,.int .u64 0] [(0,1,(.r 63)),(1,1,(.r 64))]),op 66 (.gW (.st [.str,.int]) (.agg [.str ⟨#[]⟩,.sl .nil [],.int .i64 0]) false (.r 62) (.r 65)),op 12 (.alloc [.str ⟨#[]⟩,.sl .nil [],.int .i64 0]),se 3 12 66]<|so [fa 67 2 12,l1 68 67,op 69 (.bin .eql (.r 68) (.c (.int .i64 (-1))))]<|.cond (.r 69) (so [mv 70 2,fa 71 2 12,se 1 71 70]<|.ops [mv 72 0,nc 73 72,fa 74 0 73,l1 75 74,mv 76 9,mv 77 11,op 78 (.build [.str ⟨#[]⟩,.int .u64 0] [(0,1,(.r 76)),(1,1,(.r 77))]),ln 79 3 12,ef (.oH (.st [.str,.int]) (.r 75) (.r 78) (.r 79))]) (.skip)))<|.ops [op 80 (.bin .add (.r 52) (.c (.int .i64 1))),mv 52 80]))))<|.ops [op 81 (.bin .add (.r 27) (.c (.int .i64 1))),mv 27 81])))<|so [mv 82 0,nc 83 82,fa 84 2 83,l1 85 84,mv 86 1,op 87 (.gW (.sc .int) (.sl .nil []) false (.r 85) (.r 86)),dw 88 87,mv 6 88,op 7 (.al (.c (.int .i64 0)))]<|.ret⟩
def DJ:An:=⟨[],[]⟩
def AJ:Go.Rmp.Fn:=⟨7,1,[.t 2],so [op 2 (.al (.c (.int .i64 0)))]<|so [mv 3 0,nc 4 3,fa 5 2 4,l1 6 5,mv 2 6]<|.ret⟩
def DK:An:=⟨[],[]⟩
def AK:Go.Rmp.Fn:=⟨7,1,[.t 2],so [op 2 (.al (.c (.str ⟨#[]⟩)))]<|so [mv 3 0,nc 4 3,fa 5 1 4,l1 6 5,mv 2 6]<|.ret⟩
def DL:An:=⟨[],[]⟩
def AL:Go.Rmp.Fn:=⟨13,1,[.t 2,.t 3],so [op 2 (.al (.c (.sl .nil []))),op 3 (.al (.c (.int .i64 0)))]<|sq (so [mv 4 0,cl 5 39 [.r 4],op 6 (.un .not (.r 5))]<|.cond (.r 6) (so [op 2 (.al (.c (.sl .nil []))),op 3 (.al (.c (.int .i64 62)))]<|.ret) (.skip))<|so [mv 7 0,nc 8 7,fa 9 0 8,l1 10 9,cl 11 41 [.r 10],cl 12 40 [.r 11],mv 2 12,op 3 (.al (.c (.int .i64 0)))]<|.ret⟩
def DM:An:=⟨[],[]⟩
def AM:Go.Rmp.Fn:=⟨11,2,[.t 4],so [op 4 (.al (.c (.int .u64 0)))]<|so [mv 5 0,nc 6 5,fa 7 3 6,l1 8 7,mv 9 1,op 10 (.gW (.sc .str) (.int .u64 0) false (.r 8) (.r 9)),mv 4 10]<|.ret⟩
def DN:An:=⟨[],[]⟩
def yG:Go.Rmp.Fn:=⟨23,2,[.t 4,.t 5],so [op 4 (.al (.c .aE)),op 5 (.al (.c (.int .i64 0)))]<|sq (so [mv 8 0,cl 9 39 [.r 8],op 10 (.un .not (.r 9))]<|.cond (.r 10) (so [op 4 (.al (.c .aE)),op 5 (.al (.c (.int .i64 62)))]<|.ret) (.skip))<|so [mv 12 0,nc 13 12,fa 14 0 13,l1 15 14,mv 16 1,op 17 (.gW (.sc .str) .aE true (.r 15) (.r 16)),mv 11 17,xt 18 0 11,xt 19 1 11,mv 6 18,mv 7 19]<|sq (so [mv 20 7,op 21 (.un .not (.r 20))]<|.cond (.r 21) (so [op 4 (.al (.c .aE)),op 5 (.al (.c (.int .i64 61)))]<|.ret) (.skip))<|so [mv 22 6,mv 4 22,op 5 (.al (.c (.int .i64 0)))]<|.ret⟩
def DP:An:=⟨[],[]⟩
def yH:Go.Rmp.Fn:=⟨11,1,[.t 2],so [op 2 (.al (.c (.bool false)))]<|so [mv 3 0,op 4 (.len .str (.r 3)),op 5 (.bin .geq (.r 4) (.c (.int .i64 1))),mv 6 5,mt 7 0 6,gt 8 6 (.len .str (.r 7)),gt 9 6 (.bin .leq (.r 8) (.c (.int .i64 32))),op 10 (.pick (.r 6) (.r 9) (.c (.bool false))),mv 2 10]<|.ret⟩
def DQ:An:=⟨[],[]⟩
def AN:Go.Rmp.Fn:=⟨98,2,[.t 4,.t 5],so [op 4 (.al (.c (.sl .nil []))),op 5 (.al (.c (.int .i64 0)))]<|sq (so [mv 15 1,op 16 (.eK false .ptr (.r 15) (.c .aE)),mv 17 16,mf 18 0 17,gf 19 17 (.bin .lss (.r 18) (.c (.int .i64 1))),op 20 (.pick (.r 17) (.c (.bool true)) (.r 19))]<|.cond (.r 20) (so [op 4 (.al (.c (.sl .nil []))),op 5 (.al (.c (.int .i64 1)))]<|.ret) (.skip))<|so [cl 21 42 [(.c (.int .i64 2147483647))],mv 6 21]<|so [mv 22 6,cl 23 43 [.r 22,(.c (.int .u32 1918987632))]]<|so [mv 24 6,cl 25 44 [.r 24,(.c (.int .u8 1))]]<|so [mv 26 6,mv 27 0,op 28 (.fy .u64 (.r 27)),cl 29 45 [.r 26,.r 28]]<|so [mv 30 1,cl 31 46 [.r 30],mv 7 31]<|so [mv 32 6,mv 33 7,dw 34 33,op 35 (.fy .u32 (.r 34)),cl 36 43 [.r 32,.r 35]]<|sq (so [mv 37 7,dw 38 37,op 39 (.al (.c (.int .i64 0)))]<|.block 0 (.loop (so [b2 40 .lss 39 38]<|sq (cx 40 0)<|sq (.block 1 (so [ia 41 2 37 39,ln 42 2 41,op 9 (.alloc [.str ⟨#[]⟩,.int .u64 0]),se 2 9 42]<|so [mv 43 6,fa 44 0 9,l1 45 44,cl 46 47 [.r 43,.r 45]]<|.ops [mv 47 6,fa 48 1 9,l1 49 48,cl 50 45 [.r 47,.r 49]]))<|.ops [op 51 (.bin .add (.r 39) (.c (.int .i64 1))),mv 39 51])))<|so [mv 52 1,cl 53 48 [.r 52],mv 10 53]<|so [mv 54 6,mv 55 10,dw 56 55,op 57 (.fy .u32 (.r 56)),cl 58 43 [.r 54,.r 57]]<|sq (so [mv 59 10,dw 60 59,op 61 (.al (.c (.int .i64 0)))]<|.block 2 (.loop (so [b2 62 .lss 61 60]<|sq (cx 62 2)<|sq (.block 3 (so [ia 63 5 59 61,ln 64 5 63,op 12 (.alloc [.str ⟨#[]⟩,.int .u64 0,.str ⟨#[]⟩,.sl .nil [],.int .i64 0]),se 5 12 64]<|so [mv 65 6,fa 66 0 12,fa 67 0 66,l1 68 67,cl 69 47 [.r 65,.r 68]]<|so [mv 70 6,fa 71 0 12,fa 72 1 71,l1 73 72,cl 74 45 [.r 70,.r 73]]<|so [mv 75 6,fa 76 0 12,fa 77 2 76,l1 78 77,cl 79 47 [.r 75,.r 78]]<|.ops [mv 80 6,fa 81 0 12,fa 82 3 81,l1 83 82,cl 84 49 [.r 80,.r 83]]))<|.ops [op 85 (.bin .add (.r 61) (.c (.int .i64 1))),mv 61 85])))<|so [mv 87 6,cl 88 50 [.r 87],mv 86 88,xt 89 0 86,xt 90 1 86,mv 13 89,mv 14 90]<|sq (so [mv 91 14,op 92 (.bin .neq (.r 91) (.c (.int .i64 0)))]<|.cond (.r 92) (so [mv 93 14,op 4 (.al (.c (.sl .nil []))),mv 5 93]<|.ret) (.skip))<|so [mv 94 13,mv 95 13,cl 96 51 [.r 95],op 97 (.app 1 1 false (.r 94) (.r 96)),mv 4 97,op 5 (.al (.c (.int .i64 0)))]<|.ret⟩
def DR:An:=⟨[],[]⟩
def AO:Go.Rmp.Fn:=⟨27,3,[.t 6],so [op 6 (.al (.c (.int .i64 0)))]<|sq (so [mv 10 2,dw 11 10,op 12 (.al (.c (.int .i64 0)))]<|.block 0 (.loop (so [b2 13 .lss 12 11]<|sq (cx 13 0)<|sq (.block 1 (so [ia 14 1 10 12,l1 15 14,mv 8 15]<|sq (so [mv 16 1,mv 17 8,cl 18 52 [.r 16,.r 17],op 19 (.un .not (.r 18))]<|.cond (.r 19) (.exit 1) (.skip))<|so [mv 20 0,mv 21 8,cl 22 53 [.r 20,.r 21],mv 9 22]<|so [mv 23 9,op 24 (.bin .neq (.r 23) (.c (.int .i64 0)))]<|.cond (.r 24) (so [mv 25 9,mv 6 25]<|.ret) (.skip)))<|.ops [op 26 (.bin .add (.r 12) (.c (.int .i64 1))),mv 12 26])))<|so [op 6 (.al (.c (.int .i64 0)))]<|.ret⟩
def DS:An:=⟨[],[]⟩
def AP:Go.Rmp.Fn:=⟨6,1,[.t 2],so [op 2 (.al (.c (.str ⟨#[]⟩)))]<|so [mv 3 0,cl 4 54 [.r 3,(.c (.int .i64 10))],op 5 (.bin .add (.c (.str ⟨#[108,111,103,46]⟩)) (.r 4)),mv 2 5]<|.ret⟩
def DT:An:=⟨[],[]⟩
def AQ:Go.Rmp.Fn:=⟨20,2,[.t 4],so [op 4 (.al (.c (.int .i64 0)))]<|sq (so [mv 7 0,mv 8 1,cl 9 10 [.r 7,(.c (.str ⟨#[115,110,97,112,46,116,109,112]⟩)),.r 8],mv 5 9]<|so [mv 10 5,op 11 (.bin .neq (.r 10) (.c (.int .i64 0)))]<|.cond (.r 11) (so [mv 12 5,mv 4 12]<|.ret) (.skip))<|sq (so [mv 13 0,cl 14 55 [.r 13,(.c (.str ⟨#[115,110,97,112,46,116,109,112]⟩))],mv 6 14]<|so [mv 15 6,op 16 (.bin .neq (.r 15) (.c (.int .i64 0)))]<|.cond (.r 16) (so [mv 17 6,mv 4 17]<|.ret) (.skip))<|so [mv 18 0,cl 19 56 [.r 18,(.c (.str ⟨#[115,110,97,112,46,116,109,112]⟩)),(.c (.str ⟨#[115,110,97,112]⟩))],mv 4 19]<|.ret⟩
def DU:An:=⟨[],[]⟩
def AR:Go.Rmp.Fn:=⟨52,2,[.t 4,.t 5,.t 6],so [op 4 (.al (.c .aE)),op 5 (.al (.c (.sl .nil []))),op 6 (.al (.c (.int .i64 0)))]<|sq (so [mv 12 0,op 13 (.eK false .ptr (.r 12) (.c .aE))]<|.cond (.r 13) (so [op 4 (.al (.c .aE)),op 5 (.al (.c (.sl .nil []))),op 6 (.al (.c (.int .i64 1)))]<|.ret) (.skip))<|so [mv 15 0,mv 16 1,cl 17 57 [.r 15,.r 16],mv 14 17,xt 18 0 14,xt 19 1 14,mv 7 18,mv 8 19]<|sq (so [mv 20 8]<|.block 0 (so [op 23 (.bin .eql (.r 20) (.c (.int .i64 0))),mv 22 23]<|.cond (.r 22) (.skip) (so [op 25 (.bin .eql (.r 20) (.c (.int .i64 61))),mv 24 25]<|.cond (.r 24) (so [mv 26 0,mv 27 1,op 28 (.build [.aE,.str ⟨#[]⟩,.int .i64 0] [(0,1,(.r 26)),(1,1,(.r 27))]),op 29 (.box (.r 28)),mv 4 29,op 5 (.al (.c (.sl .nil []))),op 6 (.al (.c (.int .i64 0)))]<|.ret) (so [mv 21 8,op 4 (.al (.c .aE)),op 5 (.al (.c (.sl .nil []))),mv 6 21]<|.ret))))<|so [mv 31 7,cl 32 58 [.r 31],mv 30 32,xt 33 0 30,xt 34 1 30,mv 9 33,mv 10 34]<|sq (so [mv 35 10,mv 36 7,dw 37 36,b2 38 .lss 35 37]<|.cond (.r 38) (so [mv 39 0,mv 40 1,mv 41 10,cl 42 59 [.r 39,.r 40,.r 41],mv 11 42]<|so [mv 43 11,op 44 (.bin .neq (.r 43) (.c (.int .i64 0)))]<|.cond (.r 44) (so [mv 45 11,op 4 (.al (.c .aE)),op 5 (.al (.c (.sl .nil []))),mv 6 45]<|.ret) (.skip)) (.skip))<|so [mv 46 0,mv 47 1,mv 48 10,op 49 (.build [.aE,.str ⟨#[]⟩,.int .i64 0] [(0,1,(.r 46)),(1,1,(.r 47)),(2,1,(.r 48))]),op 50 (.box (.r 49)),mv 51 9,mv 4 50,mv 5 51,op 6 (.al (.c (.int .i64 0)))]<|.ret⟩
def DV:An:=⟨[],[(6,[(0,true),(1,true),(2,true),(3,true),(4,true),(5,true),(6,true),(7,true),(8,true),(9,true),(10,true),(11,true),(12,true),(13,true),(14,true),(15,true),(16,true),(17,false),(18,true),(19,true),(20,true),(21,true),(22,true),(23,true),(24,true),(25,true)])]⟩
def AS:Go.Rmp.Fn:=⟨55,3,[.t 6],so [op 6 (.al (.c (.bool false)))]<|sq (so [mv 9 0,op 10 (.bin .lss (.r 9) (.c (.int .u64 65536))),mv 11 10,mf 12 2 11,⟨(some 13),.call 65 [.r 12],(some (11,false)),[]⟩,gf 14 11 (.un .not (.r 13)),op 15 (.pick (.r 11) (.c (.bool true)) (.r 14)),mv 16 15,mf 17 1 16,gf 18 16 (.len .sl (.r 17)),gf 19 16 (.bin .lss (.r 18) (.c (.int .i64 1))),op 20 (.pick (.r 16) (.c (.bool true)) (.r 19))]<|.cond (.r 20) (so [op 6 (.al (.c (.bool false)))]<|.ret) (.skip))<|sq (so [mv 21 1,dw 22 21,op 23 (.al (.c (.int .i64 0)))]<|.block 0 (.loop (so [b2 24 .lss 23 22]<|sq (cx 24 0)<|sq (.block 1 (so [mv 25 23,ia 26 2 21 23,ln 27 2 26,op 8 (.alloc [.str ⟨#[]⟩,.str ⟨#[]⟩]),mv 7 25,se 2 8 27]<|so [mv 28 7,op 29 (.bin .gtr (.r 28) (.c (.int .i64 0))),mv 30 29,gt 31 30 (.ny 0 (.r 8)),gt 32 30 (.ld 1 false (.r 31)),mt 33 1 30,mt 34 7 30,gt 35 30 (.bin .sub (.r 34) (.c (.int .i64 1))),gt 36 30 (.ja 2 (.r 33) (.r 35)),gt 37 30 (.ny 0 (.r 36)),gt 38 30 (.ld 1 false (.r 37)),gt 39 30 (.bin .leq (.r 32) (.r 38)),op 40 (.pick (.r 30) (.r 39) (.c (.bool false))),mv 41 40,mf 42 2 41,gf 43 41 (.ny 0 (.r 8)),gf 44 41 (.ld 1 false (.r 43)),⟨(some 45),.call 66 [.r 42,.r 44],(some (41,false)),[]⟩,gf 46 41 (.un .not (.r 45)),op 47 (.pick (.r 41) (.c (.bool true)) (.r 46)),mv 48 47,gf 49 48 (.ny 1 (.r 8)),gf 50 48 (.ld 1 false (.r 49)),gf 51 48 (.len .str (.r 50)),gf 52 48 (.bin .gtr (.r 51) (.c (.int .i64 65535))),op 53 (.pick (.r 48) (.c (.bool true)) (.r 52))]<|.cond (.r 53) (so [op 6 (.al (.c (.bool false)))]<|.ret) (.skip)))<|.ops [op 54 (.bin .add (.r 23) (.c (.int .i64 1))),mv 23 54])))<|so [op 6 (.al (.c (.bool true)))]<|.ret⟩
def DW:An:=⟨[],[]⟩
def AU:Go.Rmp.Fn:=⟨9,1,[.t 2],so [op 2 (.al (.c (.bool false)))]<|so [mv 3 0,op 4 (.bin .geq (.r 3) (.c (.int .i64 0))),mv 5 4,mt 6 0 5,gt 7 5 (.bin .leq (.r 6) (.c (.int .i64 1099511627776))),op 8 (.pick (.r 5) (.r 7) (.c (.bool false))),mv 2 8]<|.ret⟩
def DX:An:=⟨[(3,16),(4,16)],[(1,[(0,true),(1,true),(2,true),(3,true),(4,true),(5,true),(6,false)]),(2,[(0,true),(1,true),(2,true),(3,true),(4,true),(5,true),(6,true),(7,true),(8,true),(9,false),(10,true),(11,true),(12,true),(13,true),(14,true)]),(3,[(0,true),(1,true),(2,true),(3,true),(4,true),(5,true),(6,true),(7,true),(8,true),(9,true),(10,true),(11,true),(12,true),(13,true),(14,true),(15,true),(16,false),(17,false),(18,false)]),(4,[(0,true),(1,true),(2,true),(3,true),(4,true),(5,true),(6,true),(7,true),(8,true),(9,true),(10,true),(11,true),(12,true),(13,true),(14,true),(15,true),(16,false),(17,false)])]⟩
def AV:Go.Rmp.Fn:=⟨62,3,[],so [op 4 (.box (.r 1)),op 5 (.box (.r 2))]<|so [mv 8 0,nc 9 8,fa 10 0 9,l1 11 10,ln 12 2 4,ln 13 3 5,ef (.oH (.st [.str,.int]) (.r 11) (.r 12) (.r 13))]<|so [mv 15 0,nc 16 15,fa 17 1 16,l1 18 17,fa 19 0 4,l1 20 19,op 21 (.gW (.sc .str) (.sl .nil []) false (.r 18) (.r 20)),fa 22 1 4,l1 23 22,cl 24 67 [.r 21,.r 23],mv 14 24,xt 25 0 14,xt 26 1 14,mv 6 25,mv 7 26]<|so [mv 27 0,nc 28 27,fa 29 1 28,l1 30 29,fa 31 0 4,l1 32 31,mv 33 0,nc 34 33,fa 35 1 34,l1 36 35,fa 37 0 4,l1 38 37,op 39 (.gW (.sc .str) (.sl .nil []) false (.r 36) (.r 38)),mv 40 6,fa 41 1 4,l1 42 41,⟨(some 43),.b (.xi 1 [.int .u64 0] [(0,(.r 42))]),none,[⟨30,.ld 1 false (.r 29),none⟩,⟨32,.ld 1 false (.r 31),none⟩,⟨36,.ld 1 false (.r 35),none⟩,⟨38,.ld 1 false (.r 37),none⟩,⟨39,.gW (.sc .str) (.sl .nil []) false (.r 36) (.r 38),none⟩]⟩,⟨(some 44),.call 68 [.r 39,.r 40,.r 43],none,[⟨30,.ld 1 false (.r 29),none⟩,⟨32,.ld 1 false (.r 31),none⟩]⟩,ef (.oH (.sc .str) (.r 30) (.r 32) (.r 44))]<|.ops [mv 45 0,nc 46 45,fa 47 2 46,l1 48 47,fa 49 1 4,l1 50 49,mv 51 0,nc 52 51,fa 53 2 52,l1 54 53,fa 55 1 4,l1 56 55,op 57 (.gW (.sc .int) (.sl .nil []) false (.r 54) (.r 56)),fa 58 0 4,l1 59 58,op 60 (.kL 1 [.str ⟨#[]⟩] [(0,(.r 59))]),⟨(some 61),.b (.app 1 16 true (.r 57) (.r 60)),none,[⟨48,.ld 1 false (.r 47),none⟩,⟨50,.ld 1 false (.r 49),none⟩]⟩,ef (.oH (.sc .int) (.r 48) (.r 50) (.r 61))]⟩
def DY:An:=⟨[],[]⟩
def AW:Go.Rmp.Fn:=⟨8,1,[.t 2],so [op 2 (.al (.c (.sl .nil [])))]<|sq (so [mv 3 0,op 4 (.eK false .slice (.r 3) (.c (.sl .nil [])))]<|.cond (.r 4) (so [op 2 (.al (.c (.sl .nil [])))]<|.ret) (.skip))<|so [op 5 (.kL 0 [.str ⟨#[]⟩] []),mv 6 0,op 7 (.app 1 16 false (.r 5) (.r 6)),mv 2 7]<|.ret⟩
def DZ:An:=⟨[],[]⟩
def yI:Go.Rmp.Fn:=⟨30,1,[.t 2],so [op 2 (.al (.c (.bool false)))]<|sq (so [mv 3 0,nc 4 3,fa 5 3 4,l1 6 5]<|.cond (.r 6) (so [mv 7 0,nc 8 7,fa 9 4 8,l1 10 9,op 11 (.bin .eql (.r 10) (.c (.int .i64 0)))]<|.cond (.r 11) (.ops [mv 12 0,mv 13 0,nc 14 13,fa 15 5 14,l1 16 15,cl 17 69 [.r 12,.r 16]]) (.ops [mv 18 0,nc 19 18,fa 20 4 19,l1 21 20,op 22 (.bin .sub (.r 21) (.c (.int .i64 1))),nc 23 18,fa 24 4 23,se 1 24 22])) (.skip))<|so [mv 25 0,nc 26 25,fa 27 1 26,l1 28 27,op 29 (.un .not (.r 28)),mv 2 29]<|.ret⟩
def D0:An:=⟨[],[]⟩
def AX:Go.Rmp.Fn:=⟨9,1,[.t 2],so [op 2 (.al (.c (.sl .nil [])))]<|so [mv 4 0,cl 5 70 [.r 4],mv 3 5]<|so [mv 6 3,cl 7 71 [.r 6]]<|so [mv 8 3,mv 2 8]<|.ret⟩
def D1:An:=⟨[],[]⟩
def AY:Go.Rmp.Fn:=⟨4,1,[.t 2],so [op 1 (.box (.r 0)),op 2 (.al (.c .dh))]<|so [op 3 (.vT 72 [.r 1]),mv 2 3]<|.ret⟩
def D2:An:=⟨[],[]⟩
def AZ:Go.Rmp.Fn:=⟨7,1,[.t 2],so [op 2 (.al (.c .aE))]<|so [mv 3 0,op 4 (.mx (.r 3) (.c (.int .i64 0))),op 5 (.build [.int .i64 0,.sl .nil [],.int .i64 0] [(0,1,(.r 4))]),op 6 (.box (.r 5)),mv 2 6]<|.ret⟩
def D3:An:=⟨[],[]⟩
def A0:Go.Rmp.Fn:=⟨10,2,[],so [mv 4 0,cl 5 73 [.r 4,(.c (.int .i64 4))]]<|.cond (.r 5) (.ops [mv 6 0,mv 7 1,op 8 (.fy .u64 (.r 7)),cl 9 74 [.r 6,.r 8,(.c (.int .i64 4))]]) (.skip)⟩
def D4:An:=⟨[],[]⟩
def A1:Go.Rmp.Fn:=⟨10,2,[],so [mv 4 0,cl 5 73 [.r 4,(.c (.int .i64 1))]]<|.cond (.r 5) (.ops [mv 6 0,mv 7 1,op 8 (.fy .u64 (.r 7)),cl 9 74 [.r 6,.r 8,(.c (.int .i64 1))]]) (.skip)⟩
def D5:An:=⟨[],[]⟩
def A2:Go.Rmp.Fn:=⟨9,2,[],so [mv 4 0,cl 5 73 [.r 4,(.c (.int .i64 8))]]<|.cond (.r 5) (.ops [mv 6 0,mv 7 1,cl 8 74 [.r 6,.r 7,(.c (.int .i64 8))]]) (.skip)⟩
def D6:An:=⟨[],[]⟩
def A3:Go.Rmp.Fn:=⟨30,1,[.t 2],so [op 2 (.al (.c (.sl .nil [])))]<|so [op 3 (.al (.c (.sl .nil [])))]<|sq (so [mv 6 0,nc 7 6,fa 8 3 7,l1 9 8,cl 10 75 [.r 9],cl 11 40 [.r 10],dw 12 11,op 13 (.al (.c (.int .i64 0)))]<|.block 0 (.loop (so [b2 14 .lss 13 12]<|sq (cx 14 0)<|sq (.block 1 (so [ia 15 1 11 13,l1 16 15,mv 5 16]<|.ops [mv 17 3,mv 18 5,mv 19 0,nc 20 19,fa 21 3 20,l1 22 21,mv 23 5,op 24 (.gW (.sc .str) (.int .u64 0) false (.r 22) (.r 23)),op 25 (.build [.str ⟨#[]⟩,.int .u64 0] [(0,1,(.r 18)),(1,1,(.r 24))]),op 26 (.kL 1 [.str ⟨#[]⟩,.int .u64 0] [(0,(.r 25))]),op 27 (.app 2 24 false (.r 17) (.r 26)),mv 3 27]))<|.ops [op 28 (.bin .add (.r 13) (.c (.int .i64 1))),mv 13 28])))<|so [mv 29 3,mv 2 29]<|.ret⟩
def D7:An:=⟨[],[]⟩
def A4:Go.Rmp.Fn:=⟨23,2,[],so [mv 4 0,mv 5 1,op 6 (.len .str (.r 5)),op 7 (.bin .add (.c (.int .i64 4)) (.r 6)),cl 8 73 [.r 4,.r 7]]<|.cond (.r 8) (so [mv 9 0,mv 10 1,op 11 (.len .str (.r 10)),op 12 (.fy .u64 (.r 11)),cl 13 74 [.r 9,.r 12,(.c (.int .i64 4))]]<|.ops [mv 14 0,mv 15 0,nc 16 15,fa 17 1 16,l1 18 17,mv 19 1,op 20 (.app 1 1 false (.r 18) (.r 19)),nc 21 14,fa 22 1 21,se 1 22 20]) (.skip)⟩
def D8:An:=⟨[],[(5,[(0,true),(1,true),(2,true),(4,true),(5,true),(6,true),(7,true),(8,true),(9,true),(10,true),(3,false),(11,true),(12,true),(13,false),(14,false)])]⟩
def A5:Go.Rmp.Fn:=⟨33,1,[.t 2],so [op 2 (.al (.c (.sl .nil [])))]<|so [op 3 (.al (.c (.sl .nil [])))]<|sq (so [mv 6 0,nc 7 6,fa 8 0 7,l1 9 8,cl 10 77 [.r 9],cl 11 76 [.r 10,(.c (.fn 78 []))],dw 12 11,op 13 (.al (.c (.int .i64 0)))]<|.block 0 (.loop (so [b2 14 .lss 13 12]<|sq (cx 14 0)<|sq (.block 1 (so [ia 15 2 11 13,ln 16 2 15,op 5 (.alloc [.str ⟨#[]⟩,.int .u64 0]),se 2 5 16]<|.ops [mv 17 3,mv 18 0,ln 19 2 5,mv 21 0,nc 22 21,fa 23 0 22,l1 24 23,ln 25 2 5,op 26 (.gW (.st [.str,.int]) (.agg [.str ⟨#[]⟩,.sl .nil [],.int .i64 0]) false (.r 24) (.r 25)),op 27 (.y9 2 1 false (.r 26)),⟨(some 20),.call 79 [.r 18,.r 19],none,[⟨24,.ld 1 false (.r 23),none⟩,⟨25,.ld 2 true (.r 5),none⟩,⟨26,.gW (.st [.str,.int]) (.agg [.str ⟨#[]⟩,.sl .nil [],.int .i64 0]) false (.r 24) (.r 25),none⟩]⟩,op 28 (.build [.str ⟨#[]⟩,.int .u64 0,.str ⟨#[]⟩,.sl .nil [],.int .i64 0] [(0,4,(.r 20)),(4,1,(.r 27))]),op 29 (.kL 1 [.str ⟨#[]⟩,.int .u64 0,.str ⟨#[]⟩,.sl .nil [],.int .i64 0] [(0,(.r 28))]),op 30 (.app 5 72 false (.r 17) (.r 29)),mv 3 30]))<|.ops [op 31 (.bin .add (.r 13) (.c (.int .i64 1))),mv 13 31])))<|so [mv 32 3,mv 2 32]<|.ret⟩
def D9:An:=⟨[],[]⟩
def A6:Go.Rmp.Fn:=⟨40,2,[],so [op 4 (.al (.c (.int .i64 4)))]<|sq (so [mv 9 1,dw 10 9,op 11 (.al (.c (.int .i64 0)))]<|.block 0 (.loop (so [b2 12 .lss 11 10]<|sq (cx 12 0)<|sq (.block 1 (so [ia 13 1 9 11,l1 14 13,mv 6 14]<|.ops [mv 15 4,mv 16 6,op 17 (.len .str (.r 16)),op 18 (.bin .add (.c (.int .i64 4)) (.r 17)),b2 19 .add 15 18,mv 4 19]))<|.ops [op 20 (.bin .add (.r 11) (.c (.int .i64 1))),mv 11 20])))<|sq (so [mv 21 0,mv 22 4,cl 23 73 [.r 21,.r 22],op 24 (.un .not (.r 23))]<|.cond (.r 24) (.ret) (.skip))<|so [mv 25 0,mv 26 1,dw 27 26,op 28 (.fy .u64 (.r 27)),cl 29 74 [.r 25,.r 28,(.c (.int .i64 4))]]<|so [mv 30 1,dw 31 30,op 32 (.al (.c (.int .i64 0)))]<|.block 2 (.loop (so [b2 33 .lss 32 31]<|sq (cx 33 2)<|sq (.block 3 (so [ia 34 1 30 32,l1 35 34,mv 8 35]<|.ops [mv 36 0,mv 37 8,cl 38 47 [.r 36,.r 37]]))<|.ops [op 39 (.bin .add (.r 32) (.c (.int .i64 1))),mv 32 39]))⟩
def Ea:An:=⟨[],[(2,[(0,true),(1,true),(2,true),(3,true),(4,true),(5,true)])]⟩
def A7:Go.Rmp.Fn:=⟨18,1,[.t 2,.t 3],so [op 2 (.al (.c (.sl .nil []))),op 3 (.al (.c (.int .i64 0)))]<|sq (so [mv 4 0,nc 5 4,fa 6 2 5,l1 7 6,op 8 (.bin .neq (.r 7) (.c (.int .i64 0)))]<|.cond (.r 8) (so [mv 9 0,nc 10 9,fa 11 2 10,l1 12 11,op 2 (.al (.c (.sl .nil []))),mv 3 12]<|.ret) (.skip))<|so [mv 13 0,nc 14 13,fa 15 1 14,l1 16 15,cl 17 80 [.r 16],mv 2 17,op 3 (.al (.c (.int .i64 0)))]<|.ret⟩
def Eb:An:=⟨[],[]⟩
def A8:Go.Rmp.Fn:=⟨18,1,[.t 2],so [op 2 (.al (.c (.sl .nil [])))]<|so [mv 4 0,cl 5 81 [.r 4],mv 3 5]<|so [mv 6 3,op 7 (.bin .shr (.r 6) (.c (.int .u64 24))),op 8 (.fy .u8 (.r 7)),mv 9 3,op 10 (.bin .shr (.r 9) (.c (.int .u64 16))),op 11 (.fy .u8 (.r 10)),mv 12 3,op 13 (.bin .shr (.r 12) (.c (.int .u64 8))),op 14 (.fy .u8 (.r 13)),mv 15 3,op 16 (.fy .u8 (.r 15)),op 17 (.kL 4 [.int .u8 0] [(0,(.r 8)),(1,(.r 11)),(2,(.r 14)),(3,(.r 16))]),mv 2 17]<|.ret⟩
def Ec:An:=⟨[],[]⟩
def A9:Go.Rmp.Fn:=⟨9,2,[.t 4],so [op 4 (.al (.c (.bool false)))]<|so [mv 5 0,mv 6 1,cl 7 82 [.r 5,.r 6],op 8 (.bin .geq (.r 7) (.c (.int .i64 0))),mv 4 8]<|.ret⟩
def Ed:An:=⟨[],[]⟩
def Ba:Go.Rmp.Fn:=⟨8,2,[.t 4],so [op 4 (.al (.c (.str ⟨#[]⟩)))]<|so [mv 5 0,mv 6 1,cl 7 83 [.r 5,.r 6],mv 4 7]<|.ret⟩
def Ee:An:=⟨[],[]⟩
def Bb:Go.Rmp.Fn:=⟨24,2,[.t 4],so [op 4 (.al (.c (.int .i64 0)))]<|so [mv 8 0,mv 9 1,cl 10 23 [.r 8,.r 9],mv 7 10,xt 11 0 7,xt 12 1 7,mv 5 11,mv 6 12]<|sq (so [mv 13 6,op 14 (.bin .eql (.r 13) (.c (.int .i64 0)))]<|.cond (.r 14) (.ops [mv 15 5,mv 16 5,nc 17 16,fa 18 0 17,l1 19 18,dw 20 19,nc 21 15,fa 22 1 21,se 1 22 20]) (.skip))<|so [mv 23 6,mv 4 23]<|.ret⟩
def Ef:An:=⟨[],[]⟩
def Bc:Go.Rmp.Fn:=⟨38,3,[.t 6],so [op 6 (.al (.c (.int .i64 0)))]<|so [mv 10 0,mv 11 1,cl 12 23 [.r 10,.r 11],mv 9 12,xt 13 0 9,xt 14 1 9,mv 7 13,mv 8 14]<|sq (.block 0 (so [mv 16 8,op 17 (.bin .eql (.r 16) (.c (.int .i64 62))),mv 15 17]<|.cond (.r 15) (so [mv 18 8,mv 6 18]<|.ret) (so [mv 20 2,cl 21 24 [.r 20],op 22 (.un .not (.r 21)),mv 19 22]<|.cond (.r 19) (so [op 6 (.al (.c (.int .i64 1)))]<|.ret) (so [mv 24 8,op 25 (.bin .neq (.r 24) (.c (.int .i64 0))),mv 23 25]<|.cond (.r 23) (so [mv 26 8,mv 6 26]<|.ret) (.skip)))))<|so [mv 27 0,nc 28 27,fa 29 0 28,l1 30 29,mv 31 1,ef (.del (.sc .str) (.r 30) (.r 31))]<|so [mv 32 0,nc 33 32,fa 34 0 33,l1 35 34,mv 36 2,mv 37 7,ef (.oH (.sc .str) (.r 35) (.r 36) (.r 37))]<|so [op 6 (.al (.c (.int .i64 0)))]<|.ret⟩
def Eg:An:=⟨[],[]⟩
def Bd:Go.Rmp.Fn:=⟨22,2,[.t 4,.t 5],so [op 4 (.al (.c (.sl .nil []))),op 5 (.al (.c (.int .i64 0)))]<|so [mv 9 0,mv 10 1,cl 11 23 [.r 9,.r 10],mv 8 11,xt 12 0 8,xt 13 1 8,mv 6 12,mv 7 13]<|sq (so [mv 14 7,op 15 (.bin .neq (.r 14) (.c (.int .i64 0)))]<|.cond (.r 15) (so [mv 16 7,op 4 (.al (.c (.sl .nil []))),mv 5 16]<|.ret) (.skip))<|so [mv 17 6,nc 18 17,fa 19 0 18,l1 20 19,cl 21 80 [.r 20],mv 4 21,op 5 (.al (.c (.int .i64 0)))]<|.ret⟩
def Eh:An:=⟨[],[]⟩
def Be:Go.Rmp.Fn:=⟨37,1,[.t 2],so [op 2 (.al (.c (.bool false)))]<|sq (so [mv 5 0,dw 6 5,op 7 (.al (.c (.int .i64 0)))]<|.block 0 (.loop (so [b2 8 .lss 7 6]<|sq (cx 8 0)<|sq (.block 1 (so [mv 9 7,ia 10 1 5 7,l1 11 10,mv 3 9,mv 4 11]<|so [mv 12 4,op 13 (.len .str (.r 12)),op 14 (.bin .gtr (.r 13) (.c (.int .i64 65535))),mv 15 14,mf 16 3 15,gf 17 15 (.bin .gtr (.r 16) (.c (.int .i64 0))),mf 18 17 15,mt 19 4 18,mt 20 0 18,mt 21 3 18,gt 22 18 (.bin .sub (.r 21) (.c (.int .i64 1))),gt 23 18 (.ja 1 (.r 20) (.r 22)),gt 24 18 (.ld 1 false (.r 23)),gt 25 18 (.bin .leq (.r 19) (.r 24)),gf 26 15 (.pick (.r 18) (.r 25) (.c (.bool false))),op 27 (.pick (.r 15) (.c (.bool true)) (.r 26))]<|.cond (.r 27) (so [op 2 (.al (.c (.bool false)))]<|.ret) (.skip)))<|.ops [op 28 (.bin .add (.r 7) (.c (.int .i64 1))),mv 7 28])))<|so [mv 29 0,dw 30 29,op 31 (.bin .geq (.r 30) (.c (.int .i64 1))),mv 32 31,mt 33 0 32,gt 34 32 (.len .sl (.r 33)),gt 35 32 (.bin .leq (.r 34) (.c (.int .i64 1024))),op 36 (.pick (.r 32) (.r 35) (.c (.bool false))),mv 2 36]<|.ret⟩
def Ei:An:=⟨[],[]⟩
def Bf:Go.Rmp.Fn:=⟨14,2,[.t 4],so [op 4 (.al (.c (.bool false)))]<|so [mv 8 0,mv 9 1,cl 10 99 [.r 8,.r 9],mv 7 10,xt 11 0 7,xt 12 1 7,mv 5 11,mv 6 12]<|so [mv 13 6,mv 4 13]<|.ret⟩
def Ej:An:=⟨[],[]⟩
def Bg:Go.Rmp.Fn:=⟨54,2,[.t 4,.t 5],so [op 4 (.al (.c (.int .i64 0))),op 5 (.al (.c (.bool false)))]<|so [mv 10 0,dw 11 10,mv 6 11]<|so [mv 12 6,op 7 (.al (.c (.int .i64 0))),mv 8 12]<|sq (.block 0 (.loop (sq (so [mv 13 7,mv 14 8,b2 15 .lss 13 14]<|cx 15 0)<|.block 1 (so [mv 16 7,mv 17 8,b2 18 .add 16 17,op 19 (.fy .u64 (.r 18)),op 20 (.bin .shr (.r 19) (.c (.int .u64 1))),op 21 (.fy .i64 (.r 20)),mv 9 21]<|so [mv 22 0,mv 23 9,ia 24 1 22 23,l1 25 24,mv 26 1,cl 27 100 [.r 25,.r 26]]<|.cond (.r 27) (.ops [mv 28 9,op 29 (.bin .add (.r 28) (.c (.int .i64 1))),mv 7 29]) (.ops [mv 30 9,mv 8 30])))))<|so [mv 31 7,mv 32 7,mv 33 6,b2 34 .lss 32 33,mv 35 34,mt 36 0 35,mt 37 7 35,gt 38 35 (.ja 1 (.r 36) (.r 37)),gt 39 35 (.ld 1 false (.r 38)),mt 40 1 35,gt 41 35 (.bin .eql (.r 39) (.r 40)),mt 42 41 35,mf 43 0 42,mf 44 7 42,gf 45 42 (.ja 1 (.r 43) (.r 44)),gf 46 42 (.ld 1 false (.r 45)),⟨(some 47),.call 101 [.r 46],(some (42,false)),[]⟩,mf 48 47 42,mt 49 1 48,⟨(some 50),.call 101 [.r 49],(some (48,true)),[]⟩,gf 51 42 (.pick (.r 48) (.r 50) (.c (.bool false))),gt 52 35 (.pick (.r 42) (.c (.bool true)) (.r 51)),op 53 (.pick (.r 35) (.r 52) (.c (.bool false))),mv 4 31,mv 5 53]<|.ret⟩
def Ek:An:=⟨[(7,2)],[(11,[(0,true),(1,true),(2,true),(3,true),(4,true),(5,true),(6,true),(7,true),(8,false)]),(15,[(0,true),(1,true),(2,true),(3,true),(4,true),(5,true),(6,true),(7,true),(8,false)])]⟩
def Bh:Go.Rmp.Fn:=⟨95,3,[.t 6],so [op 6 (.al (.c (.sl .nil [])))]<|so [mv 10 0,mv 11 1,op 12 (.kM 1 (.r 10) (some (.r 11)) none none)]<|so [mv 13 2,dw 14 13,mv 7 14]<|sq (so [mv 15 7,op 16 (.bin .eql (.r 15) (.c (.int .i64 0)))]<|.cond (.r 16) (so [mv 17 0,mv 6 17]<|.ret) (.skip))<|so [mv 18 0,dw 19 18,mv 8 19]<|sq (so [mv 20 1,mv 21 8,b2 22 .eql 20 21]<|.cond (.r 22) (so [mv 23 0,mv 24 2,op 25 (.app 1 8 true (.r 23) (.r 24)),mv 6 25]<|.ret) (.skip))<|sq (so [mv 26 8,mv 27 7,b2 28 .add 26 27,mv 29 0,op 30 (.cap (.r 29)),b2 31 .gtr 28 30]<|.cond (.r 31) (so [mv 32 0,mv 33 1,op 34 (.kM 1 (.r 32) none (some (.r 33)) none),mv 35 8,mv 36 7,b2 37 .add 35 36,mv 38 1,b2 39 .sub 37 38,op 40 (.zd 1 8 [.int .u64 0] (.r 34) (.r 39)),mv 9 40]<|so [mv 41 9,mv 42 1,op 43 (.kM 1 (.r 41) (some (.r 42)) none none),mv 44 2,op 45 (.tz 1 (.r 43) (.r 44))]<|so [mv 46 9,mv 47 1,mv 48 7,b2 49 .add 47 48,op 50 (.kM 1 (.r 46) (some (.r 49)) none none),mv 51 0,mv 52 1,op 53 (.kM 1 (.r 51) (some (.r 52)) none none),op 54 (.tz 1 (.r 50) (.r 53))]<|so [mv 55 9,mv 6 55]<|.ret) (.skip))<|so [mv 56 0,mv 57 8,mv 58 7,b2 59 .add 57 58,op 60 (.kM 1 (.r 56) none (some (.r 59)) none),mv 0 60]<|sq (so [mv 61 2,mv 62 0,mv 63 1,mv 64 7,b2 65 .add 63 64,op 66 (.kM 1 (.r 62) (some (.r 65)) none none),op 67 (.yN 1 (.r 61) (.r 66)),op 68 (.un .not (.r 67))]<|.cond (.r 68) (so [mv 69 0,mv 70 1,mv 71 7,b2 72 .add 70 71,op 73 (.kM 1 (.r 69) (some (.r 72)) none none),mv 74 0,mv 75 1,op 76 (.kM 1 (.r 74) (some (.r 75)) none none),op 77 (.tz 1 (.r 73) (.r 76))]<|so [mv 78 0,mv 79 1,op 80 (.kM 1 (.r 78) (some (.r 79)) none none),mv 81 2,op 82 (.tz 1 (.r 80) (.r 81))]<|so [mv 83 0,mv 6 83]<|.ret) (.skip))<|so [mv 84 0,mv 85 8,op 86 (.kM 1 (.r 84) (some (.r 85)) none none),mv 87 2,op 88 (.tz 1 (.r 86) (.r 87))]<|so [mv 89 0,mv 90 1,op 91 (.kM 1 (.r 89) (some (.r 90)) none none),mv 92 7,cl 93 103 [.r 91,.r 92]]<|so [mv 94 0,mv 6 94]<|.ret⟩
def El:An:=⟨[],[]⟩
def Bi:Go.Rmp.Fn:=⟨5,1,[.t 2],so [op 2 (.al (.c (.sl .nil [])))]<|so [mv 3 0,cl 4 104 [(.c (.sl .nil [])),.r 3],mv 2 4]<|.ret⟩
def Em:An:=⟨[],[]⟩
def Bj:Go.Rmp.Fn:=⟨11,1,[],so [mv 3 0,dw 4 3,mv 2 4]<|.ops [mv 5 0,mv 6 2,mv 7 2,op 8 (.fy .u64 (.r 7)),cl 9 106 [.r 8],cl 10 105 [.r 5,(.c (.int .i64 0)),.r 6,.r 9]]⟩
def En:An:=⟨[],[]⟩
def Bk:Go.Rmp.Fn:=⟨14,2,[],so [l1 4 1,op 5 (.vU (.r 4))]<|.block 0 (.loop (so [op 6 (.gL (.r 5)),xt 7 0 6]<|sq (cx 7 0)<|.block 1 (so [op 8 (.vV (.r 5)),xt 9 0 8,mv 3 9]<|so [mv 10 0,mv 11 3,⟨(some 12),.a6 (.r 10) [.r 11],none,[]⟩,op 13 (.un .not (.r 12))]<|.cond (.r 13) (.ret) (.skip))))⟩
def Eo:An:=⟨[],[(1,[(0,true),(1,true),(2,true),(3,true),(4,true),(5,true),(6,true),(7,true),(8,true),(9,true),(10,true),(11,true),(12,true),(13,true),(14,true),(15,true),(16,true),(17,true),(18,true)])]⟩
def Bl:Go.Rmp.Fn:=⟨32,2,[.t 4],so [op 4 (.al (.c (.bool false)))]<|sq (so [mv 5 0,nc 6 5,fa 7 2 6,l1 8 7,op 9 (.bin .eql (.r 8) (.c (.int .i64 0))),mv 10 9,mt 11 1 10,mt 12 0 10,gt 13 10 (.ka (.r 12)),gt 14 10 (.ny 0 (.r 13)),gt 15 10 (.ld 1 false (.r 14)),mt 16 0 10,gt 17 10 (.ka (.r 16)),gt 18 10 (.ny 1 (.r 17)),gt 19 10 (.ld 1 false (.r 18)),gt 20 10 (.len .sl (.r 19)),gt 21 10 (.bin .sub (.r 15) (.r 20)),gt 22 10 (.bin .gtr (.r 11) (.r 21)),op 23 (.pick (.r 10) (.r 22) (.c (.bool false)))]<|.cond (.r 23) (.ops [mv 24 0,nc 25 24,fa 26 2 25,ef (.st 1 (.r 26) (.c (.int .i64 3)))]) (.skip))<|so [mv 27 0,nc 28 27,fa 29 2 28,l1 30 29,op 31 (.bin .eql (.r 30) (.c (.int .i64 0))),mv 4 31]<|.ret⟩
def Ep:An:=⟨[],[(3,[(0,true),(1,true),(2,true),(3,true),(4,true),(5,true),(6,true),(7,true),(8,true),(9,true),(10,true),(11,false),(12,true),(13,true),(14,false)])]⟩
def Bm:Go.Rmp.Fn:=⟨27,3,[],so [mv 7 2,op 8 (.bin .sub (.r 7) (.c (.int .i64 1))),mv 6 8]<|.block 0 (.loop (sq (so [mv 9 6,op 10 (.bin .geq (.r 9) (.c (.int .i64 0)))]<|cx 10 0)<|sq (.block 1 (.ops [mv 13 0,mv 14 0,nc 15 14,fa 16 1 15,l1 17 16,mv 18 1,mv 19 6,op 20 (.bin .mul (.c (.int .i64 8)) (.r 19)),b2 21 .shr 18 20,op 22 (.fy .u8 (.r 21)),op 23 (.kL 1 [.int .u8 0] [(0,(.r 22))]),op 24 (.app 1 1 false (.r 17) (.r 23)),nc 25 13,fa 26 1 25,se 1 26 24]))<|.ops [mv 11 6,op 12 (.bin .sub (.r 11) (.c (.int .i64 1))),mv 6 12]))⟩
def Er:An:=⟨[],[]⟩
def Bn:Go.Rmp.Fn:=⟨4,1,[.t 2],so [op 1 (.box (.r 0)),op 2 (.al (.c .dh))]<|so [op 3 (.vT 107 [.r 1]),mv 2 3]<|.ret⟩
def Es:An:=⟨[],[]⟩
def Bp:Go.Rmp.Fn:=⟨12,2,[.t 4],so [op 4 (.al (.c (.sl .nil [])))]<|so [mv 6 0,cl 7 108 [.r 6],mv 5 7]<|so [mv 8 5,mv 9 1,cl 10 109 [.r 8,.r 9]]<|so [mv 11 5,mv 4 11]<|.ret⟩
def Et:An:=⟨[],[]⟩
def Bq:Go.Rmp.Fn:=⟨4,1,[.t 2],so [op 1 (.box (.r 0)),op 2 (.al (.c .dh))]<|so [op 3 (.vT 110 [.r 1]),mv 2 3]<|.ret⟩
def Eu:An:=⟨[],[(1,[(0,true),(1,true),(2,true),(3,true),(4,true),(5,true),(6,true),(7,false)]),(2,[(0,true),(1,true),(2,true),(3,true),(4,true),(5,true),(6,true),(7,true),(8,false),(9,true),(10,false)])]⟩
def Br:Go.Rmp.Fn:=⟨22,2,[.cl 4 4 true],so [op 3 (.box (.r 1)),op 4 (.alloc [.str ⟨#[]⟩,.int .u64 0,.str ⟨#[]⟩,.sl .nil []])]<|so [mv 6 0,nc 7 6,fa 8 0 7,l1 9 8,ln 10 2 3,op 11 (.gW (.st [.str,.int]) (.agg [.str ⟨#[]⟩,.sl .nil [],.int .i64 0]) false (.r 9) (.r 10)),op 5 (.alloc [.str ⟨#[]⟩,.sl .nil [],.int .i64 0]),se 3 5 11]<|so [fa 12 0 3,l1 13 12,fa 14 1 3,l1 15 14,fa 16 0 5,l1 17 16,fa 18 1 5,l1 19 18,⟨(some 20),.call 38 [.r 19],none,[⟨13,.ld 1 false (.r 12),none⟩,⟨15,.ld 1 false (.r 14),none⟩,⟨17,.ld 1 false (.r 16),none⟩]⟩,op 21 (.build [.str ⟨#[]⟩,.int .u64 0,.str ⟨#[]⟩,.sl .nil []] [(0,1,(.r 13)),(1,1,(.r 15)),(2,1,(.r 17)),(3,1,(.r 20))]),se 4 4 21]<|.ret⟩
def Ev:An:=⟨[],[]⟩
def Bs:Go.Rmp.Fn:=⟨8,1,[.t 2],so [op 2 (.al (.c (.sl .nil [])))]<|sq (so [mv 3 0,op 4 (.eK false .slice (.r 3) (.c (.sl .nil [])))]<|.cond (.r 4) (so [op 2 (.al (.c (.sl .nil [])))]<|.ret) (.skip))<|so [op 5 (.kL 0 [.int .u8 0] []),mv 6 0,op 7 (.app 1 1 false (.r 5) (.r 6)),mv 2 7]<|.ret⟩
def Ew:An:=⟨[],[]⟩
def Bt:Go.Rmp.Fn:=⟨5,1,[.t 2],so [op 2 (.al (.c (.int .u32 0)))]<|so [mv 3 0,cl 4 114 [(.c (.int .u32 0)),.r 3],mv 2 4]<|.ret⟩
def Ey:An:=⟨[],[]⟩
def Bu:Go.Rmp.Fn:=⟨19,2,[.t 4],so [op 4 (.al (.c (.int .i64 0)))]<|sq (so [mv 6 0,dw 7 6,op 8 (.al (.c (.int .i64 0)))]<|.block 0 (.loop (so [b2 9 .lss 8 7]<|sq (cx 9 0)<|sq (.block 1 (so [mv 10 8,mv 5 10]<|so [mv 11 1,mv 12 0,mv 13 5,ia 14 1 12 13,l1 15 14,b2 16 .eql 11 15]<|.cond (.r 16) (so [mv 17 5,mv 4 17]<|.ret) (.skip)))<|.ops [op 18 (.bin .add (.r 8) (.c (.int .i64 1))),mv 8 18])))<|so [op 4 (.al (.c (.int .i64 (-1))))]<|.ret⟩
def Ez:An:=⟨[(9,2),(12,2),(13,2)],[]⟩
def Bv:Go.Rmp.Fn:=⟨54,2,[.t 4],so [op 4 (.al (.c (.str ⟨#[]⟩)))]<|sq (so [mv 10 1,op 11 (.bin .eql (.r 10) (.c (.int .i64 10)))]<|.cond (.r 11) (sq (so [mv 12 0,op 13 (.bin .leq (.c (.int .i64 0)) (.r 12)),mv 14 13,mt 15 0 14,gt 16 14 (.bin .lss (.r 15) (.c (.int .i64 100))),op 17 (.pick (.r 14) (.r 16) (.c (.bool false)))]<|.cond (.r 17) (so [mv 18 0,cl 19 115 [.r 18],mv 4 19]<|.ret) (.skip))<|so [op 5 (.alloc [.int .u8 0,.int .u8 0,.int .u8 0,.int .u8 0,.int .u8 0,.int .u8 0,.int .u8 0,.int .u8 0,.int .u8 0,.int .u8 0,.int .u8 0,.int .u8 0,.int .u8 0,.int .u8 0,.int .u8 0,.int .u8 0,.int .u8 0,.int .u8 0,.int .u8 0,.int .u8 0,.int .u8 0,.int .u8 0,.int .u8 0,.int .u8 0])]<|so [mv 20 0,op 21 (.fy .u64 (.r 20)),mv 6 21]<|sq (so [mv 22 0,op 23 (.bin .lss (.r 22) (.c (.int .i64 0)))]<|.cond (.r 23) (.ops [mv 24 6,op 25 (.un .neg (.r 24)),mv 6 25]) (.skip))<|so [mv 26 6,cl 27 116 [.r 26],mv 7 27]<|so [mv 28 7,op 29 (.bin .add (.c (.int .i64 1)) (.r 28)),⟨(some 30),.a6 (.c .dh) [],none,[]⟩,mv 31 6,cl 32 117 [.r 30,.r 31]]<|sq (so [mv 33 0,op 34 (.bin .lss (.r 33) (.c (.int .i64 0)))]<|.cond (.r 34) (so [op 35 (.vS 24 1 (.r 5) (.c (.int .i64 0))),ef (.st 1 (.r 35) (.c (.int .u8 45)))]<|so [mv 36 7,op 37 (.bin .add (.c (.int .i64 1)) (.r 36)),⟨(some 38),.a6 (.c .dh) [],none,[]⟩,op 39 (.vQ (.r 38)),mv 4 39]<|.ret) (.skip))<|so [mv 40 7,op 41 (.bin .add (.c (.int .i64 1)) (.r 40)),⟨(some 42),.a6 (.c .dh) [],none,[]⟩,op 43 (.vQ (.r 42)),mv 4 43]<|.ret) (.skip))<|so [mv 45 0,op 46 (.fy .u64 (.r 45)),mv 47 1,mv 48 0,op 49 (.bin .lss (.r 48) (.c (.int .i64 0))),cl 50 118 [(.c (.sl .nil [])),.r 46,.r 47,.r 49,(.c (.bool false))],mv 44 50,xt 51 0 44,xt 52 1 44,mv 8 51,mv 9 52]<|so [mv 53 9,mv 4 53]<|.ret⟩
def EA:An:=⟨[],[]⟩
def Bw:Go.Rmp.Fn:=⟨54,2,[.t 4,.t 5],so [op 4 (.al (.c (.int .i64 0))),op 5 (.al (.c (.bool false)))]<|so [mv 10 0,dw 11 10,mv 6 11]<|so [mv 12 6,op 7 (.al (.c (.int .i64 0))),mv 8 12]<|sq (.block 0 (.loop (sq (so [mv 13 7,mv 14 8,b2 15 .lss 13 14]<|cx 15 0)<|.block 1 (so [mv 16 7,mv 17 8,b2 18 .add 16 17,op 19 (.fy .u64 (.r 18)),op 20 (.bin .shr (.r 19) (.c (.int .u64 1))),op 21 (.fy .i64 (.r 20)),mv 9 21]<|so [mv 22 0,mv 23 9,ia 24 1 22 23,l1 25 24,mv 26 1,cl 27 129 [.r 25,.r 26]]<|.cond (.r 27) (.ops [mv 28 9,op 29 (.bin .add (.r 28) (.c (.int .i64 1))),mv 7 29]) (.ops [mv 30 9,mv 8 30])))))<|so [mv 31 7,mv 32 7,mv 33 6,b2 34 .lss 32 33,mv 35 34,mt 36 0 35,mt 37 7 35,gt 38 35 (.ja 1 (.r 36) (.r 37)),gt 39 35 (.ld 1 false (.r 38)),mt 40 1 35,gt 41 35 (.bin .eql (.r 39) (.r 40)),mt 42 41 35,mf 43 0 42,mf 44 7 42,gf 45 42 (.ja 1 (.r 43) (.r 44)),gf 46 42 (.ld 1 false (.r 45)),⟨(some 47),.call 130 [.r 46],(some (42,false)),[]⟩,mf 48 47 42,mt 49 1 48,⟨(some 50),.call 130 [.r 49],(some (48,true)),[]⟩,gf 51 42 (.pick (.r 48) (.r 50) (.c (.bool false))),gt 52 35 (.pick (.r 42) (.c (.bool true)) (.r 51)),op 53 (.pick (.r 35) (.r 52) (.c (.bool false))),mv 4 31,mv 5 53]<|.ret⟩
def Bx:An:=⟨[(3,3)],[]⟩
def wT:Go.Rmp.Fn:=⟨13,2,[.t 4],so [op 2 (.box (.r 0)),op 4 (.al (.c (.sl .nil [])))]<|sq (so [mv 6 1]<|.block 0 (.bo 13 (.r 6) [7] (.ops [mv 5 7]) (.block 1 (.ops [l1 8 2,mv 9 5,op 10 (.kL 1 [.str ⟨#[]⟩] [(0,(.r 9))]),op 11 (.app 1 16 true (.r 8) (.r 10)),se 1 2 11]))))<|so [l1 12 2,mv 4 12]<|.ret⟩
def Bz:An:=⟨[],[(17,[(0,true),(1,true),(2,true),(3,true),(4,true),(5,true),(6,true),(7,true),(8,true),(9,true),(10,true),(11,true),(12,false),(13,true),(14,true)])]⟩
def wU:Go.Rmp.Fn:=⟨134,4,[],so [op 8 (.al (.c (.bool true)))]<|so [op 9 (.al (.c (.bool true)))]<|.block 0 (.loop (.block 1 (so [mv 19 2,mv 20 1,b2 21 .sub 19 20,mv 10 21]<|sq (so [mv 22 10,op 23 (.bin .leq (.r 22) (.c (.int .i64 12)))]<|.cond (.r 23) (so [mv 24 0,mv 25 1,mv 26 2,cl 27 133 [.r 24,.r 25,.r 26]]<|.ret) (.skip))<|sq (so [mv 28 3,op 29 (.bin .eql (.r 28) (.c (.int .i64 0)))]<|.cond (.r 29) (so [mv 30 0,mv 31 1,mv 32 2,cl 33 134 [.r 30,.r 31,.r 32]]<|.ret) (.skip))<|sq (so [mv 34 8,op 35 (.un .not (.r 34))]<|.cond (.r 35) (so [mv 36 0,mv 37 1,mv 38 2,cl 39 135 [.r 36,.r 37,.r 38]]<|.ops [mv 40 3,op 41 (.bin .sub (.r 40) (.c (.int .i64 1))),mv 3 41]) (.skip))<|so [mv 43 0,mv 44 1,mv 45 2,cl 46 136 [.r 43,.r 44,.r 45],mv 42 46,xt 47 0 42,xt 48 1 42,mv 11 47,mv 12 48]<|sq (so [mv 49 12,op 50 (.bin .eql (.r 49) (.c (.int .i64 2)))]<|.cond (.r 50) (so [mv 51 0,mv 52 1,mv 53 2,cl 54 137 [.r 51,.r 52,.r 53]]<|so [mv 55 2,op 56 (.bin .sub (.r 55) (.c (.int .i64 1))),mv 57 11,mv 58 1,b2 59 .sub 57 58,b2 60 .sub 56 59,mv 11 60]<|.ops [op 12 (.al (.c (.int .i64 1)))]) (.skip))<|sq (so [mv 61 8,mv 62 61,mt 63 9 62,op 64 (.pick (.r 62) (.r 63) (.c (.bool false))),mv 65 64,mt 66 12 65,gt 67 65 (.bin .eql (.r 66) (.c (.int .i64 1))),op 68 (.pick (.r 65) (.r 67) (.c (.bool false)))]<|.cond (.r 68) (so [mv 69 0,mv 70 1,mv 71 2,cl 72 138 [.r 69,.r 70,.r 71]]<|.cond (.r 72) (.ret) (.skip)) (.skip))<|sq (so [mv 73 1,op 74 (.bin .gtr (.r 73) (.c (.int .i64 0))),mv 75 74,mt 76 0 75,mt 77 1 75,gt 78 75 (.bin .sub (.r 77) (.c (.int .i64 1))),gt 79 75 (.ja 1 (.r 76) (.r 78)),gt 80 75 (.ld 1 false (.r 79)),mt 81 0 75,mt 82 11 75,gt 83 75 (.ja 1 (.r 81) (.r 82)),gt 84 75 (.ld 1 false (.r 83)),⟨(some 85),.call 129 [.r 80,.r 84],(some (75,true)),[]⟩,gt 86 75 (.un .not (.r 85)),op 87 (.pick (.r 75) (.r 86) (.c (.bool false)))]<|.cond (.r 87) (so [mv 88 0,mv 89 1,mv 90 2,mv 91 11,cl 92 139 [.r 88,.r 89,.r 90,.r 91],mv 13 92]<|so [mv 93 13,mv 1 93]<|.exit 1) (.skip))<|so [mv 95 0,mv 96 1,mv 97 2,mv 98 11,cl 99 140 [.r 95,.r 96,.r 97,.r 98],mv 94 99,xt 100 0 94,xt 101 1 94,mv 14 100,mv 15 101]<|so [mv 102 15,mv 9 102]<|so [mv 103 14,mv 104 1,b2 105 .sub 103 104,mv 106 2,mv 107 14,b2 108 .sub 106 107,mv 16 105,mv 17 108]<|so [mv 109 10,op 110 (.bin .quo (.r 109) (.c (.int .i64 8))),mv 18 110]<|so [mv 111 16,mv 112 17,b2 113 .lss 111 112]<|.cond (.r 113) (so [mv 114 16,mv 115 18,b2 116 .geq 114 115,mv 8 116]<|so [mv 117 0,mv 118 1,mv 119 14,mv 120 3,cl 121 105 [.r 117,.r 118,.r 119,.r 120]]<|.ops [mv 122 14,op 123 (.bin .add (.r 122) (.c (.int .i64 1))),mv 1 123]) (so [mv 124 17,mv 125 18,b2 126 .geq 124 125,mv 8 126]<|so [mv 127 0,mv 128 14,op 129 (.bin .add (.r 128) (.c (.int .i64 1))),mv 130 2,mv 131 3,cl 132 105 [.r 127,.r 129,.r 130,.r 131]]<|.ops [mv 133 14,mv 2 133]))))⟩
def BA:An:=⟨[],[]⟩
def wV:Go.Rmp.Fn:=⟨8,1,[.t 2],so [op 2 (.al (.c (.int .i64 0)))]<|sq (.cond (.c (.bool false)) (so [mv 3 0,op 4 (.fy .u32 (.r 3)),cl 5 141 [.r 4],mv 2 5]<|.ret) (.skip))<|so [mv 6 0,cl 7 142 [.r 6],mv 2 7]<|.ret⟩
def BB:An:=⟨[],[]⟩
def wW:Go.Rmp.Fn:=⟨14,2,[],so [l1 4 1,op 5 (.vU (.r 4))]<|.block 0 (.loop (so [op 6 (.gL (.r 5)),xt 7 0 6]<|sq (cx 7 0)<|.block 1 (so [op 8 (.vV (.r 5)),xt 9 0 8,mv 3 9]<|so [mv 10 0,mv 11 3,⟨(some 12),.a6 (.r 10) [.r 11],none,[]⟩,op 13 (.un .not (.r 12))]<|.cond (.r 13) (.ret) (.skip))))⟩
def BC:An:=⟨[],[]⟩
def wX:Go.Rmp.Fn:=⟨5,1,[.t 2],so [op 2 (.al (.c (.sl .nil [])))]<|so [mv 3 0,cl 4 143 [(.c (.sl .nil [])),.r 3],mv 2 4]<|.ret⟩
def BD:An:=⟨[],[]⟩
def wY:Go.Rmp.Fn:=⟨14,2,[],so [mv 5 0,dw 6 5,mv 4 6]<|.ops [mv 7 0,mv 8 4,mv 9 4,op 10 (.fy .u64 (.r 9)),cl 11 106 [.r 10],mv 12 1,cl 13 144 [.r 7,(.c (.int .i64 0)),.r 8,.r 11,.r 12]]⟩
def BE:An:=⟨[],[]⟩
def wZ:Go.Rmp.Fn:=⟨14,2,[],so [l1 4 1,op 5 (.vU (.r 4))]<|.block 0 (.loop (so [op 6 (.gL (.r 5)),xt 7 0 6]<|sq (cx 7 0)<|.block 1 (so [op 8 (.vV (.r 5)),xt 9 0 8,op 3 (.alloc [.str ⟨#[]⟩,.int .u64 0]),se 2 3 9]<|so [mv 10 0,ln 11 2 3,⟨(some 12),.a6 (.r 10) [.r 11],none,[]⟩,op 13 (.un .not (.r 12))]<|.cond (.r 13) (.ret) (.skip))))⟩
def BF:An:=⟨[],[]⟩
def w4:Go.Rmp.Fn:=⟨39,2,[.t 4],so [op 4 (.al (.c (.int .u32 0)))]<|so [cl 9 146 [],op 5 (.alloc [.int .u32 0,.int .u32 0,.int .u32 0,.int .u32 0,.int .u32 0,.int .u32 0,.int .u32 0,.int .u32 0,.int .u32 0,.int .u32 0,.int .u32 0,.int .u32 0,.int .u32 0,.int .u32 0,.int .u32 0,.int .u32 0]),se 16 5 9]<|so [mv 10 0,op 11 (.un .xor (.r 10)),mv 6 11]<|sq (so [mv 12 1,dw 13 12,op 14 (.al (.c (.int .i64 0)))]<|.block 0 (.loop (so [b2 15 .lss 14 13]<|sq (cx 15 0)<|sq (.block 1 (so [ia 16 1 12 14,l1 17 16,mv 8 17]<|so [mv 18 6,mv 19 8,op 20 (.fy .u32 (.r 19)),b2 21 .xor 18 20,mv 6 21]<|so [mv 22 6,op 23 (.bin .shr (.r 22) (.c (.int .u64 4))),mv 24 6,op 25 (.bin .and (.r 24) (.c (.int .u32 15))),op 26 (.vS 16 1 (.r 5) (.r 25)),l1 27 26,b2 28 .xor 23 27,mv 6 28]<|.ops [mv 29 6,op 30 (.bin .shr (.r 29) (.c (.int .u64 4))),mv 31 6,op 32 (.bin .and (.r 31) (.c (.int .u32 15))),op 33 (.vS 16 1 (.r 5) (.r 32)),l1 34 33,b2 35 .xor 30 34,mv 6 35]))<|.ops [op 36 (.bin .add (.r 14) (.c (.int .i64 1))),mv 14 36])))<|so [mv 37 6,op 38 (.un .xor (.r 37)),mv 4 38]<|.ret⟩
def BG:An:=⟨[],[]⟩
def w5:Go.Rmp.Fn:=⟨15,1,[.t 2],so [op 2 (.al (.c (.str ⟨#[]⟩)))]<|sq (so [mv 3 0,op 4 (.bin .lss (.r 3) (.c (.int .i64 10)))]<|.cond (.r 4) (so [mv 5 0,mv 6 0,op 7 (.bin .add (.r 6) (.c (.int .i64 1))),op 8 (.xh (.c (.str ⟨#[48,49,50,51,52,53,54,55,56,57,97,98,99,100,101,102,103,104,105,106,107,108,109,110,111,112,113,114,115,116,117,118,119,120,121,122]⟩)) (some (.r 5)) (some (.r 7))),mv 2 8]<|.ret) (.skip))<|so [mv 9 0,op 10 (.bin .mul (.r 9) (.c (.int .i64 2))),mv 11 0,op 12 (.bin .mul (.r 11) (.c (.int .i64 2))),op 13 (.bin .add (.r 12) (.c (.int .i64 2))),op 14 (.xh (.c (.str ⟨#[48,48,48,49,48,50,48,51,48,52,48,53,48,54,48,55,48,56,48,57,49,48,49,49,49,50,49,51,49,52,49,53,49,54,49,55,49,56,49,57,50,48,50,49,50,50,50,51,50,52,50,53,50,54,50,55,50,56,50,57,51,48,51,49,51,50,51,51,51,52,51,53,51,54,51,55,51,56,51,57,52,48,52,49,52,50,52,51,52,52,52,53,52,54,52,55,52,56,52,57,53,48,53,49,53,50,53,51,53,52,53,53,53,54,53,55,53,56,53,57,54,48,54,49,54,50,54,51,54,52,54,53,54,54,54,55,54,56,54,57,55,48,55,49,55,50,55,51,55,52,55,53,55,54,55,55,55,56,55,57,56,48,56,49,56,50,56,51,56,52,56,53,56,54,56,55,56,56,56,57,57,48,57,49,57,50,57,51,57,52,57,53,57,54,57,55,57,56,57,57]⟩)) (some (.r 10)) (some (.r 13))),mv 2 14]<|.ret⟩
def BH:An:=⟨[],[]⟩
def w6:Go.Rmp.Fn:=⟨17,2,[.t 4],so [op 4 (.al (.c (.bool false)))]<|so [mv 5 0,cl 6 145 [.r 5],mv 7 6,mt 8 1 7,⟨(some 9),.call 145 [.r 8],(some (7,true)),[]⟩,gt 10 7 (.un .not (.r 9)),op 11 (.pick (.r 7) (.r 10) (.c (.bool false))),mv 12 11,mf 13 0 12,mf 14 1 12,gf 15 12 (.bin .lss (.r 13) (.r 14)),op 16 (.pick (.r 12) (.c (.bool true)) (.r 15)),mv 4 16]<|.ret⟩
def BI:An:=⟨[],[(4,[(0,true),(1,true),(2,true),(3,true),(4,true),(5,true),(6,true),(7,true),(8,true),(9,true),(10,true),(11,true),(12,true),(13,false),(14,true)]),(6,[(0,true),(1,true),(2,true),(3,true),(4,true),(5,true),(6,true),(7,true),(8,true),(9,true),(10,true),(11,true),(12,true),(13,true),(14,true),(15,false),(16,true),(17,false)])]⟩
def w7:Go.Rmp.Fn:=⟨49,3,[],so [mv 8 1,op 9 (.bin .add (.r 8) (.c (.int .i64 1))),mv 6 9]<|.block 0 (.loop (sq (so [mv 10 6,mv 11 2,b2 12 .lss 10 11]<|cx 12 0)<|sq (.block 1 (so [mv 15 6,mv 7 15]<|.block 2 (.loop (sq (so [mv 16 7,mv 17 1,b2 18 .gtr 16 17,mv 19 18,mt 20 0 19,mt 21 7 19,gt 22 19 (.ja 1 (.r 20) (.r 21)),gt 23 19 (.ld 1 false (.r 22)),mt 24 0 19,mt 25 7 19,gt 26 19 (.bin .sub (.r 25) (.c (.int .i64 1))),gt 27 19 (.ja 1 (.r 24) (.r 26)),gt 28 19 (.ld 1 false (.r 27)),⟨(some 29),.call 129 [.r 23,.r 28],(some (19,true)),[]⟩,op 30 (.pick (.r 19) (.r 29) (.c (.bool false)))]<|cx 30 2)<|sq (.block 3 (.ops [mv 33 0,mv 34 7,mv 35 0,mv 36 7,op 37 (.bin .sub (.r 36) (.c (.int .i64 1))),mv 38 0,mv 39 7,op 40 (.bin .sub (.r 39) (.c (.int .i64 1))),ia 41 1 38 40,l1 42 41,mv 43 0,mv 44 7,ia 45 1 43 44,l1 46 45,ia 47 1 33 34,se 1 47 42,ia 48 1 35 37,se 1 48 46]))<|.ops [mv 31 7,op 32 (.bin .sub (.r 31) (.c (.int .i64 1))),mv 7 32]))))<|.ops [mv 13 6,op 14 (.bin .add (.r 13) (.c (.int .i64 1))),mv 6 14]))⟩
def BJ:An:=⟨[],[]⟩
def w8:Go.Rmp.Fn:=⟨25,1,[.t 2],so [op 2 (.al (.c (.int .i64 0)))]<|sq (so [mv 3 0,op 4 (.bin .geq (.r 3) (.c (.int .u64 4294967296)))]<|.cond (.r 4) (so [mv 5 0,op 6 (.bin .shr (.r 5) (.c (.int .u64 32))),mv 0 6]<|.ops [op 2 (.al (.c (.int .i64 32)))]) (.skip))<|sq (so [mv 7 0,op 8 (.bin .geq (.r 7) (.c (.int .u64 65536)))]<|.cond (.r 8) (so [mv 9 0,op 10 (.bin .shr (.r 9) (.c (.int .u64 16))),mv 0 10]<|.ops [mv 11 2,op 12 (.bin .add (.r 11) (.c (.int .i64 16))),mv 2 12]) (.skip))<|sq (so [mv 13 0,op 14 (.bin .geq (.r 13) (.c (.int .u64 256)))]<|.cond (.r 14) (so [mv 15 0,op 16 (.bin .shr (.r 15) (.c (.int .u64 8))),mv 0 16]<|.ops [mv 17 2,op 18 (.bin .add (.r 17) (.c (.int .i64 8))),mv 2 18]) (.skip))<|so [mv 19 2,mv 20 0,op 21 (.fy .u8 (.r 20)),op 22 (.za (.c (.str ⟨#[0,1,2,2,3,3,3,3,4,4,4,4,4,4,4,4,5,5,5,5,5,5,5,5,5,5,5,5,5,5,5,5,6,6,6,6,6,6,6,6,6,6,6,6,6,6,6,6,6,6,6,6,6,6,6,6,6,6,6,6,6,6,6,6,7,7,7,7,7,7,7,7,7,7,7,7,7,7,7,7,7,7,7,7,7,7,7,7,7,7,7,7,7,7,7,7,7,7,7,7,7,7,7,7,7,7,7,7,7,7,7,7,7,7,7,7,7,7,7,7,7,7,7,7,7,7,7,7,8,8,8,8,8,8,8,8,8,8,8,8,8,8,8,8,8,8,8,8,8,8,8,8,8,8,8,8,8,8,8,8,8,8,8,8,8,8,8,8,8,8,8,8,8,8,8,8,8,8,8,8,8,8,8,8,8,8,8,8,8,8,8,8,8,8,8,8,8,8,8,8,8,8,8,8,8,8,8,8,8,8,8,8,8,8,8,8,8,8,8,8,8,8,8,8,8,8,8,8,8,8,8,8,8,8,8,8,8,8,8,8,8,8,8,8,8,8,8,8,8,8,8,8,8,8,8,8]⟩)) (.r 21)),op 23 (.fy .i64 (.r 22)),b2 24 .add 19 23,mv 2 24]<|.ret⟩
def BK:An:=⟨[(3,3)],[]⟩
def w9:Go.Rmp.Fn:=⟨13,2,[.t 4],so [op 2 (.box (.r 0)),op 4 (.al (.c (.sl .nil [])))]<|sq (so [mv 6 1]<|.block 0 (.bo 13 (.r 6) [7] (.ops [op 5 (.alloc [.str ⟨#[]⟩,.int .u64 0]),se 2 5 7]) (.block 1 (.ops [l1 8 2,ln 9 2 5,op 10 (.kL 1 [.str ⟨#[]⟩,.int .u64 0] [(0,(.r 9))]),op 11 (.app 2 24 true (.r 8) (.r 10)),se 1 2 11]))))<|so [l1 12 2,mv 4 12]<|.ret⟩
def BL:An:=⟨[],[(17,[(0,true),(1,true),(2,true),(3,true),(4,true),(5,true),(6,true),(7,true),(8,true),(9,true),(10,true),(11,true),(12,true),(13,false),(14,true),(15,true),(16,true)])]⟩
def xa:Go.Rmp.Fn:=⟨148,5,[],so [op 10 (.al (.c (.bool true)))]<|so [op 11 (.al (.c (.bool true)))]<|.block 0 (.loop (.block 1 (so [mv 21 2,mv 22 1,b2 23 .sub 21 22,mv 12 23]<|sq (so [mv 24 12,op 25 (.bin .leq (.r 24) (.c (.int .i64 12)))]<|.cond (.r 25) (so [mv 26 0,mv 27 1,mv 28 2,mv 29 4,cl 30 168 [.r 26,.r 27,.r 28,.r 29]]<|.ret) (.skip))<|sq (so [mv 31 3,op 32 (.bin .eql (.r 31) (.c (.int .i64 0)))]<|.cond (.r 32) (so [mv 33 0,mv 34 1,mv 35 2,mv 36 4,cl 37 169 [.r 33,.r 34,.r 35,.r 36]]<|.ret) (.skip))<|sq (so [mv 38 10,op 39 (.un .not (.r 38))]<|.cond (.r 39) (so [mv 40 0,mv 41 1,mv 42 2,mv 43 4,cl 44 170 [.r 40,.r 41,.r 42,.r 43]]<|.ops [mv 45 3,op 46 (.bin .sub (.r 45) (.c (.int .i64 1))),mv 3 46]) (.skip))<|so [mv 48 0,mv 49 1,mv 50 2,mv 51 4,cl 52 171 [.r 48,.r 49,.r 50,.r 51],mv 47 52,xt 53 0 47,xt 54 1 47,mv 13 53,mv 14 54]<|sq (so [mv 55 14,op 56 (.bin .eql (.r 55) (.c (.int .i64 2)))]<|.cond (.r 56) (so [mv 57 0,mv 58 1,mv 59 2,mv 60 4,cl 61 172 [.r 57,.r 58,.r 59,.r 60]]<|so [mv 62 2,op 63 (.bin .sub (.r 62) (.c (.int .i64 1))),mv 64 13,mv 65 1,b2 66 .sub 64 65,b2 67 .sub 63 66,mv 13 67]<|.ops [op 14 (.al (.c (.int .i64 1)))]) (.skip))<|sq (so [mv 68 10,mv 69 68,mt 70 11 69,op 71 (.pick (.r 69) (.r 70) (.c (.bool false))),mv 72 71,mt 73 14 72,gt 74 72 (.bin .eql (.r 73) (.c (.int .i64 1))),op 75 (.pick (.r 72) (.r 74) (.c (.bool false)))]<|.cond (.r 75) (so [mv 76 0,mv 77 1,mv 78 2,mv 79 4,cl 80 173 [.r 76,.r 77,.r 78,.r 79]]<|.cond (.r 80) (.ret) (.skip)) (.skip))<|sq (so [mv 81 1,op 82 (.bin .gtr (.r 81) (.c (.int .i64 0))),mv 83 82,mt 84 4 83,mt 85 0 83,mt 86 1 83,gt 87 83 (.bin .sub (.r 86) (.c (.int .i64 1))),gt 88 83 (.ja 2 (.r 85) (.r 87)),gt 89 83 (.ld 2 true (.r 88)),mt 90 0 83,mt 91 13 83,gt 92 83 (.ja 2 (.r 90) (.r 91)),gt 93 83 (.ld 2 true (.r 92)),⟨(some 94),.a6 (.r 84) [.r 89,.r 93],(some (83,true)),[]⟩,gt 95 83 (.bin .lss (.r 94) (.c (.int .i64 0))),gt 96 83 (.un .not (.r 95)),op 97 (.pick (.r 83) (.r 96) (.c (.bool false)))]<|.cond (.r 97) (so [mv 98 0,mv 99 1,mv 100 2,mv 101 13,mv 102 4,cl 103 174 [.r 98,.r 99,.r 100,.r 101,.r 102],mv 15 103]<|so [mv 104 15,mv 1 104]<|.exit 1) (.skip))<|so [mv 106 0,mv 107 1,mv 108 2,mv 109 13,mv 110 4,cl 111 175 [.r 106,.r 107,.r 108,.r 109,.r 110],mv 105 111,xt 112 0 105,xt 113 1 105,mv 16 112,mv 17 113]<|so [mv 114 17,mv 11 114]<|so [mv 115 16,mv 116 1,b2 117 .sub 115 116,mv 118 2,mv 119 16,b2 120 .sub 118 119,mv 18 117,mv 19 120]<|so [mv 121 12,op 122 (.bin .quo (.r 121) (.c (.int .i64 8))),mv 20 122]<|so [mv 123 18,mv 124 19,b2 125 .lss 123 124]<|.cond (.r 125) (so [mv 126 18,mv 127 20,b2 128 .geq 126 127,mv 10 128]<|so [mv 129 0,mv 130 1,mv 131 16,mv 132 3,mv 133 4,cl 134 144 [.r 129,.r 130,.r 131,.r 132,.r 133]]<|.ops [mv 135 16,op 136 (.bin .add (.r 135) (.c (.int .i64 1))),mv 1 136]) (so [mv 137 19,mv 138 20,b2 139 .geq 137 138,mv 10 139]<|so [mv 140 0,mv 141 16,op 142 (.bin .add (.r 141) (.c (.int .i64 1))),mv 143 2,mv 144 3,mv 145 4,cl 146 144 [.r 140,.r 142,.r 143,.r 144,.r 145]]<|.ops [mv 147 16,mv 2 147]))))⟩
def BM:An:=⟨[],[]⟩
def xb:Go.Rmp.Fn:=⟨6,1,[.t 2],so [op 2 (.al (.c (.bool false)))]<|so [mv 3 0,mv 4 0,b2 5 .neq 3 4,mv 2 5]<|.ret⟩
def BN:An:=⟨[],[]⟩
def xc:Go.Rmp.Fn:=⟨19,0,[.cl 0 16 true],so [op 0 (.alloc [.int .u32 0,.int .u32 0,.int .u32 0,.int .u32 0,.int .u32 0,.int .u32 0,.int .u32 0,.int .u32 0,.int .u32 0,.int .u32 0,.int .u32 0,.int .u32 0,.int .u32 0,.int .u32 0,.int .u32 0,.int .u32 0])]<|so [op 1 (.alloc [.int .u32 0,.int .u32 0,.int .u32 0,.int .u32 0,.int .u32 0,.int .u32 0,.int .u32 0,.int .u32 0,.int .u32 0,.int .u32 0,.int .u32 0,.int .u32 0,.int .u32 0,.int .u32 0,.int .u32 0,.int .u32 0])]<|sq (so [op 4 (.al (.c (.int .i64 0)))]<|.block 0 (.loop (so [op 5 (.bin .lss (.r 4) (.c (.int .i64 16)))]<|sq (cx 5 0)<|sq (.block 1 (so [mv 6 4,mv 2 6]<|so [mv 7 2,op 8 (.fy .u32 (.r 7)),mv 3 8]<|sq (so [op 9 (.al (.c (.int .i64 0)))]<|.block 2 (.loop (so [op 10 (.bin .lss (.r 9) (.c (.int .i64 4)))]<|sq (cx 10 2)<|sq (.block 3 (.ops [mv 11 3,cl 12 176 [.r 11],mv 3 12]))<|.ops [op 13 (.bin .add (.r 9) (.c (.int .i64 1))),mv 9 13])))<|.ops [mv 14 2,mv 15 3,op 16 (.vS 16 1 (.r 1) (.r 14)),se 1 16 15]))<|.ops [op 17 (.bin .add (.r 4) (.c (.int .i64 1))),mv 4 17])))<|so [ln 18 16 1,se 16 0 18]<|.ret⟩
def BO:An:=⟨[],[(4,[(0,true),(1,true),(2,true),(3,true),(4,true),(5,true),(6,true),(7,true),(8,true),(9,true),(10,true),(11,true),(12,true),(13,true),(14,false),(15,true),(16,true)]),(6,[(0,true),(1,true),(2,true),(3,true),(4,true),(5,true),(6,true),(7,true),(8,true),(9,true),(10,true),(11,true),(12,true),(13,true),(14,true),(15,false),(16,true),(17,false)])]⟩
def xd:Go.Rmp.Fn:=⟨53,4,[],so [mv 10 1,op 11 (.bin .add (.r 10) (.c (.int .i64 1))),mv 8 11]<|.block 0 (.loop (sq (so [mv 12 8,mv 13 2,b2 14 .lss 12 13]<|cx 14 0)<|sq (.block 1 (so [mv 17 8,mv 9 17]<|.block 2 (.loop (sq (so [mv 18 9,mv 19 1,b2 20 .gtr 18 19,mv 21 20,mt 22 3 21,mt 23 0 21,mt 24 9 21,gt 25 21 (.ja 2 (.r 23) (.r 24)),gt 26 21 (.ld 2 true (.r 25)),mt 27 0 21,mt 28 9 21,gt 29 21 (.bin .sub (.r 28) (.c (.int .i64 1))),gt 30 21 (.ja 2 (.r 27) (.r 29)),gt 31 21 (.ld 2 true (.r 30)),⟨(some 32),.a6 (.r 22) [.r 26,.r 31],(some (21,true)),[]⟩,gt 33 21 (.bin .lss (.r 32) (.c (.int .i64 0))),op 34 (.pick (.r 21) (.r 33) (.c (.bool false)))]<|cx 34 2)<|sq (.block 3 (.ops [mv 37 0,mv 38 9,mv 39 0,mv 40 9,op 41 (.bin .sub (.r 40) (.c (.int .i64 1))),mv 42 0,mv 43 9,op 44 (.bin .sub (.r 43) (.c (.int .i64 1))),ia 45 2 42 44,ln 46 2 45,mv 47 0,mv 48 9,ia 49 2 47 48,ln 50 2 49,ia 51 2 37 38,se 2 51 46,ia 52 2 39 41,se 2 52 50]))<|.ops [mv 35 9,op 36 (.bin .sub (.r 35) (.c (.int .i64 1))),mv 9 36]))))<|.ops [mv 15 8,op 16 (.bin .add (.r 15) (.c (.int .i64 1))),mv 8 16]))⟩
def BP:An:=⟨[],[]⟩
def xe:Go.Rmp.Fn:=⟨11,1,[.t 2],so [op 2 (.al (.c (.int .u32 0)))]<|sq (so [mv 3 0,op 4 (.bin .and (.r 3) (.c (.int .u32 1))),op 5 (.bin .eql (.r 4) (.c (.int .u32 1)))]<|.cond (.r 5) (so [mv 6 0,op 7 (.bin .shr (.r 6) (.c (.int .u64 1))),op 8 (.bin .xor (.r 7) (.c (.int .u32 3988292384))),mv 2 8]<|.ret) (.skip))<|so [mv 9 0,op 10 (.bin .shr (.r 9) (.c (.int .u64 1))),mv 2 10]<|.ret⟩
theorem c4:af Tryz.prog G3 4=some DA:=by kernel_rfl
theorem c7:af Tryz.prog G4 7=some FM:=by kernel_rfl
theorem c8:af Tryz.prog G5 8=some DB:=by kernel_rfl
theorem c9:af Tryz.prog G6 9=some DC:=by kernel_rfl
theorem G7:af Tryz.prog DD 10=some yD:=by kernel_rfl
theorem G8:af Tryz.prog DE 11=some yE:=by kernel_rfl
theorem G9:af Tryz.prog DF 12=some pD:=by kernel_rfl
theorem Ha:af Tryz.prog DG 13=some yF:=by kernel_rfl
theorem Hb:af Tryz.prog DH 17=some AH:=by kernel_rfl
theorem Hc:af Tryz.prog DI 18=some AI:=by kernel_rfl
theorem He:af Tryz.prog DJ 19=some AJ:=by kernel_rfl
theorem Hf:af Tryz.prog DK 20=some AK:=by kernel_rfl
theorem Hg:af Tryz.prog DL 21=some AL:=by kernel_rfl
theorem Hi:af Tryz.prog DM 22=some AM:=by kernel_rfl
theorem Hj:af Tryz.prog DN 23=some yG:=by kernel_rfl
theorem Hk:af Tryz.prog DP 24=some yH:=by kernel_rfl
theorem Hl:af Tryz.prog DQ 25=some AN:=by kernel_rfl
theorem Hm:af Tryz.prog DR 26=some AO:=by kernel_rfl
theorem Ho:af Tryz.prog DS 27=some AP:=by kernel_rfl
theorem Hp:af Tryz.prog DT 28=some AQ:=by kernel_rfl
theorem Hq:af Tryz.prog DU 29=some AR:=by kernel_rfl
theorem Hr:af Tryz.prog DV 35=some AS:=by kernel_rfl
theorem Hs:af Tryz.prog DW 36=some AU:=by kernel_rfl
theorem Ht:af Tryz.prog DX 37=some AV:=by kernel_rfl
theorem Hu:af Tryz.prog DY 38=some AW:=by kernel_rfl
theorem Hv:af Tryz.prog DZ 39=some yI:=by kernel_rfl
theorem Hw:af Tryz.prog D0 40=some AX:=by kernel_rfl
theorem Hx:af Tryz.prog D1 41=some AY:=by kernel_rfl
theorem Hy:af Tryz.prog D2 42=some AZ:=by kernel_rfl
theorem Hz:af Tryz.prog D3 43=some A0:=by kernel_rfl
theorem HA:af Tryz.prog D4 44=some A1:=by kernel_rfl
theorem HB:af Tryz.prog D5 45=some A2:=by kernel_rfl
theorem HC:af Tryz.prog D6 46=some A3:=by kernel_rfl
theorem HD:af Tryz.prog D7 47=some A4:=by kernel_rfl
theorem HE:af Tryz.prog D8 48=some A5:=by kernel_rfl
theorem HF:af Tryz.prog D9 49=some A6:=by kernel_rfl
theorem HG:af Tryz.prog Ea 50=some A7:=by kernel_rfl
theorem HH:af Tryz.prog Eb 51=some A8:=by kernel_rfl
theorem HI:af Tryz.prog Ec 52=some A9:=by kernel_rfl
theorem HJ:af Tryz.prog Ed 54=some Ba:=by kernel_rfl
theorem HK:af Tryz.prog Ee 55=some Bb:=by kernel_rfl
theorem HL:af Tryz.prog Ef 56=some Bc:=by kernel_rfl
theorem HM:af Tryz.prog Eg 57=some Bd:=by kernel_rfl
theorem HN:af Tryz.prog Eh 65=some Be:=by kernel_rfl
theorem HO:af Tryz.prog Ei 66=some Bf:=by kernel_rfl
theorem HP:af Tryz.prog Ej 67=some Bg:=by kernel_rfl
theorem HQ:af Tryz.prog Ek 68=some Bh:=by kernel_rfl
theorem HR:af Tryz.prog El 70=some Bi:=by kernel_rfl
theorem HS:af Tryz.prog Em 71=some Bj:=by kernel_rfl
theorem HT:af Tryz.prog En 72=some Bk:=by kernel_rfl
theorem HU:af Tryz.prog Eo 73=some Bl:=by kernel_rfl
theorem HV:af Tryz.prog Ep 74=some Bm:=by kernel_rfl
theorem HW:af Tryz.prog Er 75=some Bn:=by kernel_rfl
theorem HX:af Tryz.prog Es 76=some Bp:=by kernel_rfl
theorem HY:af Tryz.prog Et 77=some Bq:=by kernel_rfl
theorem HZ:af Tryz.prog Eu 79=some Br:=by kernel_rfl
theorem H4:af Tryz.prog Ev 80=some Bs:=by kernel_rfl
theorem H8:af Tryz.prog Ew 81=some Bt:=by kernel_rfl
theorem H9:af Tryz.prog Ey 82=some Bu:=by kernel_rfl
theorem Ia:af Tryz.prog Ez 83=some Bv:=by kernel_rfl
theorem Ib:af Tryz.prog EA 99=some Bw:=by kernel_rfl
theorem EB:af Tryz.prog Bx 104=some wT:=by kernel_rfl
theorem EC:af Tryz.prog Bz 105=some wU:=by kernel_rfl
theorem ED:af Tryz.prog BA 106=some wV:=by kernel_rfl
theorem EE:af Tryz.prog BB 107=some wW:=by kernel_rfl
theorem EF:af Tryz.prog BC 108=some wX:=by kernel_rfl
theorem EG:af Tryz.prog BD 109=some wY:=by kernel_rfl
theorem EH:af Tryz.prog BE 110=some wZ:=by kernel_rfl
theorem EI:af Tryz.prog BF 114=some w4:=by kernel_rfl
theorem EJ:af Tryz.prog BG 115=some w5:=by kernel_rfl
theorem EK:af Tryz.prog BH 129=some w6:=by kernel_rfl
theorem EL:af Tryz.prog BI 133=some w7:=by kernel_rfl
theorem EM:af Tryz.prog BJ 142=some w8:=by kernel_rfl
theorem EN:af Tryz.prog BK 143=some w9:=by kernel_rfl
theorem EO:af Tryz.prog BL 144=some xa:=by kernel_rfl
theorem EP:af Tryz.prog BM 145=some xb:=by kernel_rfl
theorem ER:af Tryz.prog BN 146=some xc:=by kernel_rfl
theorem ES:af Tryz.prog BO 168=some xd:=by kernel_rfl
theorem ET:af Tryz.prog BP 176=some xe:=by kernel_rfl
def xf:Nat→Option Go.Rmp.Fn
 | 4=>some DA
 | 7=>some FM
 | 8=>some DB
 | 9=>some DC
 | 10=>some yD
 | 11=>some yE
 | 12=>some pD
 | 13=>some yF
 | 17=>some AH
 | 18=>some AI
 | 19=>some AJ
 | 20=>some AK
 | 21=>some AL
 | 22=>some AM
 | 23=>some yG
 | 24=>some yH
 | 25=>some AN
 | 26=>some AO
 | 27=>some AP
 | 28=>some AQ
 | 29=>some AR
 | 35=>some AS
 | 36=>some AU
 | 37=>some AV
 | 38=>some AW
 | 39=>some yI
 | 40=>some AX
 | 41=>some AY
 | 42=>some AZ
 | 43=>some A0
 | 44=>some A1
 | 45=>some A2
 | 46=>some A3
 | 47=>some A4
 | 48=>some A5
 | 49=>some A6
 | 50=>some A7
 | 51=>some A8
 | 52=>some A9
 | 54=>some Ba
 | 55=>some Bb
 | 56=>some Bc
 | 57=>some Bd
 | 65=>some Be
 | 66=>some Bf
 | 67=>some Bg
 | 68=>some Bh
 | 70=>some Bi
 | 71=>some Bj
 | 72=>some Bk
 | 73=>some Bl
 | 74=>some Bm
 | 75=>some Bn
 | 76=>some Bp
 | 77=>some Bq
 | 79=>some Br
 | 80=>some Bs
 | 81=>some Bt
 | 82=>some Bu
 | 83=>some Bv
 | 99=>some Bw
 | 104=>some wT
 | 105=>some wU
 | 106=>some wV
 | 107=>some wW
 | 108=>some wX
 | 109=>some wY
 | 110=>some wZ
 | 114=>some w4
 | 115=>some w5
 | 129=>some w6
 | 133=>some w7
 | 142=>some w8
 | 143=>some w9
 | 144=>some xa
 | 145=>some xb
 | 146=>some xc
 | 168=>some xd
 | 176=>some xe
 | _=>none
def env:Env:=⟨xf,fun _ _ _ _=>False,fun _ _ _ _ _ h _=>h⟩
theorem BQ:nT Tryz.prog env where
 mixed:=by kernel_rfl
 fn:=by
  intro f fn h
  simp only[env,xf]at h
  split at h
  ·cases h;exact⟨_,c4⟩
  ·cases h;exact⟨_,c7⟩
  ·cases h;exact⟨_,c8⟩
  ·cases h;exact⟨_,c9⟩
  ·cases h;exact⟨_,G7⟩
  ·cases h;exact⟨_,G8⟩
  ·cases h;exact⟨_,G9⟩
  ·cases h;exact⟨_,Ha⟩
  ·cases h;exact⟨_,Hb⟩
  ·cases h;exact⟨_,Hc⟩
  ·cases h;exact⟨_,He⟩
  ·cases h;exact⟨_,Hf⟩
  ·cases h;exact⟨_,Hg⟩
  ·cases h;exact⟨_,Hi⟩
  ·cases h;exact⟨_,Hj⟩
  ·cases h;exact⟨_,Hk⟩
  ·cases h;exact⟨_,Hl⟩
  ·cases h;exact⟨_,Hm⟩
  ·cases h;exact⟨_,Ho⟩
  ·cases h;exact⟨_,Hp⟩
  ·cases h;exact⟨_,Hq⟩
  ·cases h;exact⟨_,Hr⟩
  ·cases h;exact⟨_,Hs⟩
  ·cases h;exact⟨_,Ht⟩
  ·cases h;exact⟨_,Hu⟩
  ·cases h;exact⟨_,Hv⟩
  ·cases h;exact⟨_,Hw⟩
  ·cases h;exact⟨_,Hx⟩
  ·cases h;exact⟨_,Hy⟩
  ·cases h;exact⟨_,Hz⟩
  ·cases h;exact⟨_,HA⟩
  ·cases h;exact⟨_,HB⟩
  ·cases h;exact⟨_,HC⟩
  ·cases h;exact⟨_,HD⟩
  ·cases h;exact⟨_,HE⟩
  ·cases h;exact⟨_,HF⟩
  ·cases h;exact⟨_,HG⟩
  ·cases h;exact⟨_,HH⟩
  ·cases h;exact⟨_,HI⟩
  ·cases h;exact⟨_,HJ⟩
  ·cases h;exact⟨_,HK⟩
  ·cases h;exact⟨_,HL⟩
  ·cases h;exact⟨_,HM⟩
  ·cases h;exact⟨_,HN⟩
  ·cases h;exact⟨_,HO⟩
  ·cases h;exact⟨_,HP⟩
  ·cases h;exact⟨_,HQ⟩
  ·cases h;exact⟨_,HR⟩
  ·cases h;exact⟨_,HS⟩
  ·cases h;exact⟨_,HT⟩
  ·cases h;exact⟨_,HU⟩
  ·cases h;exact⟨_,HV⟩
  ·cases h;exact⟨_,HW⟩
  ·cases h;exact⟨_,HX⟩
  ·cases h;exact⟨_,HY⟩
  ·cases h;exact⟨_,HZ⟩
  ·cases h;exact⟨_,H4⟩
  ·cases h;exact⟨_,H8⟩
  ·cases h;exact⟨_,H9⟩
  ·cases h;exact⟨_,Ia⟩
  ·cases h;exact⟨_,Ib⟩
  ·cases h;exact⟨_,EB⟩
  ·cases h;exact⟨_,EC⟩
  ·cases h;exact⟨_,ED⟩
  ·cases h;exact⟨_,EE⟩
  ·cases h;exact⟨_,EF⟩
  ·cases h;exact⟨_,EG⟩
  ·cases h;exact⟨_,EH⟩
  ·cases h;exact⟨_,EI⟩
  ·cases h;exact⟨_,EJ⟩
  ·cases h;exact⟨_,EK⟩
  ·cases h;exact⟨_,EL⟩
  ·cases h;exact⟨_,EM⟩
  ·cases h;exact⟨_,EN⟩
  ·cases h;exact⟨_,EO⟩
  ·cases h;exact⟨_,EP⟩
  ·cases h;exact⟨_,ER⟩
  ·cases h;exact⟨_,ES⟩
  ·cases h;exact⟨_,ET⟩
  ·cases h
 g9:=by intro f az H Q h;exact h.elim
end Go.Proofs.YtaplookbfhicoaaGreatDoor.Ir
end

section
namespace Go.Proofs.YtaplookbfhicoaaGreatDoor.St
open Go.Rmp Go.Proofs.YtaplookbfhicoaaGreatDoor.Ir
set_option maxRecDepth 100000
theorem yJ:W env (.call 7 []) [] (fun o _=>o=.val (.bool true)):=.closed (fun _=>0) 100000 [] [] (by kernel_rfl)
end Go.Proofs.YtaplookbfhicoaaGreatDoor.St
end

section
namespace Go.Proofs.YtaplookbfhicoaaGreatDoor.St
open Go.Rmp Go.Proofs.YtaplookbfhicoaaGreatDoor.Ir
set_option maxRecDepth 10000
def fw (m:Nat):List T:=[.map m,.bool false,.int .i64 0,.bool false,.int .i64 0,.int .i64 0]
theorem EU (H:aa):W env (.call 8 []) H (vt (.ptr (H.length+1) 0) (H++[.map [],.cells (fw H.length)])):=by
 refine W.tt rfl rfl rfl ?_
 simp -implicitDefEqProofs only[DB,op,ef,cl,sq,reduceIte,q6,q7,q8,q9,j3,j4,j5,j6,j7,S1,fw,List.length_append,List.append_assoc]
theorem EV (H:aa):W env (.call 9 []) H (vt (.ptr (H.length+4) 0) (H++[.map [],.map [],.map [],.map [],.cells [.map H.length,.map (H.length+1),.map (H.length+2),.map (H.length+3)]])):=by
 refine W.tt rfl rfl rfl ?_
 simp -implicitDefEqProofs only[DC,op,ef,cl,sq,reduceIte,q6,q7,q8,q9,j3,j4,j5,j6,j7,S1,List.length_append,List.append_assoc]
def mw:ByteArray:=⟨#[115,110,97,112]⟩
theorem EW (z:T)(H:aa)(s:ByteArray):l5 (.sc .str) z true H (some (.map [])) (.str s)=some (.bg [z,.bool false],H):=rfl
theorem EX (H:aa)(b:Nat)(s:ByteArray)(v:T):l7 (.sc .str) H b (some (.map [])) (.str s) v=some (av,H.set b (.map [(.str s,v)])):=rfl
theorem BR {H:aa}{m:Nat}(hm:H[m]?=some (.map [])):dB H .map (.map m)=some 0:=by simp[dB,hm]
theorem Ic (H:aa):mF H 1 .nil [] [[T.int .u8 120]]=some (.sl (.own H.length 1) [[.int .u8 120]],H++[.tok 1]):=rfl
theorem EY {H:aa}{d m:Nat}(hd:H[d]?=some (.cells (fw m))):W env (.call 39 [.ptr d 0]) H (vt (.bool true) H):=by
 refine W.tt rfl rfl rfl ?_
 unfold fw at hd
 simp -implicitDefEqProofs only[yI,op,ef,cl,sq,reduceIte,q6,q7,q8,q9,j3,j4,j5,j6,j7,S1,hd]
theorem yK {H:aa}{d m:Nat}(s:ByteArray)(hd:H[d]?=some (.cells (fw m)))(hm:H[m]?=some (.map [])):W env (.call 23 [.ptr d 0,.str s]) H (vt (.bg [.aE,.int .i64 61]) H):=by
 refine W.tt rfl rfl rfl ?_
 simp -implicitDefEqProofs only[yG,op,ef,cl,sq,reduceIte,q6,q7,q8,q9,j3,j4,j5,j6,j7,S1]
 refine aS _ _ _ _ _ _ _ _ (EY hd) ?_
 rintro u H1⟨hu,rfl⟩
 cases hu
 unfold fw at hd
 simp -implicitDefEqProofs only[op,ef,cl,sq,reduceIte,q6,q7,q8,q9,j3,j4,j5,j6,j7,S1,hd,hm,EW]
theorem vN (H:aa):W env (.call 24 [.str mw]) H (vt (.bool true) H):=by
 refine W.tt rfl rfl rfl ?_
 have hs:mw.size=4:=rfl
 simp -implicitDefEqProofs only[yH,op,ef,cl,sq,reduceIte,q6,q7,q8,q9,j3,j4,j5,j6,j7,S1,hs]
theorem BS {H:aa}{d m:Nat}(hd:H[d]?=some (.cells (fw m)))(hm:H[m]?=some (.map [])) :
  W env (.call 10 [.ptr d 0,.str mw,.sl .arg [[.int .u8 120]]]) H (fun o H'=>o=.val (.int .i64 0)∧H'[d]?=some (.cells (fw m))):=by
 refine W.tt rfl rfl rfl ?_
 simp -implicitDefEqProofs only[yD,op,ef,cl,sq,reduceIte,q6,q7,q8,q9,j3,j4,j5,j6,j7,S1]
 refine aS _ _ _ _ _ _ _ _ (yK _ hd hm) ?_
 rintro u H1⟨hu,rfl⟩
 cases hu
 simp -implicitDefEqProofs only[op,ef,cl,sq,reduceIte,q6,q7,q8,q9,j3,j4,j5,j6,j7,S1]
 refine aS _ _ _ _ _ _ _ _ (vN _) ?_
 rintro u H1⟨hu,rfl⟩
 cases hu
 have eU:=hd
 unfold fw at hd
 have lm:m<H1.length:=(List.getElem?_eq_some_iff.1 hm).1
 have ld:d<H1.length:=(List.getElem?_eq_some_iff.1 hd).1
 have aF:m≠d:=by rintro rfl;rw[hm]at hd;cases hd
 have cB:(H1++[B.cells [T.sl .nil [],.int .i64 0]])[d]?=_:=bh hd
 have nW:(H1++[B.cells [T.sl .nil [],.int .i64 0]])[m]?=_:=bh hm
 have EZ:((H1++[B.cells [T.sl .nil [],.int .i64 0]]).set m (.map [(.str mw,.ptr H1.length 0)]))[H1.length]?=some (.cells [T.sl .nil [],.int .i64 0]):=by
  rw[List.getElem?_set_ne (by omega)];exact bm _ _
 obtain⟨H3,e3⟩:∃H3,H3=(H1++[B.cells [T.sl .nil [],.int .i64 0]]).set m (.map [(.str mw,.ptr H1.length 0)]):=⟨_,rfl⟩
 rw[←e3]at EZ
 have Ie:(H3++[B.tok 1])[H1.length]?=some (.cells [T.sl .nil [],.int .i64 0]):=bh EZ
 have Cx:H3[d]?=H1[d]?:=by rw[e3,List.getElem?_set_ne aF,cB,hd]
 have E0:∀x,((H3++[B.tok 1]).set H1.length x)[d]?=some (.cells (fw m)):=fun x=>by rw[List.getElem?_set_ne (by omega)];exact bh (Cx.trans eU)
 simp -implicitDefEqProofs only[op,ef,cl,sq,reduceIte,q6,q7,q8,q9,j3,j4,j5,j6,j7,S1,hd,hm,BR hm,cB,nW,EX,←e3,EZ,Ic,Ie]
 exact E0 _
def yL (m:Nat):List T:=[.map m,.bool false,.int .i64 0,.bool true,.int .i64 0,.int .i64 0]
theorem BT {H:aa}{d m:Nat}(hd:H[d]?=some (.cells (fw m))) :
  W env (.call 11 [.ptr d 0,.int .i64 0,.int .i64 0]) H (fun o H'=>(∃v,o=.val v)∧H'[d]?=some (.cells (yL m))):=by
 refine W.tt rfl rfl rfl ?_
 unfold fw at hd
 have ld:d<H.length:=(List.getElem?_eq_some_iff.1 hd).1
 have s1:∀x:B,(H.set d x)[d]?=some x:=fun x=>List.getElem?_set_self ld
 have s2:∀(x y:B),((H.set d x).set d y)[d]?=some y:=fun x y=>List.getElem?_set_self (by simpa using ld)
 simp -implicitDefEqProofs only[yE,op,ef,cl,sq,reduceIte,q6,q7,q8,q9,j3,j4,j5,j6,j7,S1,hd,s1,s2]
 exact⟨⟨_,rfl⟩,by rw[List.getElem?_set_self (by simp[ld])];rfl⟩
theorem vO:kV .ptr .aE .aE=some true:=rfl
theorem vP (b o:Nat):kV .ptr (.ptr b o) .aE=some false:=rfl
theorem oG (x y:T)(n:Int)(H:aa)(hx:x=.aE∨∃b,x=.ptr b 0)(hy:y=.aE∨∃b,y=.ptr b 0)(h:x=.aE∨y=.aE∨n<0∨1099511627776≤n) :
  W env (.call 12 [x,y,.int .i64 n]) H (vt (.bg [.aE,.int .i64 0,.int .i64 1]) H):=by
 refine W.tt rfl rfl rfl ?_
 rcases hx with rfl|⟨b,rfl⟩
 ·simp -implicitDefEqProofs only[pD,op,ef,cl,sq,reduceIte,q6,q7,q8,q9,j3,j4,j5,j6,j7,S1,vO,vP]
 ·rcases hy with rfl|⟨c,rfl⟩
  ·simp -implicitDefEqProofs only[pD,op,ef,cl,sq,reduceIte,q6,q7,q8,q9,j3,j4,j5,j6,j7,S1,vO,vP]
  ·have h:n<0∨1099511627776≤n:=by rcases h with h|h|h<;>first|exact h|cases h
   by_cases h0:n<0
   ·simp -implicitDefEqProofs only[pD,op,ef,cl,sq,reduceIte,q6,q7,q8,q9,j3,j4,j5,j6,j7,S1,vO,vP,h0]
   ·have h1:1099511627776≤n:=by omega
    simp -implicitDefEqProofs only[pD,op,ef,cl,sq,reduceIte,q6,q7,q8,q9,j3,j4,j5,j6,j7,S1,vO,vP,h0,h1]
theorem kJ {H:aa}{d m:Nat}(hd:H[d]?=some (.cells (yL m))):W env (.call 13 [.ptr d 0]) H (vt (.bool false) H):=by
 refine W.tt rfl rfl rfl ?_
 unfold yL at hd
 simp -implicitDefEqProofs only[yF,op,ef,cl,sq,reduceIte,q6,q7,q8,q9,j3,j4,j5,j6,j7,S1,hd]
theorem BU (n:Int):∃k:Nat,k≤16777215∧IntKind.i64.wrap ((BitVec.ofInt IntKind.i64.bits n &&& BitVec.ofInt IntKind.i64.bits 16777215).toNat:Nat)=(k:Int):=by
 refine⟨(BitVec.ofInt IntKind.i64.bits n &&& BitVec.ofInt IntKind.i64.bits 16777215).toNat,?_,?_⟩
 ·rw[BitVec.toNat_and]
  exact Nat.le_trans Nat.and_le_right (by decide)
 ·have h:(BitVec.ofInt IntKind.i64.bits n &&& BitVec.ofInt IntKind.i64.bits 16777215).toNat≤16777215:=by
   rw[BitVec.toNat_and]
   exact Nat.le_trans Nat.and_le_right (by decide)
  exact wrap_i64 (by omega) (by omega)
theorem E1:oJ 1 [.int .u8 0] [[T.int .u8 120]].flatten=.lit [.int .u8 120]:=rfl
theorem BV (n xg:Int):W env (.call 4 [.int .i64 n,.int .i64 xg]) [] (fun o _=>o=.val (.bool true)):=by
 refine W.tt rfl rfl rfl ?_
 simp -implicitDefEqProofs only[DA,op,ef,cl,sq,reduceIte,q6,q7,q8,q9,j3,j4,j5,j6,j7,S1]
 refine aS _ _ _ _ _ _ _ _ yJ ?_
 rintro u H1 hu
 cases hu
 simp -implicitDefEqProofs only[op,ef,cl,sq,reduceIte,q6,q7,q8,q9,j3,j4,j5,j6,j7,S1]
 refine aS _ _ _ _ _ _ _ _ (EU H1) ?_
 rintro u H2⟨hu,e2⟩
 cases hu
 simp -implicitDefEqProofs only[op,ef,cl,sq,reduceIte,q6,q7,q8,q9,j3,j4,j5,j6,j7,S1]
 refine aS _ _ _ _ _ _ _ _ (EV H2) ?_
 rintro u H3⟨hu,e3⟩
 cases hu
 have cB:H2[H1.length+1]?=some (.cells (fw H1.length)):=by rw[e2];simp
 have nW:H2[H1.length]?=some (.map []):=by rw[e2];simp
 have Cx:H3[H1.length+1]?=some (.cells (fw H1.length)):=by rw[e3];exact cN cB
 have Ig:H3[H1.length]?=some (.map []):=by rw[e3];exact cN nW
 have hl:(H3++[B.lit [.int .u8 120]])[H3.length]?=some (.lit [.int .u8 120]):=bm _ _
 have l1:H1.length+1<H3.length:=(List.getElem?_eq_some_iff.1 Cx).1
 have Ih:((H3++[B.lit [.int .u8 120]]).set H3.length .dead)[H1.length+1]?=some (.cells (fw H1.length)):=by rw[List.getElem?_set_ne (by omega)];exact bh Cx
 have Ii:((H3++[B.lit [.int .u8 120]]).set H3.length .dead)[H1.length]?=some (.map []):=by rw[List.getElem?_set_ne (by omega)];exact bh Ig
 simp -implicitDefEqProofs only[op,ef,cl,sq,reduceIte,q6,q7,q8,q9,j3,j4,j5,j6,j7,S1,vO,vP,ne_eq,Nat.one_ne_zero,not_false_eq_true,E1,hl]
 refine aS _ _ _ _ _ _ _ _ (BS Ih Ii) ?_
 rintro u H5⟨hu,E0⟩
 cases hu
 simp -implicitDefEqProofs only[op,ef,cl,sq,reduceIte,q6,q7,q8,q9,j3,j4,j5,j6,j7,S1]
 refine aS _ _ _ _ _ _ _ _ (BT E0) ?_
 rintro u H6⟨_,Cy⟩
 simp -implicitDefEqProofs only[op,ef,cl,sq,reduceIte,q6,q7,q8,q9,j3,j4,j5,j6,j7,S1]
 obtain⟨a,ha⟩:∃a,IntKind.i64.wrap ↑(BitVec.ofInt IntKind.i64.bits xg &&& BitVec.ofInt IntKind.i64.bits 3).toNat=a:=⟨_,rfl⟩
 rw[ha]
 by_cases h0:a=0
 ·subst h0
  simp -implicitDefEqProofs only[op,ef,cl,sq,reduceIte,q6,q7,q8,q9,j3,j4,j5,j6,j7,S1]
  refine aS _ _ _ _ _ _ _ _ (oG _ _ _ _ (.inl rfl) (.inr ⟨_,rfl⟩) (.inl rfl)) ?_
  rintro u H7⟨hu,rfl⟩
  cases hu
  simp -implicitDefEqProofs only[op,ef,cl,sq,reduceIte,q6,q7,q8,q9,j3,j4,j5,j6,j7,S1,vO,vP]
  refine aS _ _ _ _ _ _ _ _ (kJ Cy) ?_
  rintro u H7⟨hu,rfl⟩
  cases hu
  simp -implicitDefEqProofs only[op,ef,cl,sq,reduceIte,q6,q7,q8,q9,j3,j4,j5,j6,j7,S1]
 have b0:(a==0)=false:=by simpa using h0
 simp -implicitDefEqProofs only[op,ef,cl,sq,reduceIte,q6,q7,q8,q9,j3,j4,j5,j6,j7,S1,b0]
 by_cases h1:a=1
 ·subst h1
  simp -implicitDefEqProofs only[op,ef,cl,sq,reduceIte,q6,q7,q8,q9,j3,j4,j5,j6,j7,S1]
  refine aS _ _ _ _ _ _ _ _ (oG _ _ _ _ (.inr ⟨_,rfl⟩) (.inl rfl) (.inr (.inl rfl))) ?_
  rintro u H7⟨hu,rfl⟩
  cases hu
  simp -implicitDefEqProofs only[op,ef,cl,sq,reduceIte,q6,q7,q8,q9,j3,j4,j5,j6,j7,S1,vO,vP]
  refine aS _ _ _ _ _ _ _ _ (kJ Cy) ?_
  rintro u H7⟨hu,rfl⟩
  cases hu
  simp -implicitDefEqProofs only[op,ef,cl,sq,reduceIte,q6,q7,q8,q9,j3,j4,j5,j6,j7,S1]
 have b1:(a==1)=false:=by simpa using h1
 simp -implicitDefEqProofs only[op,ef,cl,sq,reduceIte,q6,q7,q8,q9,j3,j4,j5,j6,j7,S1,b1]
 obtain⟨k,hk,e⟩:=BU n
 by_cases h2:a=2
 ·subst h2
  have w1:IntKind.i64.wrap (-1-(k:Int))=-1-k:=IntWalk.i64_in _ (by omega)
  simp -implicitDefEqProofs only[op,ef,cl,sq,reduceIte,q6,q7,q8,q9,j3,j4,j5,j6,j7,S1,e,w1]
  refine aS _ _ _ _ _ _ _ _ (oG _ _ _ _ (.inr ⟨_,rfl⟩) (.inr ⟨_,rfl⟩) (.inr (.inr (.inl (by omega))))) ?_
  rintro u H7⟨hu,rfl⟩
  cases hu
  simp -implicitDefEqProofs only[op,ef,cl,sq,reduceIte,q6,q7,q8,q9,j3,j4,j5,j6,j7,S1,vO,vP]
  refine aS _ _ _ _ _ _ _ _ (kJ Cy) ?_
  rintro u H7⟨hu,rfl⟩
  cases hu
  simp -implicitDefEqProofs only[op,ef,cl,sq,reduceIte,q6,q7,q8,q9,j3,j4,j5,j6,j7,S1]
 ·have b2:(a==2)=false:=by simpa using h2
  have w1:IntKind.i64.wrap (1099511627776+(k:Int))=1099511627776+k:=IntWalk.i64_in _ (by omega)
  simp -implicitDefEqProofs only[op,ef,cl,sq,reduceIte,q6,q7,q8,q9,j3,j4,j5,j6,j7,S1,b2,e,w1]
  refine aS _ _ _ _ _ _ _ _ (oG _ _ _ _ (.inr ⟨_,rfl⟩) (.inr ⟨_,rfl⟩) (.inr (.inr (.inr (by omega))))) ?_
  rintro u H7⟨hu,rfl⟩
  cases hu
  simp -implicitDefEqProofs only[op,ef,cl,sq,reduceIte,q6,q7,q8,q9,j3,j4,j5,j6,j7,S1,vO,vP]
  refine aS _ _ _ _ _ _ _ _ (kJ Cy) ?_
  rintro u H7⟨hu,rfl⟩
  cases hu
  simp -implicitDefEqProofs only[op,ef,cl,sq,reduceIte,q6,q7,q8,q9,j3,j4,j5,j6,j7,S1]
end Go.Proofs.YtaplookbfhicoaaGreatDoor.St
end

section
namespace Go.Proofs.YtaplookbfhicoaaGreatDoor
open Go.ChangeShapes Go.WideShapes Go.ChangeAt Go.RowKit
namespace Law
theorem own:ownKnob Tryz.prog.godebug=none:=by kernel_rfl
theorem kids:Kids Tryz.prog (·<Tryz.prog.types.size):=kids_rows (by kernel_rfl) (by kernel_rfl)
noncomputable def Ij:Bool:=(List.range Tryz.prog.types.size).all fun t=>match Tryz.prog.underlying t with
 | some (.slice e)=>decide (0<Tryz.prog.cellsOf e)
 | _=>true
theorem yM:Ij=true:=by kernel_rfl
theorem hz:∀t e,t<Tryz.prog.types.size→Tryz.prog.underlying t=some (.slice e)→0<Tryz.prog.cellsOf e:=fun t e ht h=>by
 have:=(List.all_eq_true.1 yM) t (List.mem_range.2 ht)
 rw[h]at this
 simpa using this
theorem BW {B:Nat}{t:Go.Rmp.T}(h:Go.Rmp.cz B (.int .i64) t):∃n:Int,t=.int .i64 n∧-9223372036854775808≤n∧n<9223372036854775808:=by
 cases h with|int h =>
  rename_i n
  exact⟨n,rfl,by simp -implicitDefEqProofs only[Lit.wf,IntKind.min,IntKind.max,IntKind.signed,IntKind.bits]at h;simp at h;omega⟩
end Law
namespace Law
noncomputable def gB (os:Os):World :=
 { World.holding Tryz.prog os ⟨#[],#[],[]⟩with heap:=((((World.holding Tryz.prog os ⟨#[],#[],[]⟩).heap.modify 0 fun | .cells _ t frozen=>.cells #[.int .u64 1,.int .u64 10,.int .u64 100,.int .u64 1000,.int .u64 10000,.int .u64 100000,.int .u64 1000000,.int .u64 10000000,.int .u64 100000000,.int .u64 1000000000,.int .u64 10000000000,.int .u64 100000000000,.int .u64 1000000000000,.int .u64 10000000000000,.int .u64 100000000000000,.int .u64 1000000000000000,.int .u64 10000000000000000,.int .u64 100000000000000000,.int .u64 1000000000000000000,.int .u64 10000000000000000000] t frozen|o=>o).modify 3 fun | .cells _ t frozen=>.cells #[.int .u8 0,.int .u8 1,.int .u8 28,.int .u8 2,.int .u8 29,.int .u8 14,.int .u8 24,.int .u8 3,.int .u8 30,.int .u8 22,.int .u8 20,.int .u8 15,.int .u8 25,.int .u8 17,.int .u8 4,.int .u8 8,.int .u8 31,.int .u8 27,.int .u8 13,.int .u8 23,.int .u8 21,.int .u8 19,.int .u8 16,.int .u8 7,.int .u8 26,.int .u8 12,.int .u8 18,.int .u8 6,.int .u8 11,.int .u8 5,.int .u8 10,.int .u8 9] t frozen|o=>o).modify 4 fun | .cells _ t frozen=>.cells #[.int .u8 0,.int .u8 1,.int .u8 56,.int .u8 2,.int .u8 57,.int .u8 49,.int .u8 28,.int .u8 3,.int .u8 61,.int .u8 58,.int .u8 42,.int .u8 50,.int .u8 38,.int .u8 29,.int .u8 17,.int .u8 4,.int .u8 62,.int .u8 47,.int .u8 59,.int .u8 36,.int .u8 45,.int .u8 43,.int .u8 51,.int .u8 22,.int .u8 53,.int .u8 39,.int .u8 33,.int .u8 30,.int .u8 24,.int .u8 18,.int .u8 12,.int .u8 5,.int .u8 63,.int .u8 55,.int .u8 48,.int .u8 27,.int .u8 60,.int .u8 41,.int .u8 37,.int .u8 16,.int .u8 46,.int .u8 35,.int .u8 44,.int .u8 21,.int .u8 52,.int .u8 32,.int .u8 23,.int .u8 11,.int .u8 54,.int .u8 26,.int .u8 40,.int .u8 15,.int .u8 34,.int .u8 20,.int .u8 31,.int .u8 10,.int .u8 25,.int .u8 14,.int .u8 19,.int .u8 9,.int .u8 13,.int .u8 8,.int .u8 7,.int .u8 6] t frozen|o=>o) }
theorem jm (te:List Go.Rmp.T)(B:Nat)(hs:Go.Rmp.gx B [.int .i64,.int .i64] te):Go.Rmp.W Ir.env (.call 4 te) [] (fun o _=>o=.val (.bool true)):=by
 cases hs with|cons h1 hs =>
 cases hs with|cons h2 hs =>
 cases hs
 obtain⟨n,rfl,_⟩:=BW h1
 obtain⟨w,rfl,_⟩:=BW h2
 exact St.BV n w
theorem iS (H:Type):∀ds:List (DataW H),ds.length=Tryz.f4.params.toList.length→Rows.compactNoneSpec.fn H ds={ results:=[.lit (.bool true)],args:=ds }:=by
 have hn:Tryz.f4.params.toList.length=2:=by kernel_rfl
 rw[hn]
 intro ds pL
 cases ds with|nil=>simp at pL|cons d0 ds =>
 cases ds with|nil=>simp at pL|cons d1 ds =>
 cases ds with|cons=>simp at pL|nil =>
 rfl
theorem gU (os:Os):laidMet Tryz.prog Rows.compactNoneRow.laid ((gB os).forCall (fun _ _=>0) ⟨#[],#[.int .i64 0,.int .i64 0],[]⟩).memory :=
 laidMet_of_run' 8 (by kernel_rfl) (by kernel_rfl)
theorem fT (os:Os){H:Type}(enc:TypeId×Value→H):∃places,DataW.whole enc Tryz.prog ((gB os).forCall (fun _ _=>0) ⟨#[],#[.int .i64 0,.int .i64 0],[]⟩).memory Tryz.f4.params.toList Rows.compactNoneSpec.vars false (#[.int .i64 0,.int .i64 0]:Array Value).toList 8=some ([.lit (.int .i64 0),.lit (.int .i64 0)],[],places) :=
 ⟨[],by kernel_rfl⟩
set_option maxRecDepth 100000 in
theorem fx (os:Os)(started:os.Started)(H:Type)(enc:TypeId×Value→H)(F:Stop.Interp) :
  ReturnsInHanded {} Tryz.checked os 4 .any ((OpenSpec.ofChange Rows.compactNoneSpec).preRow enc Tryz.prog Tryz.f4 Rows.compactNoneRow.domain false Rows.compactNoneRow.laid) (((OpenSpec.ofChange Rows.compactNoneSpec).at F).post enc Tryz.prog Tryz.f4 false true false false):=by
 obtain⟨places,hx⟩:=fT os enc
 refine returnsInHanded_of_row (C:=Tryz.checked) (s:=OpenSpec.ofChange Rows.compactNoneSpec) own started (by kernel_rfl) Tryz.func4
  (witness_row_at (enc:=enc) (C:=Tryz.checked) false (gB os) #[.int .i64 0,.int .i64 0] rfl (by kernel_rfl) (by kernel_rfl) (by kernel_rfl)
   (OpenSpec.preRow_of_cond 8 hx (by kernel_rfl) (fun k hk=>by cases hk) (by kernel_rfl) (gU os))) ?_
 intro W base args ds gs before py hW _ hk _ hL _ _
 exact Go.Rmp.jk (s:=Rows.compactNoneSpec) (vn:=[.int .i64,.int .i64]) (B:=Go.Rmp.aK (ds++gs)) (tb:=Tryz.f4.resultTypes[0]!) Ir.BQ kids hz (by kernel_rfl) (by intro t ht;exact of_decide_eq_true ((List.all_eq_true.1 (show Tryz.f4.params.toList.all (fun t=>decide (t<Tryz.prog.types.size))=true by kernel_rfl)) t ht)) (by kernel_rfl) (by kernel_rfl) rfl (iS H) (fun ts h _=>jm ts _ h) base args ds gs before py hW (Nat.le_refl _)
theorem gC:Rows.CompactNoneSaid :=
 OpenClaim.holds_of_cond 4 Tryz.f4 rfl rfl rfl rfl rfl rfl rfl ⟨rfl,rfl,rfl,rfl,rfl⟩ rfl rfl rfl rfl rfl (by kernel_rfl) Tryz.func4 (by kernel_rfl)
  (of_decide_eq_true (by kernel_rfl)) (by unfold Func.isWrapper;first|(rw[if_pos (by decide +kernel)];kernel_rfl)|(rw[if_neg (by decide +kernel)];exact⟨rfl,rfl⟩))
  (fun os started H enc _ F=>by rw[OpenClaim.pre_eq_preRow];exact fx os started H enc F)
theorem fU (f:FuncId)(fn:Func)(hf:Tryz.pinned.checked.prog.funcNamed Rows.compactNoneRow.func=some f)(kP:Tryz.pinned.checked.prog.funcs[f]?=some fn) :
  true=Tryz.pinned.checked.prog.looks []∧∀(j:Nat) t,fn.params[j]?=some t→Tryz.pinned.checked.prog.wantsStandIn t=false:=by
 obtain rfl:f=4:=Option.some.inj ((show Tryz.prog.funcNamed Rows.compactNoneRow.func=some 4 by kernel_rfl).symm.trans hf) |>.symm
 obtain rfl:fn=Tryz.f4:=(Option.some.inj (Tryz.func4.symm.trans kP)).symm
 refine⟨by kernel_rfl,fun j t ht=>?_⟩
 have h:=(List.all_eq_true.1 (show Tryz.f4.params.toList.all (fun t=>!Tryz.prog.wantsStandIn t)=true by kernel_rfl)) t (Array.mem_toList_iff.2 (Array.mem_of_getElem? ht))
 have h2:Tryz.prog.wantsStandIn t=false:=by simpa using h
 exact h2
theorem compactNone_proved:Rows.CompactNoneCardSaid :=
 Claim7.holds_tied_plain_at .later [] _ _ _ _ gC (fun _ h=>by cases h) (by kernel_rfl) (fun _ h=>by cases h) compactNone_row_tie rfl ⟨rfl,rfl⟩ (by kernel_rfl) rfl fU (by kernel_rfl)
end Law
end Go.Proofs.YtaplookbfhicoaaGreatDoor
end
