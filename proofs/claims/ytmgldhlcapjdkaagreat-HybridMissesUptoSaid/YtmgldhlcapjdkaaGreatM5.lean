/- Part of a proof of a law of this seat: the machine of plain values, its simulation, and the contracts of the functions that the law reaches. Conditions: none beyond the given row. -/
import Derived.Test.YtmgldhlcapjdkaaGreatM4
import Derived.Test.YtmgldhlcapjdkaaGreatRows
import Derived.WalkKit
import Derived.ProofKit
import Derived.OpenShut
import Derived.JoinedCond
import Derived.ChangeBears
open Int renaming reduceLT → q3, reduceLE → q4, reduceBEq → q5, reduceBNe → q6, reduceEq → q7
open Nat renaming reduceAdd → q8, reduceLeDiff → q9, reduceLT → j3, reduceEqDiff → j4
set_option linter.unusedSimpArgs false
set_option linter.unusedVariables false
set_option linter.unnecessarySimpa false
set_option maxHeartbeats 4000000
section
namespace Go.Proofs.YtmgldhlcapjdkaaGreat.St
open Go.Rmp Go.Proofs.YtmgldhlcapjdkaaGreat.Ir
set_option maxRecDepth 10000
theorem memB_fx (l:List ByteArray) (x:ByteArray):Fx.memB l x=memB l x:=by
 rw [Bool.eq_iff_iff,memB_iff]
 unfold Fx.memB
 simp
structure Sls (vs:List Fx.Ver) (ss:List Slm):Prop where
 len:ss.length=vs.length
 w:∀ (i:Nat) v s,vs[i]?=some v→ss[i]?=some s→WSl v s
 l1:1≤vs.length
 l2:vs.length≤1024
 nd:(vs.map Fx.Ver.key).Nodup
section
variable {vs:List Fx.Ver} {ss:List Slm}
theorem Sls.at (h:Sls vs ss) {i:Nat} {v:Fx.Ver} (hv:vs[i]?=some v):∃ s,ss[i]?=some s∧WSl v s:=by
 obtain ⟨s,hs⟩:=getP (l:=ss) (i:=i) (by rw [h.len];exact (List.getElem?_eq_some_iff.1 hv).1)
 exact ⟨s,hs,h.w i v s hv hs⟩
theorem Sls.at' (h:Sls vs ss) {i:Nat} {s:Slm} (hs:ss[i]?=some s):∃ v,vs[i]?=some v∧WSl v s:=by
 obtain ⟨v,hv⟩:=getP (l:=vs) (i:=i) (by rw [← h.len];exact (List.getElem?_eq_some_iff.1 hs).1)
 exact ⟨v,hv,h.w i v s hv hs⟩
theorem Sls.keys (h:Sls vs ss):ss.map Slm.key=vs.map Fx.Ver.key:=by
 refine List.ext_getElem? fun i=>?_
 rw [List.getElem?_map,List.getElem?_map]
 by_cases hi:i<vs.length
 ·obtain ⟨v,hv⟩:=getP hi
  obtain ⟨s,hs,hw⟩:=h.at hv
  rw [hv,hs];simp -implicitDefEqProofs only [Option.map_some,hw.key]
 ·rw [List.getElem?_eq_none (by rw [h.len];omega),List.getElem?_eq_none (by omega)];rfl
theorem Sls.formed (h:Sls vs ss):formed ss=true:=by
 unfold St.formed
 rw [decide_eq_true (by rw [h.len];exact h.l1),decide_eq_true (by rw [h.len];exact h.l2),h.keys,decide_eq_true h.nd]
 simp -implicitDefEqProofs only [Bool.true_and,Bool.and_true,List.all_eq_true]
 intro s hs
 obtain ⟨i,hi⟩:=List.mem_iff_getElem?.1 hs
 obtain ⟨v,_,hw⟩:=h.at' hi
 exact hw.ok
theorem Sls.sb (h:Sls vs ss):∀ s∈ss,SlmB s:=fun s hs=>by
 obtain ⟨i,hi⟩:=List.mem_iff_getElem?.1 hs
 obtain ⟨v,_,hw⟩:=h.at' hi
 exact hw.sb
theorem gr_is (l:List Fx.Ver) (key:ByteArray):Fx.gr l key=0∨∃ v∈l,memB v.keys key=true∧v.id=Fx.gr l key:=by
 rcases Fx.gr_is' l key 0 with h | ⟨v,hv,h1,h2⟩
 ·exact .inl h
 ·exact .inr ⟨v,hv,by rw [← memB_fx];exact h1,h2⟩
theorem Sls.gr_in (h:Sls vs ss) {i:Nat} {u:Fx.Ver} {y:Slm} (hu:vs[i]?=some u) (hy:ss[i]?=some y) (hlt:u.id<Fx.gr vs u.key):Fx.gr vs u.key∈idsOf ss y:=by
 have hw:=h.w i u y hu hy
 rcases gr_is vs u.key with h0 | ⟨v,hv,h1,h2⟩
 ·omega
 ·obtain ⟨j,hj⟩:=List.mem_iff_getElem?.1 hv
  obtain ⟨s,hs,hws⟩:=h.at hj
  unfold idsOf
  refine List.mem_map.2 ⟨s,List.mem_filter.2 ⟨List.mem_of_getElem? hs,?_⟩,by rw [hws.id,h2]⟩
  unfold mayH
  rw [hw.id,hws.id,hw.key,hws.nf (by omega) u.key (memB_iff.1 h1),decide_eq_true (by omega)];rfl
def Exact (vs:List Fx.Ver) (ss:List Slm):Prop:=∀ (i j:Nat) v s u,vs[i]?=some v→ss[i]?=some s→vs[j]?=some u→i≠j→s.id≠0→hasF s u.key=memB v.keys u.key
theorem Sls.le_gr (h:Sls vs ss) (he:Exact vs ss) {i:Nat} {u:Fx.Ver} {y:Slm} (hu:vs[i]?=some u) (hy:ss[i]?=some y) {n:Nat} (hn:n∈idsOf ss y):u.id<n∧n≤Fx.gr vs u.key:=by
 have hw:=h.w i u y hu hy
 unfold idsOf at hn
 obtain ⟨s,hs,rfl⟩:=List.mem_map.1 hn
 obtain ⟨hs,hm⟩:=List.mem_filter.1 hs
 obtain ⟨j,hj⟩:=List.mem_iff_getElem?.1 hs
 obtain ⟨v,hv,hws⟩:=h.at' hj
 unfold mayH at hm
 simp -implicitDefEqProofs only [Bool.and_eq_true,decide_eq_true_eq] at hm
 rw [hw.id] at hm
 have hij:j≠i:=fun e=>by subst e;rw [hy] at hj;cases hj;rw [hw.id] at hm;omega
 have hh:=he j i v s u hv hj hu hij (by omega)
 rw [hw.key] at hm
 rw [hm.2] at hh
 refine ⟨hm.1,?_⟩
 rw [hws.id]
 exact Fx.gr_ge (List.mem_of_getElem? hv) (by rw [memB_fx];exact hh.symm)
theorem Sls.asks_iff (h:Sls vs ss) (he:Exact vs ss) {i:Nat} {u:Fx.Ver} {y:Slm} (hu:vs[i]?=some u) (hy:ss[i]?=some y):idsOf ss y≠[]↔u.id<Fx.gr vs u.key:=by
 constructor
 ·intro hne
  obtain ⟨n,hn⟩:=List.exists_mem_of_ne_nil _ hne
  have:=h.le_gr he hu hy hn;omega
 ·intro hlt hnil
  have:=h.gr_in hu hy hlt
  rw [hnil] at this;cases this
theorem cnt_eq {α β:Type} {p:α→Bool} {q:β→Bool}:∀ {l:List α} {m:List β},l.length=m.length→(∀ (i:Nat) a b,l[i]?=some a→m[i]?=some b→p a=q b)→(l.filter p).length=(m.filter q).length
 | [],[],_,_=>rfl
 | [],b :: m,h,_=>by simp at h
 | a :: l,[],h,_=>by simp at h
 | a :: l,b :: m,h,hp=>by
  have h0:=hp 0 a b rfl rfl
  have ih:=cnt_eq (l:=l) (m:=m) (by simpa using h) fun i x y hx hy=>hp (i+1) x y (by simpa using hx) (by simpa using hy)
  simp -implicitDefEqProofs only [List.filter_cons,h0]
  split
  ·simp -implicitDefEqProofs only [List.length_cons,ih]
  ·exact ih
theorem asks_cnt (l:List Slm):∀ m:List Slm,(asksOf l m).length=(m.filter fun y=>!decide (idsOf l y=[])).length
 | []=>rfl
 | y :: m=>by
  have ih:=asks_cnt l m
  simp -implicitDefEqProofs only [asksOf,List.flatMap_cons,List.length_append] at ih ⊢
  rw [ih,List.filter_cons]
  unfold askOf
  by_cases h:idsOf l y=[]
  ·simp [h]
  ·simp [h];omega
theorem Sls.cnt (h:Sls vs ss) (he:Exact vs ss):(asksOf ss ss).length=(Fx.wants vs).length:=by
 rw [asks_cnt]
 unfold Fx.wants Fx.wants'
 rw [List.length_map]
 refine cnt_eq h.len fun i y u hy hu=>?_
 have:=h.asks_iff he hu hy
 rw [Bool.eq_iff_iff]
 simp -implicitDefEqProofs only [Bool.not_eq_true',decide_eq_false_iff_not,decide_eq_true_eq]
 exact this
theorem last_max {l:List Nat} {n:Nat} (hp:l.Pairwise (· < ·)) (hn:n∈l) (hle:∀ x∈l,x≤n):l[l.length-1]?=some n:=by
 obtain ⟨i,hi,e⟩:=List.getElem_of_mem hn
 by_cases h:i=l.length-1
 ·subst h;rw [List.getElem?_eq_getElem hi,e]
 ·have hl:l.length-1<l.length:=by omega
  have h1:=(List.pairwise_iff_getElem.1 hp) i (l.length-1) hi hl (by omega)
  have h2:=hle _ (List.getElem_mem hl)
  omega
theorem Sls.want (h:Sls vs ss) {w:ByteArray × Nat} (hw:w∈Fx.wants vs):∃ (j:Nat) (a:Ak),(asksOf ss ss)[j]?=some a∧a.1=w.1∧∃ x:Nat,a.2[x]?=some w.2∧(Exact vs ss→x=a.2.length-1):=by
 unfold Fx.wants Fx.wants' at hw
 obtain ⟨u,hu,rfl⟩:=List.mem_map.1 hw
 obtain ⟨hu,hlt⟩:=List.mem_filter.1 hu
 simp -implicitDefEqProofs only [decide_eq_true_eq] at hlt
 obtain ⟨i,hi⟩:=List.mem_iff_getElem?.1 hu
 obtain ⟨y,hy,hws⟩:=h.at hi
 have hin:=h.gr_in hi hy hlt
 have hne:idsOf ss y≠[]:=fun e=>by rw [e] at hin;cases hin
 have ha:(y.key,riseL (idsOf ss y))∈asksOf ss ss:=by
  unfold asksOf
  exact List.mem_flatMap.2 ⟨y,List.mem_of_getElem? hy,by unfold askOf;rw [if_neg hne];simp⟩
 obtain ⟨j,hj⟩:=List.mem_iff_getElem?.1 ha
 have hr:=riseL_mem.2 hin
 by_cases he:Exact vs ss
 ·have hl:=last_max (riseL_up (idsOf ss y)) hr fun x hx=>(h.le_gr he hi hy (riseL_mem.1 hx)).2
  exact ⟨j,_,hj,hws.key,_,hl,fun _=>rfl⟩
 ·obtain ⟨x,hx⟩:=List.mem_iff_getElem?.1 hr
  exact ⟨j,_,hj,hws.key,x,hx,fun hh=>absurd hh he⟩
end
theorem whole_formed {az:List Ab} {pu:List Nat} (h:WInv az pu) (hw:∀ a∈az,AbW a) (h1:1≤az.length) {ks:List ByteArray} (hk1:1≤ks.length) (hk2:ks.length≤1024) (hnd:ks.Nodup):Fx.Formed (ks.map (verOf az)):=by
 refine ⟨by simpa using hk1,by simpa using hk2,fun i hi v hv=>?_⟩
 rw [List.getElem?_map] at hv
 obtain ⟨k,hk,rfl⟩:=Option.map_eq_some_iff.1 hv
 refine ⟨?_,fun j u hj hu=>?_⟩
 ·rcases latest_ok h hw h1 k with e | ⟨n,b,val,p1,p2,p3,e,_⟩
  ·rw [e];rfl
  ·rw [e]
   have hpos:1≤(namesL b).length:=List.length_pos_of_mem p3
   have hg:=names_good hpos
   have hid:¬ nId n=0:=by have:=nId_ge n;omega
   unfold Fx.may
   rw [if_neg hid]
   have hr:Fx.rises (namesL b)=true:=by
    have:=names_rises b
    have key:∀ l:List ByteArray,Fx.rises l=rises l:=fun l=>by
     induction l with
     | nil=>rfl
     | cons a l ih=>cases l with
      | nil=>rfl
      | cons c l=>simp -implicitDefEqProofs only [Fx.rises,rises,ih]
    rw [key];exact this
   simp -implicitDefEqProofs only [hr,decide_eq_true (nId_ge n),decide_eq_true hg.2.2,memB_fx,memB_iff.2 p3,Bool.and_self]
 ·rw [List.getElem?_map] at hu
  obtain ⟨k',hk',rfl⟩:=Option.map_eq_some_iff.1 hu
  have hkk:k'≠k:=fun e=>by
   subst e
   have:=(List.getElem?_inj (List.getElem?_eq_some_iff.1 hk').1 hnd).1 (hk'.trans hk.symm)
   omega
  have e1:(verOf az k').key=k':=rfl
  have e2:(verOf az k).key=k:=rfl
  unfold Fx.ok2
  rw [e1,e2,decide_eq_false hkk]
  simp -implicitDefEqProofs only [Bool.not_false,Bool.true_and,Bool.or_eq_true,Bool.not_eq_true',decide_eq_false_iff_not,decide_eq_true_eq]
  rcases latest_ok h hw h1 k with e | ⟨n,b,val,p1,p2,p3,e,_⟩ <;> rcases latest_ok h hw h1 k' with e' | ⟨n',b',val',p1',p2',p3',e',_⟩
  ·rw [e,e'];exact .inr rfl
  ·rw [e,e'];left;have:=nId_ge n';show ¬ nId n'=0;omega
  ·rw [e,e'];left;have:=nId_ge n;show ¬ 0=nId n;omega
  ·rw [e,e']
   by_cases hn:n=n'
   ·subst hn;rw [p1] at p1';cases p1';exact .inr rfl
   ·left;exact fun hh=>hn (nId_inj hh).symm
theorem and1 {i:Nat} (h:i<9223372036854775808):IntKind.i64.wrap ((BitVec.ofInt IntKind.i64.bits (i:Int) &&& BitVec.ofInt IntKind.i64.bits 1).toNat:Nat)=((i % 2:Nat):Int):=by
 have e:=and_n 64 i 1 (by omega) (by decide)
 have e2:i &&& 1=i % 2:=Nat.and_one_is_mod _
 rw [e2] at e
 have e3:(BitVec.ofInt IntKind.i64.bits (i:Int) &&& BitVec.ofInt IntKind.i64.bits 1).toNat=i % 2:=e
 rw [e3,wrap64 (by omega)]
theorem or1 {x:Nat} (h:x<256) (m:Nat) (hm:m<256):IntKind.u8.wrap ((BitVec.ofInt IntKind.u8.bits (x:Int) ||| BitVec.ofInt IntKind.u8.bits (m:Int)).toNat:Nat)=((x ||| m:Nat):Int):=by
 have e:=or_n 8 x m h hm
 have e3:(BitVec.ofInt IntKind.u8.bits (x:Int) ||| BitVec.ofInt IntKind.u8.bits (m:Int)).toNat=x ||| m:=e
 rw [e3,wrap8 (Nat.or_lt_two_pow (n:=8) h hm)]
def zC (l:List Int):List T:=l.map fun z=>T.int .i64 z
theorem zC_get {l:List Int} {j:Nat} {z:Int} (h:l[j]?=some z):ldcB 1 (0+j*1) (some (.cells (zC l)))=some [.int .i64 z]:=by
 have hj:=(List.getElem?_eq_some_iff.1 h).1
 rw [ldcB_c,if_pos (by unfold zC;simp;omega),Nat.zero_add,Nat.mul_one]
 unfold zC
 rw [← List.map_drop,drop_cons h];rfl
theorem zC_get' {l:List Int} {j:Nat} {z:Int} (h:l[j]?=some z):ldcB 1 (j*1) (some (.cells (zC l)))=some [.int .i64 z]:=by
 have:=zC_get h;rwa [Nat.zero_add] at this
def WdA (H0 H:Heap) (q:Nat) (k1 k2:SK) (pu:List Nat) (xs:List Pt):Prop:=Wd H0 H q k1 k2 xs pu (8*nz pu)∧1≤xs.length∧xs.length≤8∧WInv (xs.map Pt.a) pu
theorem WdA.goE {H0 H H':Heap} {q:Nat} {k1 k2:SK} {pu:List Nat} {xs:List Pt} (h:WdA H0 H q k1 k2 pu xs) (hx:Ext H H'):WdA H0 H' q k1 k2 pu xs:=⟨h.1.goE hx,h.2⟩
theorem WdA.ab {H0 H:Heap} {q:Nat} {k1 k2:SK} {pu:List Nat} {xs:List Pt} (h:WdA H0 H q k1 k2 pu xs):∀ a∈xs.map Pt.a,AbW a:=fun a ha=>by
 obtain ⟨x,hx,rfl⟩:=List.mem_map.1 ha
 exact (h.1.ok x hx).rf.w
theorem WdA.does {H0 H H':Heap} {q:Nat} {k1 k2:SK} {pu:List Nat} {xs:List Pt} {o:OpW} {u:Out} (h:WdA H0 H q k1 k2 pu xs) (ho:OpWOk o) (hd:DoesQ H0 q k1 k2 xs pu o H u H'):∃ xs' pu',u=.val (.tup [])∧WdA H0 H' q k1 k2 pu' xs'∧(xs'.map Pt.a,pu')=doesA (xs.map Pt.a,pu) o∧Frm (WU q xs) H H'∧Gro (WU q xs) (WU q xs') H H':=by
 obtain ⟨hu,xs',pu',hw,hl,hm,hf,hg⟩:=hd
 refine ⟨xs',pu',hu,⟨hw,by rw [hl];exact h.2.1,by rw [hl];exact h.2.2.1,?_⟩,hm,hf,hg⟩
 have:=h.2.2.2.does (o:=o) ho.2.1
 rw [← hm] at this
 exact this
theorem WInv.zero {az:List Ab} (h:∀ a∈az,a=Ab.emp):WInv az (List.replicate 16 0) :=
 ⟨fun n hn=>by rw [List.eq_of_mem_replicate hn];decide,by simp,fun i a ha k id d hd=>by rw [h a (List.mem_of_getElem? ha)] at hd;cases hd⟩
theorem emp_map {xs:List Pt} (h:∀ x∈xs,x.a=Ab.emp):∀ a∈xs.map Pt.a,a=Ab.emp:=fun a ha=>by
 obtain ⟨x,hx,rfl⟩:=List.mem_map.1 ha;exact h x hx
theorem asks2 {s:Slm} {k:ByteArray} (h0:s.id≠0):asksOf [s,⟨k,0,⟨#[]⟩,[]⟩] [s,⟨k,0,⟨#[]⟩,[]⟩]=if hasF s k then [(k,riseL [s.id])] else []:=by
 have e1:idsOf [s,⟨k,0,⟨#[]⟩,[]⟩] s=[]:=by
  unfold idsOf mayH
  simp
 have e2:idsOf [s,⟨k,0,⟨#[]⟩,[]⟩] ⟨k,0,⟨#[]⟩,[]⟩=if hasF s k then [s.id] else []:=by
  unfold idsOf mayH
  have:0<s.id:=by omega
  cases h:hasF s k <;> simp [this,h]
 unfold asksOf
 simp -implicitDefEqProofs only [List.flatMap_cons,List.flatMap_nil,List.append_nil]
 unfold askOf
 rw [e1,if_pos rfl,List.nil_append,e2]
 cases hasF s k <;> simp
theorem formed2 {s:Slm} {k:ByteArray} (h:slimOk s=true) (hk:s.key≠k):formed [s,⟨k,0,⟨#[]⟩,[]⟩]=true:=by
 unfold formed
 simp [h,slim_bot,hk]
theorem two17 (s:Slm) (k:ByteArray) (h0:s.id≠0) (hs:slimOk s=true) (hb:SlmB s) (hk:s.key≠k) (hks:k.size<9223372036854775807) (kk:SK) (H:Heap) :
  W env (.call 17 [.sl kk [eSl .arg s,eSl .arg ⟨k,0,⟨#[]⟩,[]⟩]]) H (fun o H'=>Ext H H'∧∃ (ka:SK) (l:List Ak),o=.val (.tup [.sl ka (l.map eA),.int .i64 0])∧l.length=if hasF s k then 1 else 0):=by
 have h:=needs17 sortI12 kk [s,⟨k,0,⟨#[]⟩,[]⟩] (fun x hx=>by
  simp at hx
  rcases hx with rfl | rfl
  ·exact hb
  ·exact ⟨fun x hx=>by simp at hx,by simp,hks⟩) (by simp) (by simp) H
 refine W.use h fun o H' ⟨hx,hq⟩=>⟨hx,?_⟩
 rcases hq with ⟨hf,_⟩ | ⟨_,ka,hu⟩
 ·rw [formed2 hs hk] at hf;cases hf
 ·refine ⟨ka,_,hu,?_⟩
  rw [asks2 h0]
  cases hasF s k <;> simp
def PP (vs:List Fx.Ver) (ss:List Slm) (i j:Nat):Prop:=∀ v s u,vs[i]?=some v→ss[i]?=some s→vs[j]?=some u→i≠j→s.id≠0→hasF s u.key=memB v.keys u.key
def FlagI (vs:List Fx.Ver) (ss:List Slm) (e:Bool) (i k:Nat):Prop:=e=true↔(∀ i' j,i'<i→j<vs.length→PP vs ss i' j)∧∀ j,j<k→PP vs ss i j
theorem FlagI.row {vs:List Fx.Ver} {ss:List Slm} {e:Bool} {i:Nat} (h:FlagI vs ss e i vs.length):FlagI vs ss e (i+1) 0:=by
 unfold FlagI at h ⊢
 rw [h]
 constructor
 ·rintro ⟨h1,h2⟩
  refine ⟨fun i' j hi hj=>?_,fun j hj=>by omega⟩
  by_cases e:i'=i
  ·subst e;exact h2 j hj
  ·exact h1 i' j (by omega) hj
 ·rintro ⟨h1,_⟩
  exact ⟨fun i' j hi hj=>h1 i' j (by omega) hj,fun j hj=>h1 i j (by omega) hj⟩
theorem FlagI.exact {vs:List Fx.Ver} {ss:List Slm} {e:Bool} (h:FlagI vs ss e vs.length 0) (hl:ss.length=vs.length):e=true↔Exact vs ss:=by
 unfold FlagI at h
 rw [h]
 constructor
 ·rintro ⟨h1,_⟩ i j v s u hv hs hu hij hid
  exact h1 i j (List.getElem?_eq_some_iff.1 hv).1 (List.getElem?_eq_some_iff.1 hu).1 v s u hv hs hu hij hid
 ·intro he
  exact ⟨fun i' j _ _ v s u hv hs hu hij hid=>he i' j v s u hv hs hu hij hid,fun j hj=>by omega⟩
theorem FlagI.skip {vs:List Fx.Ver} {ss:List Slm} {e:Bool} {i k:Nat} (h:FlagI vs ss e i k) (hp:PP vs ss i k):FlagI vs ss e i (k+1):=by
 unfold FlagI at h ⊢
 rw [h]
 constructor
 ·rintro ⟨h1,h2⟩
  refine ⟨h1,fun j hj=>?_⟩
  by_cases e:j=k
  ·subst e;exact hp
  ·exact h2 j (by omega)
 ·rintro ⟨h1,h2⟩
  exact ⟨h1,fun j hj=>h2 j (by omega)⟩
theorem FlagI.and {vs:List Fx.Ver} {ss:List Slm} {e:Bool} {i k:Nat} (h:FlagI vs ss e i k) {c:Bool} (hp:c=true↔PP vs ss i k):FlagI vs ss (e&&c) i (k+1):=by
 unfold FlagI at h ⊢
 rw [Bool.and_eq_true,h,hp]
 constructor
 ·rintro ⟨⟨h1,h2⟩,h3⟩
  refine ⟨h1,fun j hj=>?_⟩
  by_cases e:j=k
  ·subst e;exact h3
  ·exact h2 j (by omega)
 ·rintro ⟨h1,h2⟩
  exact ⟨⟨h1,fun j hj=>h2 j (by omega)⟩,h2 k (by omega)⟩
theorem asks_ids {l m:List Slm} {a:Ak} (h:a∈asksOf l m):a.2.length≤l.length:=by
 simp -implicitDefEqProofs only [asksOf,List.mem_flatMap] at h
 obtain ⟨y,_,ha⟩:=h
 unfold askOf at ha
 split at ha
 ·cases ha
 ·simp at ha
  rw [ha]
  have h6:=ddx_len (srtL (idsOf l y)) (srtL (idsOf l y)).length
  have h7:=(srtL_ok (idsOf l y)).1.length_eq
  have h8:(idsOf l y).length≤l.length:=by unfold idsOf;rw [List.length_map];exact List.length_filter_le _ _
  show (riseL (idsOf l y)).length≤_
  unfold riseL;omega
set_option maxHeartbeats 8000000 in
theorem misses7 (parts:Int) (ko:SK) (ops:List OpW) (bits:Nat) (sh:List Int) (hb:bits<256) (hsh:sh.length=4) (hops:∀ o∈ops,OpWOk o∧-9223372036854775808≤o.at_∧o.at_<9223372036854775808) (hol:ops.length≤8000000) (H:Heap) :
  W env (.call 7 [.int .i64 parts,.sl ko (ops.map eOp),.int .u8 bits,.agg (zC sh)]) H (fun o _=>o=.val (.bool true)):=by
 refine W.fnI rfl rfl rfl ?_
 obtain ⟨H1,hH1⟩:∃ H1,H1=H++[B.cells (zC sh)]:=⟨_,rfl⟩
 have hx1:Ext H H1:=⟨_,hH1⟩
 have c1:H1[H.length]?=some (.cells (zC sh)):=by rw [hH1];exact g_tail rfl
 simp -implicitDefEqProofs only [ir7,op,ef,cl,sq,reduceIte,q3,q4,q5,q6,q7,q8,q9,j3,j4,S1]
 rw [← hH1]
 refine callB_of _ _ _ _ _ _ _ _ (alive10 _) ?_
 rintro u H2 ⟨hx2,hu⟩
 cases hu
 have hx2:Ext H1 H2:=hx2
 have c2:=hx2.get c1
 simp -implicitDefEqProofs only [op,ef,cl,sq,reduceIte,q3,q4,q5,q6,q7,q8,q9,j3,j4,S1]
 refine callB_of _ _ _ _ _ _ _ _ (made26 parts _) ?_
 rintro u H3 ⟨q,k1,k2,xs0,hu,hw0,hl1,hl2,hemp⟩
 cases hu
 have wa0:WdA H2 H3 q k1 k2 (List.replicate 16 0) xs0:=⟨hw0,hl1,hl2,WInv.zero (emp_map hemp)⟩
 have eq0:eqRef .ptr (.ptr q 0) .nilp=some false:=rfl
 simp -implicitDefEqProofs only [op,ef,cl,sq,reduceIte,q3,q4,q5,q6,q7,q8,q9,j3,j4,S1,eq0]
 refine W.loopX 0 [(1,_),(2,_),(7,_),(9,_)] (fun (i:Nat) R H'=>At H' (fun H'=>∃ pu xs,WdA H2 H' q k1 k2 pu xs)∧R 10=.int .i64 i∧i≤ops.length) (fun i=>ops.length-i) 0
  (fun R H'=>At H' (fun H'=>∃ pu xs,WdA H2 H' q k1 k2 pu xs)) ⟨.i ⟨_,_,wa0⟩,rfl,Nat.zero_le _⟩ ?_ ?_
 ·rintro i R H4 ⟨⟨pu,xs,wa⟩,g10,hi⟩
  by_cases hlt:i<ops.length
  rotate_left
  ·have hie:i=ops.length:=by omega
   subst hie
   simp -implicitDefEqProofs only [mkR_nil,mkR_cons,op,ef,cl,sq,reduceIte,q3,q4,q5,q6,q7,q8,q9,j3,j4,S1,List.length_map,g10,hlt,exitQ]
   exact .i ⟨pu,xs,wa⟩
  obtain ⟨o,ho⟩:=getP hlt
  have io:=iadX (e:=eOp) (n:=5) (fun _=>rfl) (by decide) (k:=ko) ho
  have wsi:=wrap_succ (show i<9223372036854775807 by omega)
  have hoo:=hops o (List.mem_of_getElem? ho)
  have ld5:∀ Hx,ldc Hx 5 (.iptr (eOp o))=some (eOp o):=fun _=>rfl
  simp -implicitDefEqProofs only [mkR_nil,mkR_cons,op,ef,cl,sq,reduceIte,q3,q4,q5,q6,q7,q8,q9,j3,j4,S1,List.length_map,g10,hlt,natOf_nat,io,ld5]
  refine callB_of _ _ _ _ _ _ _ _ (does27 o hoo.1 hoo.2 wa.1 wa.2.1 wa.2.2.1) ?_
  intro u H5 hd
  obtain ⟨xs',pu',hu,wa',_,_,_⟩:=wa.does hoo.1 hd
  cases hu
  simp -implicitDefEqProofs only [op,ef,cl,sq,reduceIte,q3,q4,q5,q6,q7,q8,q9,j3,j4,S1,g10,wsi]
  exact ⟨i+1,by omega,.i ⟨pu',xs',wa'⟩,rfl,hlt⟩
 rintro R H4 ⟨pu,xs,wa⟩
 have c4:=wa.1.ext.get c2
 obtain ⟨az,haz⟩:∃ az,az=xs.map Pt.a:=⟨_,rfl⟩
 have hazl:1≤az.length:=by rw [haz,List.length_map];exact wa.2.1
 have hI:WInv az pu:=by rw [haz];exact wa.2.2.2
 have hAW:∀ a∈az,AbW a:=by rw [haz];exact wa.ab
 have o1:IntKind.u8.wrap ((BitVec.ofInt IntKind.u8.bits (bits:Int) ||| BitVec.ofInt IntKind.u8.bits 1).toNat:Nat)=((bits ||| 1:Nat):Int):=or1 hb 1 (by decide)
 have hb1:bits ||| 1<256:=Nat.or_lt_two_pow (n:=8) hb (by decide)
 simp -implicitDefEqProofs only [mkR_nil,mkR_cons,op,ef,cl,sq,reduceIte,q3,q4,q5,q6,q7,q8,q9,j3,j4,S1,o1]
 refine callB_of _ _ _ _ _ _ _ _ (names28 (bits ||| 1) hb1 _) ?_
 rintro u H5 ⟨hx5,kn,hkn,hu⟩
 cases hu
 have hx5:Ext H4 H5:=hx5
 have wa5:=wa.goE hx5
 obtain ⟨ks,hks⟩:∃ ks,ks=namesL (bits ||| 1):=⟨_,rfl⟩
 rw [← hks] at hkn ⊢
 have hk8:ks.length≤8:=by rw [hks];exact names_len _
 have hk1:1≤ks.length:=by
  rw [hks]
  have hne:bits ||| 1≠0:=fun h0=>by
   have h2:(bits ||| 1).testBit 0=true:=by rw [Nat.testBit_or];simp
   rw [h0] at h2;simp at h2
  exact List.length_pos_iff.2 (names_some hne hb1)
 have hnd:ks.Nodup:=by rw [hks];exact names_nd _
 have hksz:∀ k∈ks,k.size≤1:=fun k hk=>by rw [hks] at hk;exact names_size hk
 simp -implicitDefEqProofs only [op,ef,cl,sq,reduceIte,q3,q4,q5,q6,q7,q8,q9,j3,j4,S1]
 refine callB_of _ _ _ _ _ _ _ _ (latest31 kn ks wa5.1 wa5.2.1 (by have:=wa5.2.2.1;omega) (fun k hk=>by have:=hksz k hk;omega) (by omega)) ?_
 rintro u H6 ⟨hx6,kv,hu⟩
 cases hu
 rw [← haz]
 have hx6:Ext H5 H6:=hx6
 have c6:=hx6.get (hx5.get c4)
 obtain ⟨vs,hvs⟩:∃ vs,vs=ks.map (verOf az):=⟨_,rfl⟩
 rw [← hvs]
 have hvl:vs.length=ks.length:=by rw [hvs];simp
 have hva:∀ (i:Nat) k,ks[i]?=some k→vs[i]?=some (verOf az k):=fun i k hk=>by rw [hvs,List.getElem?_map,hk];rfl
 have hvk:vs.map Fx.Ver.key=ks:=by rw [hvs,List.map_map];exact (List.map_congr_left fun k _=>rfl).trans (List.map_id _)
 simp -implicitDefEqProofs only [op,ef,cl,sq,reduceIte,q3,q4,q5,q6,q7,q8,q9,j3,j4,S1]
 refine W.loopX 2 [(7,_),(11,_),(12,_)] (fun (i:Nat) R H'=>At H' (fun H'=>Ext H6 H'∧∃ (kk:SK) (ss:List Slm),R 13=.sl kk (ss.map (eSl .arg))∧Apd H6.length H' kk∧ss.length=i∧∀ (j:Nat) v s,vs[j]?=some v→ss[j]?=some s→WSl v s)∧R 14=.int .i64 i∧i≤vs.length) (fun i=>vs.length-i) 0
  (fun R H'=>At H' (fun H'=>Ext H6 H'∧∃ (kk:SK) (ss:List Slm),R 13=.sl kk (ss.map (eSl .arg))∧ss.length=vs.length∧∀ (j:Nat) v s,vs[j]?=some v→ss[j]?=some s→WSl v s)) ⟨.i ⟨Ext.rfl',.nil,[],rfl,apd_nil _ _,rfl,fun j v s _ h=>by simp at h⟩,rfl,Nat.zero_le _⟩ ?_ ?_
 ·rintro i R H7 ⟨⟨hx7,kk,ss,g13,hap,hsl,hws⟩,g14,hi⟩
  by_cases hlt:i<vs.length
  rotate_left
  ·have hie:i=vs.length:=by omega
   subst hie
   simp -implicitDefEqProofs only [mkR_nil,mkR_cons,op,ef,cl,sq,reduceIte,q3,q4,q5,q6,q7,q8,q9,j3,j4,S1,Fx.encVs_len,g13,g14,hlt,exitQ]
   exact .i ⟨hx7,kk,ss,rfl,hsl,hws⟩
  have c7:=hx7.get c6
  obtain ⟨k,hk⟩:=getP (l:=ks) (i:=i) (by omega)
  have hvi:=hva i k hk
  have iv:=Fx.iadV (k:=kv) hvi
  have wsi:=wrap_succ (show i<9223372036854775807 by omega)
  have a1:=and1 (i:=i) (by omega)
  have w2:IntKind.i64.wrap (2*((i % 2:Nat):Int))=((2*(i % 2):Nat):Int):=by rw [wrap64 (by omega)];simp
  have w3:IntKind.i64.wrap (((2*(i % 2):Nat):Int)+1)=((2*(i % 2)+1:Nat):Int):=by rw [wrap64 (by omega)];simp
  have l2':2*(i % 2)<4:=by omega
  have l3':2*(i % 2)+1<4:=by omega
  obtain ⟨z1,hz1⟩:=getP (l:=sh) (i:=2*(i % 2)) (by omega)
  obtain ⟨z2,hz2⟩:=getP (l:=sh) (i:=2*(i % 2)+1) (by omega)
  have q1:=zC_get' hz1
  have q2:=zC_get' hz2
  have ldV:=Fx.ldV
  obtain ⟨H8,hH8⟩:∃ H8,H8=H7++[B.cells [T.str ⟨#[]⟩,.int .u64 0,.str ⟨#[]⟩,.sl .nil []]]:=⟨_,rfl⟩
  have hx8:Ext H7 H8:=⟨_,hH8⟩
  have d8:H8[H7.length]?=some (.cells [T.str ⟨#[]⟩,.int .u64 0,.str ⟨#[]⟩,.sl .nil []]):=by rw [hH8];exact g_tail rfl
  have c8:=hx8.get c7
  simp -implicitDefEqProofs only [mkR_nil,mkR_cons,op,ef,cl,sq,reduceIte,q3,q4,q5,q6,q7,q8,q9,j3,j4,S1,Fx.encVs_len,g14,hlt,natOf_nat,iv,ldV,a1,w2,w3,l2',l3',c7,q1,q2]
  rw [← hH8]
  refine callB_of _ _ _ _ _ _ _ _ (shaped32 z1 z2 _) ?_
  rintro u H9 ⟨hx9,b,j,b1,b2,j1,j2,hu⟩
  cases hu
  have hx9:Ext H8 H9:=hx9
  have c9:=hx9.get c8
  have d9:=hx9.get d8
  obtain ⟨s,hs,hw,_⟩:=of_latest hI hAW hazl k (hksz k (List.mem_of_getElem? hk)) b1 b2 j1 j2
  have hkeys:(verOf az k).keys.length≤1024∧∀ x∈(verOf az k).keys,x.size<9223372036854775807:=by
   rcases latest_ok hI hAW hazl k with e | ⟨n,bb,val,p1,p2,p3,e,_⟩
   ·rw [e];exact ⟨by simp,fun x hx=>by simp at hx⟩
   ·rw [e];exact ⟨by have:=names_len bb;show (namesL bb).length≤_;omega,fun x hx=>by have:=names_size hx;omega⟩
  have h11:=of11 k (verOf az k).id (verOf az k).val .arg (verOf az k).keys b j H9 (by omega) hkeys.2
  rw [hs] at h11
  simp -implicitDefEqProofs only [op,ef,cl,sq,reduceIte,q3,q4,q5,q6,q7,q8,q9,j3,j4,S1,ldV,iv,c8,c9,q1,q2,natOf_nat,a1,w2,w3,l2',l3']
  refine callB_of _ _ _ _ _ _ _ _ h11 ?_
  rintro u H10 ⟨hx10,kf,hkf,hu⟩
  cases hu
  have hx10:Ext H9 H10:=hx10
  have d10:=hx10.get d9
  have l10:=glt d10
  have c10:=hx10.get c9
  obtain ⟨H11,hH11⟩:∃ H11,H11=H10.set H7.length (.cells (eSl kf s)):=⟨_,rfl⟩
  have d11:H11[H7.length]?=some (.cells (eSl kf s)):=by rw [hH11];exact g_eq l10
  have hx11:Ext H7 H11:=by rw [hH11];exact ((hx8.trans hx9).trans hx10).set (Nat.le_refl _) _
  have hH11':=hH11
  unfold eSl at d11 hH11'
  have hall:=all_map (enc:=eSl .arg) (n:=4) (fun _=>rfl) ss
  obtain ⟨k',H12,ha,hap',hst'⟩:=app_ok (bytes:=64) (ss.map (eSl .arg)) [eSl .arg s] (hap.ext hx11) (Nat.le_trans hx7.len hx11.len) (by simp) (roomT (by simp -implicitDefEqProofs only [List.length_map,List.length_cons,List.length_nil];omega))
  have ha2:appT H11 64 kk (ss.map (eSl .arg)) [[.str s.key,.int .u64 s.id,.str s.val,.sl .arg (s.fil.map eB)]]=some (.sl k' ((ss++[s]).map (eSl .arg)),H12):=by rw [List.map_append];exact ha
  simp -implicitDefEqProofs only [eSl,op,ef,cl,sq,reduceIte,q3,q4,q5,q6,q7,q8,q9,j3,j4,S1,S2,c8,c9,c10,d10,l10,q1,q2,natOf_nat,a1,w2,w3,l2',l3']
  rw [← hH11']
  simp -implicitDefEqProofs only [op,ef,cl,sq,reduceIte,q3,q4,q5,q6,q7,q8,q9,j3,j4,S1,g13,g14,d11,hall,ha2,wsi]
  refine ⟨i+1,by omega,.i ⟨hst'.ext H6 (Nat.le_refl _) (hx7.trans hx11),k',ss++[s],rfl,hap',by simp [hsl],fun j v s' hv hs'=>?_⟩,rfl,hlt⟩
  by_cases hj:j<ss.length
  ·rw [List.getElem?_append_left hj] at hs';exact hws j v s' hv hs'
  ·rw [List.getElem?_append_right (by omega)] at hs'
   have hjl:=(List.getElem?_eq_some_iff.1 hs').1
   simp at hjl
   have hji:j=ss.length:=by omega
   subst hji
   simp at hs'
   subst hs'
   rw [hsl,hvi] at hv;cases hv
   exact hw
 rintro R H7 ⟨hx7,ks7,ss,g13,hsl,hws⟩
 have hx7:Ext H6 H7:=hx7
 have hS:Sls vs ss:=⟨hsl,hws,by omega,by omega,by rw [hvk];exact hnd⟩
 have hsk:∀ (i:Nat) k s,ks[i]?=some k→ss[i]?=some s→s.key=k:=fun i k s hk hs=>by rw [(hws i _ s (hva i k hk) hs).key];rfl
 simp -implicitDefEqProofs only [mkR_nil,mkR_cons,op,ef,cl,sq,reduceIte,q3,q4,q5,q6,q7,q8,q9,j3,j4,S1,g13]
 have hkl:ks.length=vs.length:=hvl.symm
 refine W.loopX 4 [(11,_),(12,_),(13,_)] (fun (i:Nat) R H'=>At H' (fun H'=>Ext H6 H')∧(∃ e,R 17=.bool e∧FlagI vs ss e i 0)∧R 18=.int .i64 i∧i≤ss.length) (fun i=>ss.length-i) 0
  (fun R H'=>At H' (fun H'=>Ext H6 H')∧∃ e,R 17=.bool e∧(e=true↔Exact vs ss)) ⟨.i hx7,⟨true,rfl,⟨fun _=>⟨fun i' j h=>by omega,fun j h=>by omega⟩,fun _=>rfl⟩⟩,rfl,Nat.zero_le _⟩ ?_ ?_
 ·rintro i R H8 ⟨hx8,⟨e,g17,hfl⟩,g18,hi⟩
  have hx8:Ext H6 H8:=hx8
  by_cases hlt:i<ss.length
  rotate_left
  ·have hie:i=vs.length:=by omega
   subst hie
   simp -implicitDefEqProofs only [mkR_nil,mkR_cons,op,ef,cl,sq,reduceIte,q3,q4,q5,q6,q7,q8,q9,j3,j4,S1,g13,List.length_map,g17,g18,hlt,exitQ]
   exact ⟨.i hx8,e,rfl,hfl.exact hsl⟩
  obtain ⟨s,hs⟩:=getP hlt
  obtain ⟨v,hv,hw⟩:=hS.at' hs
  obtain ⟨ki,hki⟩:=getP (l:=ks) (i:=i) (by omega)
  have hskey:=hsk i ki s hki hs
  have is:=iadX (e:=eSl .arg) (n:=4) (fun _=>rfl) (by decide) (k:=ks7) hs
  have wsi:=wrap_succ (show i<9223372036854775807 by omega)
  simp -implicitDefEqProofs only [mkR_nil,mkR_cons,op,ef,cl,sq,reduceIte,q3,q4,q5,q6,q7,q8,q9,j3,j4,S1,g13,List.length_map,g18,hlt]
  refine W.loopX 6 [(11,_),(12,_),(13,_),(18,_)] (fun (k:Nat) R H'=>At H' (fun H'=>Ext H6 H')∧(∃ e,R 17=.bool e∧FlagI vs ss e i k)∧R 19=.int .i64 k∧k≤ks.length) (fun k=>ks.length-k) 0
   (fun R H'=>At H' (fun H'=>Ext H6 H')∧∃ e,R 17=.bool e∧FlagI vs ss e (i+1) 0) ⟨.i hx8,⟨e,g17,hfl⟩,rfl,Nat.zero_le _⟩ ?_ ?_
  ·rintro k R H9 ⟨hx9,⟨e,g17,hfl⟩,g19,hk⟩
   have hx9:Ext H6 H9:=hx9
   by_cases hkl':k<ks.length
   rotate_left
   ·have hke:k=vs.length:=by omega
    subst hke
    simp -implicitDefEqProofs only [mkR_nil,mkR_cons,op,ef,cl,sq,reduceIte,q3,q4,q5,q6,q7,q8,q9,j3,j4,S1,g13,List.length_map,g17,g19,hkl',exitQ]
    exact ⟨.i hx9,e,rfl,hfl.row⟩
   obtain ⟨kk,hkk⟩:=getP hkl'
   have ikk:=iadX (e:=eS) (n:=1) (fun _=>rfl) (by decide) (k:=kn) hkk
   have wsk:=wrap_succ (show k<9223372036854775807 by omega)
   have hvk':=hva k kk hkk
   by_cases hik:i=k
   ·subst hik
    have hp:PP vs ss i i:=fun v s u _ _ _ hne=>absurd rfl hne
    simp -implicitDefEqProofs only [mkR_nil,mkR_cons,op,ef,cl,sq,reduceIte,q3,q4,q5,q6,q7,q8,q9,j3,j4,S1,g13,List.length_map,g17,g18,g19,hkl',wsk]
    exact ⟨i+1,by omega,.i hx9,⟨e,rfl,hfl.skip hp⟩,rfl,hkl'⟩
   have f1:fadT 1 (.iptr (eSl .arg s))=some (.iptr [.int .u64 s.id,.str s.val,.sl .arg (s.fil.map eB)]):=rfl
   by_cases h0:s.id=0
   ·have hp:PP vs ss i k:=fun v' s' u _ hs' _ _ hid=>by rw [hs] at hs';cases hs';exact absurd h0 hid
    simp -implicitDefEqProofs only [mkR_nil,mkR_cons,op,ef,cl,sq,reduceIte,q3,q4,q5,q6,q7,q8,q9,j3,j4,S1,g13,List.length_map,g17,g18,g19,hkl',hik,natOf_nat,is,f1,ldc_iptr,h0,wsk]
    exact ⟨k+1,by omega,.i hx9,⟨e,rfl,hfl.skip hp⟩,rfl,hkl'⟩
   have hkne:s.key≠kk:=fun e=>by
    rw [hskey] at e;subst e
    exact hik ((List.getElem?_inj (List.getElem?_eq_some_iff.1 hki).1 hnd).1 (hki.trans hkk.symm))
   have ld4:∀ Hx,ldc Hx 4 (.iptr (eSl .arg s))=some [.str s.key,.int .u64 s.id,.str s.val,.sl .arg (s.fil.map eB)]:=fun _=>rfl
   have h17:=fun kx Hx=>two17 s kk h0 hw.ok hw.sb hkne (by have:=hksz kk (List.mem_of_getElem? hkk);omega) kx Hx
   simp -implicitDefEqProofs only [eSl,List.map_nil] at h17
   simp -implicitDefEqProofs only [mkR_nil,mkR_cons,op,ef,cl,sq,reduceIte,q3,q4,q5,q6,q7,q8,q9,j3,j4,S1,g13,List.length_map,g17,g18,g19,hkl',hik,natOf_nat,is,f1,ldc_iptr,h0,ld4,ikk,eS]
   refine callB_of _ _ _ _ _ _ _ _ (h17 _ _) ?_
   rintro u H10 ⟨hx10,ka,al,hu,hal⟩
   cases hu
   have hx10:Ext H9 H10:=hx10
   have iv:=Fx.iadV (k:=kv) hv
   have f3:=Fx.fadV3 v
   have hvkl:v.keys.length≤1024:=by
    rw [hva i ki hki] at hv;cases hv
    rcases latest_ok hI hAW hazl ki with e | ⟨n,bb,val,p1,p2,p3,e,_⟩
    ·rw [e];simp
    ·rw [e];have:=names_len bb;show (namesL bb).length≤_;omega
   simp -implicitDefEqProofs only [op,ef,cl,sq,reduceIte,q3,q4,q5,q6,q7,q8,q9,j3,j4,S1,g13,g17,g18,g19]
   refine W.loopX 8 [(11,_),(12,_),(13,_),(17,_),(18,_),(19,_),(20,_),(21,_)] (fun (x:Nat) R H'=>H'=H10∧R 22=.bool (memB (v.keys.take x) kk)∧R 23=.int .i64 x∧x≤v.keys.length) (fun x=>v.keys.length-x) 0
    (fun R H'=>H'=H10∧R 22=.bool (memB v.keys kk)) ⟨rfl,rfl,rfl,Nat.zero_le _⟩ ?_ ?_
   ·rintro x R H10 ⟨rfl,g22,g23,hx⟩
    by_cases hxl:x<v.keys.length
    rotate_left
    ·have hxe:x=v.keys.length:=by omega
     rw [hxe,List.take_length] at g22
     subst hxe
     simp -implicitDefEqProofs only [mkR_nil,mkR_cons,op,ef,cl,sq,reduceIte,q3,q4,q5,q6,q7,q8,q9,j3,j4,S1,g13,g18,natOf_nat,iv,f3,ldc_iptr,Fx.encS_len,g22,g23,hxl,exitQ]
    obtain ⟨y,hy⟩:=getP hxl
    have iy:iadT 1 x (.sl v.kk (Fx.encS v.keys))=some (.iptr [.str y]):=Fx.iadS hy
    have wsx:=wrap_succ (show x<9223372036854775807 by omega)
    have hmt:=memB_take (x:=kk) hy
    cases hmb:memB (v.keys.take x) kk
    ·rw [hmb] at g22 hmt
     simp -implicitDefEqProofs only [mkR_nil,mkR_cons,op,ef,cl,sq,reduceIte,q3,q4,q5,q6,q7,q8,q9,j3,j4,S1,g13,g18,g19,natOf_nat,iv,f3,ldc_iptr,Fx.encS_len,g22,g23,hxl,iy,ikk,eS,wsx]
     exact ⟨x+1,by omega,by rw [hmt,Bool.false_or],rfl,hxl⟩
    ·rw [hmb] at g22 hmt
     simp -implicitDefEqProofs only [mkR_nil,mkR_cons,op,ef,cl,sq,reduceIte,q3,q4,q5,q6,q7,q8,q9,j3,j4,S1,g13,g18,g19,natOf_nat,iv,f3,ldc_iptr,Fx.encS_len,g22,g23,hxl,wsx]
     exact ⟨x+1,by omega,by rw [hmt];rfl,rfl,hxl⟩
   rintro R H10 ⟨rfl,g22⟩
   have hpp:(hasF s kk==memB v.keys kk)=true↔PP vs ss i k:=by
    rw [beq_iff_eq]
    constructor
    ·intro hh v' s' u hv' hs' hu' _ _
     rw [hv] at hv';rw [hs] at hs';rw [hvk'] at hu'
     cases hv';cases hs';cases hu'
     exact hh
    ·intro hh
     exact hh v s _ hv hs hvk' hik h0
   have hfin:=hfl.and hpp
   have hwr:memB v.keys kk=true→hasF s kk=true:=fun hm=>hw.nf (by rw [← hw.id];exact h0) kk (memB_iff.1 hm)
   have hl1:(((al.length:Nat):Int)==1)=hasF s kk:=by rw [hal];cases hasF s kk <;> rfl
   have hl2:(((al.length:Nat):Int) != 1)=!hasF s kk:=by rw [hal];cases hasF s kk <;> rfl
   cases hmk:memB v.keys kk
   ·rw [hmk] at g22 hfin
    cases e
    ·simp -implicitDefEqProofs only [mkR_nil,mkR_cons,op,ef,cl,sq,reduceIte,q3,q4,q5,q6,q7,q8,q9,j3,j4,S1,g13,g17,g19,g22,wsk]
     exact ⟨k+1,by omega,.i (hx9.trans hx10),⟨_,rfl,by rw [Bool.false_and] at hfin;exact hfin⟩,rfl,hkl'⟩
    ·cases hhf:hasF s kk
     ·rw [hhf] at hl1 hl2 hfin
      simp -implicitDefEqProofs only [mkR_nil,mkR_cons,op,ef,cl,sq,reduceIte,q3,q4,q5,q6,q7,q8,q9,j3,j4,S1,g13,g17,g19,g22,wsk,List.length_map,hl1]
      exact ⟨k+1,by omega,.i (hx9.trans hx10),⟨_,rfl,hfin⟩,rfl,hkl'⟩
     ·rw [hhf] at hl1 hl2 hfin
      simp -implicitDefEqProofs only [mkR_nil,mkR_cons,op,ef,cl,sq,reduceIte,q3,q4,q5,q6,q7,q8,q9,j3,j4,S1,g13,g17,g19,g22,wsk,List.length_map,hl1]
      exact ⟨k+1,by omega,.i (hx9.trans hx10),⟨_,rfl,hfin⟩,rfl,hkl'⟩
   ·rw [hmk] at g22 hfin
    have hhf:=hwr hmk
    rw [hhf] at hl1 hl2 hfin
    cases e
    ·simp -implicitDefEqProofs only [mkR_nil,mkR_cons,op,ef,cl,sq,reduceIte,q3,q4,q5,q6,q7,q8,q9,j3,j4,S1,g13,g17,g19,g22,wsk,List.length_map,hl2]
     exact ⟨k+1,by omega,.i (hx9.trans hx10),⟨_,rfl,by rw [Bool.false_and] at hfin;exact hfin⟩,rfl,hkl'⟩
    ·simp -implicitDefEqProofs only [mkR_nil,mkR_cons,op,ef,cl,sq,reduceIte,q3,q4,q5,q6,q7,q8,q9,j3,j4,S1,g13,g17,g19,g22,wsk,List.length_map,hl1,hl2]
     exact ⟨k+1,by omega,.i (hx9.trans hx10),⟨_,rfl,hfin⟩,rfl,hkl'⟩
  rintro R H9 ⟨hx9,e,g17,hfl⟩
  simp -implicitDefEqProofs only [mkR_nil,mkR_cons,op,ef,cl,sq,reduceIte,q3,q4,q5,q6,q7,q8,q9,j3,j4,S1,g13,g17,g18,wsi]
  exact ⟨i+1,by omega,hx9,⟨e,rfl,hfl⟩,rfl,hlt⟩
 rintro R H8 ⟨hx8,e,g17,hex⟩
 have hx8:Ext H6 H8:=hx8
 have hform:Fx.Formed vs:=by rw [hvs];exact whole_formed hI hAW hazl hk1 (by omega) hnd
 have hsmall:Fx.Small vs:=by
  refine ⟨by omega,fun v hv=>?_⟩
  rw [hvs] at hv
  obtain ⟨k,_,rfl⟩:=List.mem_map.1 hv
  rcases latest_ok hI hAW hazl k with e | ⟨n,bb,val,p1,p2,p3,e,_⟩
  ·rw [e];simp
  ·rw [e];have:=names_len bb;show (namesL bb).length<_;omega
 simp -implicitDefEqProofs only [mkR_nil,mkR_cons,op,ef,cl,sq,reduceIte,q3,q4,q5,q6,q7,q8,q9,j3,j4,S1,g13,g17]
 refine callB_of _ _ _ _ _ _ _ _ (Fx.needs9 kv vs _ hsmall) ?_
 rintro u H9 ⟨hx9,kw,hu⟩
 have hu:u=.tup [.sl kw (Fx.encWs (Fx.wants vs)),.int .i64 0]:=by
  cases hu
  simp -implicitDefEqProofs only [Fx.needs,Fx.needsE,hform,if_true];rfl
 subst hu
 have hx9:Ext H8 H9:=hx9
 simp -implicitDefEqProofs only [op,ef,cl,sq,reduceIte,q3,q4,q5,q6,q7,q8,q9,j3,j4,S1,g13,g17]
 refine callB_of _ _ _ _ _ _ _ _ (needs17 sortI12 ks7 ss hS.sb (by omega) (by omega) _) ?_
 rintro u H10 ⟨hx10,⟨hno,_⟩ | ⟨_,ka,hu⟩⟩
 ·rw [hS.formed] at hno;cases hno
 cases hu
 obtain ⟨wl,hwl⟩:∃ wl,wl=Fx.wants vs:=⟨_,rfl⟩
 obtain ⟨al,hal⟩:∃ al,al=asksOf ss ss:=⟨_,rfl⟩
 rw [← hwl,← hal]
 have hcnt:e=true→al.length=wl.length:=fun he=>by rw [hwl,hal];exact hS.cnt (hex.1 he)
 have hwll:wl.length≤1024:=by rw [hwl];have:=Fx.wants_le vs vs;unfold Fx.wants;omega
 have hall:al.length≤1024:=by rw [hal];have:=asksOf_len ss ss;omega
 obtain ⟨E,hE⟩:∃ E:Bool,E=e:=⟨e,rfl⟩
 have hexE:E=true↔Exact vs ss:=by rw [hE];exact hex
 have hc1:E=true→al.length=wl.length:=fun h=>hcnt (by rw [← hE];exact h)
 clear hex hcnt
 have hcl:al.length=wl.length∨E=false:=by
  cases hh:E
  ·exact .inr rfl
  ·exact .inl (hc1 hh)
 cases e
 ·simp -implicitDefEqProofs only [op,ef,cl,sq,reduceIte,q3,q4,q5,q6,q7,q8,q9,j3,j4,S1,g13,g17]
  refine W.loopV [(17,_),(24,_),(26,_)] (fun (i:Nat) R H'=>R 28=.int .i64 i∧i≤wl.length) (fun i=>wl.length-i) 0 ⟨rfl,Nat.zero_le _⟩ ?_
  rintro i R H11 ⟨g28,hi⟩
  by_cases hlt:i<wl.length
  rotate_left
  ·simp -implicitDefEqProofs only [mkR_nil,mkR_cons,op,ef,cl,sq,reduceIte,q3,q4,q5,q6,q7,q8,q9,j3,j4,S1,Fx.encWs_len,g28,hlt]
  obtain ⟨w,hw⟩:=getP hlt
  have iw:=iadX (e:=Fx.encW) (n:=2) (fun _=>rfl) (by decide) (k:=kw) hw
  have iw':iadT 2 i (.sl kw (Fx.encWs wl))=some (.iptr (Fx.encW w)):=iw
  have wsi:=wrap_succ (show i<9223372036854775807 by omega)
  obtain ⟨j,a,ha,hkey,x0,hx0,hlast⟩:=hS.want (w:=w) (by rw [← hwl];exact List.mem_of_getElem? hw)
  rw [← hal] at ha
  have hjl:=(List.getElem?_eq_some_iff.1 ha).1
  have fw0:fadT 0 (.iptr (Fx.encW w))=some (.iptr [.str w.1,.int .u64 w.2]):=rfl
  have fw1:fadT 1 (.iptr (Fx.encW w))=some (.iptr [.int .u64 w.2]):=rfl
  simp -implicitDefEqProofs only [mkR_nil,mkR_cons,op,ef,cl,sq,reduceIte,q3,q4,q5,q6,q7,q8,q9,j3,j4,S1,Fx.encWs_len,g28,hlt]
  refine W.loopX 12 [(17,_),(24,_),(26,_),(28,_)] (fun (k:Nat) R H'=>(∃ fd,R 29=.bool fd∧(j<k→fd=true))∧R 30=.int .i64 k∧k≤al.length) (fun k=>al.length-k) 0
   (fun R H'=>R 29=.bool true) ⟨⟨false,rfl,fun h=>by omega⟩,rfl,Nat.zero_le _⟩ ?_ ?_
  ·rintro k R H12 ⟨⟨fd,g29,hfd⟩,g30,hk⟩
   by_cases hkl':k<al.length
   rotate_left
   ·have hke:k=al.length:=by omega
    have hft:=hfd (by omega)
    subst hft
    simp -implicitDefEqProofs only [mkR_nil,mkR_cons,op,ef,cl,sq,reduceIte,q3,q4,q5,q6,q7,q8,q9,j3,j4,S1,List.length_map,g29,g30,hkl',exitQ]
   obtain ⟨ak,hak⟩:=getP hkl'
   have iak:=iadX (e:=eA) (n:=2) (fun _=>rfl) (by decide) (k:=ka) hak
   have fa0:fadT 0 (.iptr (eA ak))=some (.iptr [.str ak.1,.sl .arg (ak.2.map eU)]):=rfl
   have fa1:fadT 1 (.iptr (eA ak))=some (.iptr [.sl .arg (ak.2.map eU)]):=rfl
   have wsk:=wrap_succ (show k<9223372036854775807 by omega)
   have haks:ak.2.length≤1024:=by
    have:=asks_ids (l:=ss) (m:=ss) (a:=ak) (by rw [← hal];exact List.mem_of_getElem? hak)
    omega
   by_cases hkk:ak.1=w.1
   rotate_left
   ·have hjk:j≠k:=fun e=>by subst e;rw [ha] at hak;cases hak;exact hkk hkey
    simp -implicitDefEqProofs only [mkR_nil,mkR_cons,op,ef,cl,sq,reduceIte,q3,q4,q5,q6,q7,q8,q9,j3,j4,S1,g28,g29,g30,hkl',List.length_map,natOf_nat,iak,fa0,ldc_iptr,iw',fw0,hkk,wsk]
    exact ⟨k+1,by omega,⟨fd,rfl,fun h=>hfd (by omega)⟩,rfl,hkl'⟩
   simp -implicitDefEqProofs only [mkR_nil,mkR_cons,op,ef,cl,sq,reduceIte,q3,q4,q5,q6,q7,q8,q9,j3,j4,S1,g28,g29,g30,hkl',List.length_map,natOf_nat,iak,fa0,ldc_iptr,iw',fw0,hkk]
   refine W.loopX 14 [(17,_),(24,_),(26,_),(28,_),(30,_)] (fun (x:Nat) R H'=>(∃ fd,R 29=.bool fd∧(j<k→fd=true)∧(j=k→x0<x→fd=true))∧R 31=.int .i64 x∧x≤ak.2.length) (fun x=>ak.2.length-x) 0
    (fun R H'=>∃ fd,R 29=.bool fd∧(j<k+1→fd=true)) ⟨⟨fd,g29,hfd,fun _ h=>by omega⟩,rfl,Nat.zero_le _⟩ ?_ ?_
   ·rintro x R H13 ⟨⟨fd,g29,hf1,hf2⟩,g31,hx⟩
    by_cases hxl:x<ak.2.length
    rotate_left
    ·have hxe:x=ak.2.length:=by omega
     simp -implicitDefEqProofs only [mkR_nil,mkR_cons,op,ef,cl,sq,reduceIte,q3,q4,q5,q6,q7,q8,q9,j3,j4,S1,g28,g29,g30,g31,List.length_map,natOf_nat,iak,fa1,ldc_iptr,hxl,exitQ]
     refine ⟨fd,rfl,fun h=>?_⟩
     by_cases hjk:j=k
     ·refine hf2 hjk ?_
      subst hjk
      rw [ha] at hak;cases hak
      have:=(List.getElem?_eq_some_iff.1 hx0).1
      omega
     ·exact hf1 (by omega)
    obtain ⟨y,hy⟩:=getP hxl
    have iy:=iadX (e:=eU) (n:=1) (fun _=>rfl) (by decide) (k:=.arg) hy
    have wsx:=wrap_succ (show x<9223372036854775807 by omega)
    have wpl:=wrap_pred (i:=ak.2.length) (by omega) (by omega)
    have hit:j=k→x=x0→y=w.2∧(E=true→x=ak.2.length-1):=fun h1 h2=>by
     subst h1;subst h2
     rw [ha] at hak;cases hak
     rw [hy] at hx0;cases hx0
     exact ⟨rfl,fun h=>hlast (hexE.1 h)⟩
    cases fd
    rotate_left
    ·simp -implicitDefEqProofs only [mkR_nil,mkR_cons,op,ef,cl,sq,reduceIte,q3,q4,q5,q6,q7,q8,q9,j3,j4,S1,g28,g29,g30,g31,List.length_map,natOf_nat,iak,fa1,ldc_iptr,hxl,wsx]
     exact ⟨x+1,by omega,⟨_,rfl,fun _=>rfl,fun _ _=>rfl⟩,rfl,hxl⟩
    by_cases hyw:y=w.2
    rotate_left
    ·simp -implicitDefEqProofs only [mkR_nil,mkR_cons,op,ef,cl,sq,reduceIte,q3,q4,q5,q6,q7,q8,q9,j3,j4,S1,g28,g29,g30,g31,List.length_map,natOf_nat,iak,fa1,ldc_iptr,hxl,iy,eU,iw',fw1,hyw,wsx]
     refine ⟨x+1,by omega,⟨_,rfl,hf1,fun h1 h2=>?_⟩,rfl,hxl⟩
     by_cases he:x=x0
     ·exact absurd (hit h1 he).1 hyw
     ·exact hf2 h1 (by omega)
    by_cases hxx:x=ak.2.length-1
    ·have hxx':=eq_true hxx
     simp -implicitDefEqProofs only [mkR_nil,mkR_cons,op,ef,cl,sq,reduceIte,q3,q4,q5,q6,q7,q8,q9,j3,j4,S1,g17,g28,g29,g30,g31,List.length_map,natOf_nat,iak,fa1,ldc_iptr,hxl,iy,eU,iw',fw1,hyw,wpl,hxx',wsx]
     exact ⟨x+1,by omega,⟨_,rfl,fun _=>rfl,fun _ _=>rfl⟩,rfl,hxl⟩
    ·simp -implicitDefEqProofs only [mkR_nil,mkR_cons,op,ef,cl,sq,reduceIte,q3,q4,q5,q6,q7,q8,q9,j3,j4,S1,g17,g28,g29,g30,g31,List.length_map,natOf_nat,iak,fa1,ldc_iptr,hxl,iy,eU,iw',fw1,hyw,wpl,hxx,wsx]
     exact ⟨x+1,by omega,⟨_,rfl,fun _=>rfl,fun _ _=>rfl⟩,rfl,hxl⟩
   rintro R H13 ⟨fd,g29,hfd⟩
   simp -implicitDefEqProofs only [mkR_nil,mkR_cons,op,ef,cl,sq,reduceIte,q3,q4,q5,q6,q7,q8,q9,j3,j4,S1,g29,g30,wsk]
   exact ⟨k+1,by omega,⟨fd,rfl,hfd⟩,rfl,hkl'⟩
  rintro R H12 g29
  simp -implicitDefEqProofs only [mkR_nil,mkR_cons,op,ef,cl,sq,reduceIte,q3,q4,q5,q6,q7,q8,q9,j3,j4,S1,g28,g29,wsi]
  exact ⟨i+1,by omega,rfl,hlt⟩
 ·have hc2:=hc1 hE
  simp -implicitDefEqProofs only [op,ef,cl,sq,reduceIte,q3,q4,q5,q6,q7,q8,q9,j3,j4,S1,g13,g17,List.length_map,Fx.encWs_len,hc2]
  refine W.loopV [(17,_),(24,_),(26,_)] (fun (i:Nat) R H'=>R 28=.int .i64 i∧i≤wl.length) (fun i=>wl.length-i) 0 ⟨rfl,Nat.zero_le _⟩ ?_
  rintro i R H11 ⟨g28,hi⟩
  by_cases hlt:i<wl.length
  rotate_left
  ·simp -implicitDefEqProofs only [mkR_nil,mkR_cons,op,ef,cl,sq,reduceIte,q3,q4,q5,q6,q7,q8,q9,j3,j4,S1,Fx.encWs_len,g28,hlt]
  obtain ⟨w,hw⟩:=getP hlt
  have iw:=iadX (e:=Fx.encW) (n:=2) (fun _=>rfl) (by decide) (k:=kw) hw
  have iw':iadT 2 i (.sl kw (Fx.encWs wl))=some (.iptr (Fx.encW w)):=iw
  have wsi:=wrap_succ (show i<9223372036854775807 by omega)
  obtain ⟨j,a,ha,hkey,x0,hx0,hlast⟩:=hS.want (w:=w) (by rw [← hwl];exact List.mem_of_getElem? hw)
  rw [← hal] at ha
  have hjl:=(List.getElem?_eq_some_iff.1 ha).1
  have fw0:fadT 0 (.iptr (Fx.encW w))=some (.iptr [.str w.1,.int .u64 w.2]):=rfl
  have fw1:fadT 1 (.iptr (Fx.encW w))=some (.iptr [.int .u64 w.2]):=rfl
  simp -implicitDefEqProofs only [mkR_nil,mkR_cons,op,ef,cl,sq,reduceIte,q3,q4,q5,q6,q7,q8,q9,j3,j4,S1,Fx.encWs_len,g28,hlt]
  refine W.loopX 12 [(17,_),(24,_),(26,_),(28,_)] (fun (k:Nat) R H'=>(∃ fd,R 29=.bool fd∧(j<k→fd=true))∧R 30=.int .i64 k∧k≤al.length) (fun k=>al.length-k) 0
   (fun R H'=>R 29=.bool true) ⟨⟨false,rfl,fun h=>by omega⟩,rfl,Nat.zero_le _⟩ ?_ ?_
  ·rintro k R H12 ⟨⟨fd,g29,hfd⟩,g30,hk⟩
   by_cases hkl':k<al.length
   rotate_left
   ·have hke:k=al.length:=by omega
    have hft:=hfd (by omega)
    subst hft
    simp -implicitDefEqProofs only [mkR_nil,mkR_cons,op,ef,cl,sq,reduceIte,q3,q4,q5,q6,q7,q8,q9,j3,j4,S1,List.length_map,g29,g30,hkl',exitQ]
   obtain ⟨ak,hak⟩:=getP hkl'
   have iak:=iadX (e:=eA) (n:=2) (fun _=>rfl) (by decide) (k:=ka) hak
   have fa0:fadT 0 (.iptr (eA ak))=some (.iptr [.str ak.1,.sl .arg (ak.2.map eU)]):=rfl
   have fa1:fadT 1 (.iptr (eA ak))=some (.iptr [.sl .arg (ak.2.map eU)]):=rfl
   have wsk:=wrap_succ (show k<9223372036854775807 by omega)
   have haks:ak.2.length≤1024:=by
    have:=asks_ids (l:=ss) (m:=ss) (a:=ak) (by rw [← hal];exact List.mem_of_getElem? hak)
    omega
   by_cases hkk:ak.1=w.1
   rotate_left
   ·have hjk:j≠k:=fun e=>by subst e;rw [ha] at hak;cases hak;exact hkk hkey
    simp -implicitDefEqProofs only [mkR_nil,mkR_cons,op,ef,cl,sq,reduceIte,q3,q4,q5,q6,q7,q8,q9,j3,j4,S1,g28,g29,g30,hkl',List.length_map,natOf_nat,iak,fa0,ldc_iptr,iw',fw0,hkk,wsk]
    exact ⟨k+1,by omega,⟨fd,rfl,fun h=>hfd (by omega)⟩,rfl,hkl'⟩
   simp -implicitDefEqProofs only [mkR_nil,mkR_cons,op,ef,cl,sq,reduceIte,q3,q4,q5,q6,q7,q8,q9,j3,j4,S1,g28,g29,g30,hkl',List.length_map,natOf_nat,iak,fa0,ldc_iptr,iw',fw0,hkk]
   refine W.loopX 14 [(17,_),(24,_),(26,_),(28,_),(30,_)] (fun (x:Nat) R H'=>(∃ fd,R 29=.bool fd∧(j<k→fd=true)∧(j=k→x0<x→fd=true))∧R 31=.int .i64 x∧x≤ak.2.length) (fun x=>ak.2.length-x) 0
    (fun R H'=>∃ fd,R 29=.bool fd∧(j<k+1→fd=true)) ⟨⟨fd,g29,hfd,fun _ h=>by omega⟩,rfl,Nat.zero_le _⟩ ?_ ?_
   ·rintro x R H13 ⟨⟨fd,g29,hf1,hf2⟩,g31,hx⟩
    by_cases hxl:x<ak.2.length
    rotate_left
    ·have hxe:x=ak.2.length:=by omega
     simp -implicitDefEqProofs only [mkR_nil,mkR_cons,op,ef,cl,sq,reduceIte,q3,q4,q5,q6,q7,q8,q9,j3,j4,S1,g28,g29,g30,g31,List.length_map,natOf_nat,iak,fa1,ldc_iptr,hxl,exitQ]
     refine ⟨fd,rfl,fun h=>?_⟩
     by_cases hjk:j=k
     ·refine hf2 hjk ?_
      subst hjk
      rw [ha] at hak;cases hak
      have:=(List.getElem?_eq_some_iff.1 hx0).1
      omega
     ·exact hf1 (by omega)
    obtain ⟨y,hy⟩:=getP hxl
    have iy:=iadX (e:=eU) (n:=1) (fun _=>rfl) (by decide) (k:=.arg) hy
    have wsx:=wrap_succ (show x<9223372036854775807 by omega)
    have wpl:=wrap_pred (i:=ak.2.length) (by omega) (by omega)
    have hit:j=k→x=x0→y=w.2∧(E=true→x=ak.2.length-1):=fun h1 h2=>by
     subst h1;subst h2
     rw [ha] at hak;cases hak
     rw [hy] at hx0;cases hx0
     exact ⟨rfl,fun h=>hlast (hexE.1 h)⟩
    cases fd
    rotate_left
    ·simp -implicitDefEqProofs only [mkR_nil,mkR_cons,op,ef,cl,sq,reduceIte,q3,q4,q5,q6,q7,q8,q9,j3,j4,S1,g28,g29,g30,g31,List.length_map,natOf_nat,iak,fa1,ldc_iptr,hxl,wsx]
     exact ⟨x+1,by omega,⟨_,rfl,fun _=>rfl,fun _ _=>rfl⟩,rfl,hxl⟩
    by_cases hyw:y=w.2
    rotate_left
    ·simp -implicitDefEqProofs only [mkR_nil,mkR_cons,op,ef,cl,sq,reduceIte,q3,q4,q5,q6,q7,q8,q9,j3,j4,S1,g28,g29,g30,g31,List.length_map,natOf_nat,iak,fa1,ldc_iptr,hxl,iy,eU,iw',fw1,hyw,wsx]
     refine ⟨x+1,by omega,⟨_,rfl,hf1,fun h1 h2=>?_⟩,rfl,hxl⟩
     by_cases he:x=x0
     ·exact absurd (hit h1 he).1 hyw
     ·exact hf2 h1 (by omega)
    by_cases hxx:x=ak.2.length-1
    ·have hxx':=eq_true hxx
     simp -implicitDefEqProofs only [mkR_nil,mkR_cons,op,ef,cl,sq,reduceIte,q3,q4,q5,q6,q7,q8,q9,j3,j4,S1,g17,g28,g29,g30,g31,List.length_map,natOf_nat,iak,fa1,ldc_iptr,hxl,iy,eU,iw',fw1,hyw,wpl,hxx',wsx]
     exact ⟨x+1,by omega,⟨_,rfl,fun _=>rfl,fun _ _=>rfl⟩,rfl,hxl⟩
    ·simp -implicitDefEqProofs only [mkR_nil,mkR_cons,op,ef,cl,sq,reduceIte,q3,q4,q5,q6,q7,q8,q9,j3,j4,S1,g28,g29,g30,g31,List.length_map,natOf_nat,iak,fa1,ldc_iptr,hxl,iy,eU,iw',fw1,hyw,wpl,hxx,wsx,g17]
     refine ⟨x+1,by omega,⟨_,rfl,hf1,fun h1 h2=>?_⟩,rfl,hxl⟩
     by_cases he:x=x0
     ·exact absurd ((hit h1 he).2 hE) hxx
     ·exact hf2 h1 (by omega)
   rintro R H13 ⟨fd,g29,hfd⟩
   simp -implicitDefEqProofs only [mkR_nil,mkR_cons,op,ef,cl,sq,reduceIte,q3,q4,q5,q6,q7,q8,q9,j3,j4,S1,g29,g30,wsk]
   exact ⟨k+1,by omega,⟨fd,rfl,hfd⟩,rfl,hkl'⟩
  rintro R H12 g29
  simp -implicitDefEqProofs only [mkR_nil,mkR_cons,op,ef,cl,sq,reduceIte,q3,q4,q5,q6,q7,q8,q9,j3,j4,S1,g28,g29,wsi]
  exact ⟨i+1,by omega,rfl,hlt⟩
end Go.Proofs.YtmgldhlcapjdkaaGreat.St
end

section
namespace Go.Proofs.YtmgldhlcapjdkaaGreat
open Go.ChangeShapes Go.WideShapes Go.ChangeAt Go.RowKit
namespace Law
theorem own:ownKnob Tryz.prog.godebug=none:=by kernel_rfl
theorem kids:Kids Tryz.prog (·<Tryz.prog.types.size):=kids_rows (by kernel_rfl) (by kernel_rfl)
noncomputable def hzB:Bool:=(List.range Tryz.prog.types.size).all fun t=>match Tryz.prog.underlying t with
 | some (.slice e)=>decide (0<Tryz.prog.cellsOf e)
 | _=>true
theorem hzB_ok:hzB=true:=by kernel_rfl
theorem hz:∀ t e,t<Tryz.prog.types.size→Tryz.prog.underlying t=some (.slice e)→0<Tryz.prog.cellsOf e:=fun t e ht h=>by
 have:=(List.all_eq_true.1 hzB_ok) t (List.mem_range.2 ht)
 rw [h] at this
 simpa using this
mutual
theorem bulk_eq {H:Type}:∀ d:DataW H,Go.Rmp.bulkW d=Rows.uptoBulk d
 | .lit l=>by cases l <;> simp [Go.Rmp.bulkW,Rows.uptoBulk]
 | .nil=>by simp [Go.Rmp.bulkW,Rows.uptoBulk]
 | .ptr d=>by simp [Go.Rmp.bulkW,Rows.uptoBulk,bulk_eq d]
 | .slice elems spare=>by simp [Go.Rmp.bulkW,Rows.uptoBulk,bulks_eq elems,bulks_eq spare]
 | .agg parts=>by simp [Go.Rmp.bulkW,Rows.uptoBulk,bulks_eq parts]
 | .iface _ d=>by simp [Go.Rmp.bulkW,Rows.uptoBulk,bulk_eq d]
 | .map entries=>by simp [Go.Rmp.bulkW,Rows.uptoBulk,bulkE_eq entries]
 | .held _=>by simp [Go.Rmp.bulkW,Rows.uptoBulk]
theorem bulks_eq {H:Type}:∀ l:List (DataW H),Go.Rmp.bulkAllW l=Rows.uptoBulkAll l
 | []=>by simp [Go.Rmp.bulkAllW,Rows.uptoBulkAll]
 | d :: r=>by simp [Go.Rmp.bulkAllW,Rows.uptoBulkAll,bulk_eq d,bulks_eq r]
theorem bulkE_eq {H:Type}:∀ l:List (Lit × DataW H),Go.Rmp.bulkEntriesW l=Rows.uptoBulkEntries l
 | []=>by simp [Go.Rmp.bulkEntriesW,Rows.uptoBulkEntries]
 | x :: r=>by simp [Go.Rmp.bulkEntriesW,Rows.uptoBulkEntries,bulkEn_eq x,bulkE_eq r]
theorem bulkEn_eq {H:Type}:∀ x:Lit × DataW H,Go.Rmp.bulkEntryW x=Rows.uptoBulkEntry x
 | (l,d)=>by cases l <;> simp [Go.Rmp.bulkEntryW,Rows.uptoBulkEntry,bulk_eq d]
end
theorem bulk_ok {H:Type} {ds:List (DataW H)} (h:Rows.uptoSmall H ds=true):Go.Rmp.bulkAllW ds≤1048576:=by
 rw [bulks_eq];simpa [Rows.uptoSmall] using h
theorem hasS {B:Nat} {t:Go.Rmp.T} (h:Go.Rmp.HasSh B .str t):∃ s,t=.str s∧s.size≤B:=by
 cases h with | str h hB=>exact ⟨_,rfl,hB⟩
theorem hasI {B:Nat} {t:Go.Rmp.T} (h:Go.Rmp.HasSh B (.int .i64) t):∃ n:Int,t=.int .i64 n∧-9223372036854775808≤n∧n<9223372036854775808:=by
 cases h with | int h =>
  rename_i n
  exact ⟨n,rfl,by simp -implicitDefEqProofs only [Lit.wf,IntKind.min,IntKind.max,IntKind.signed,IntKind.bits] at h;simp at h;omega⟩
theorem hasU {B:Nat} {t:Go.Rmp.T} (h:Go.Rmp.HasSh B (.int .u64) t):∃ n:Nat,t=.int .u64 n∧n<18446744073709551616:=by
 cases h with | int h =>
  rename_i n
  simp -implicitDefEqProofs only [Lit.wf,IntKind.min,IntKind.max,IntKind.signed,IntKind.bits] at h
  simp at h
  exact ⟨n.toNat,by congr 1;omega,by omega⟩
theorem hasB8 {B:Nat} {t:Go.Rmp.T} (h:Go.Rmp.HasSh B (.int .u8) t):∃ n:Nat,t=.int .u8 n∧n<256:=by
 cases h with | int h =>
  rename_i n
  simp -implicitDefEqProofs only [Lit.wf,IntKind.min,IntKind.max,IntKind.signed,IntKind.bits] at h
  simp at h
  exact ⟨n.toNat,by congr 1;omega,by omega⟩
end Law
namespace St
open Go.Rmp
theorem map_of {α:Type} {P:α→Prop} (enc:α→List T) (es:List (List T)) (h:∀ c∈es,∃ x,c=enc x∧P x):∃ l:List α,es=l.map enc∧∀ x∈l,P x:=by
 induction es with
 | nil=>exact ⟨[],rfl,by simp⟩
 | cons c es ih =>
  obtain ⟨l,rfl,hl⟩:=ih (fun c hc=>h c (List.mem_cons_of_mem _ hc))
  obtain ⟨x,rfl,hx⟩:=h _ List.mem_cons_self
  exact ⟨x :: l,rfl,fun y hy=>by rcases List.mem_cons.1 hy with rfl | hy;exact hx;exact hl y hy⟩
end St
end Go.Proofs.YtmgldhlcapjdkaaGreat
end

section
namespace Go.Proofs.YtmgldhlcapjdkaaGreat
open Go.ChangeShapes Go.WideShapes Go.ChangeAt Go.RowKit
namespace St
open Go.Rmp
theorem hasOps {t:T} (h:HasSh 1048576 (.sl [.int .i64,.int .u64,.int .u8,.str,.int .i64]) t):∃ (k:SK) (l:List OpW),t=.sl k (l.map eOp)∧l.length≤1048576∧∀ o∈l,OpWOk o∧-9223372036854775808≤o.at_∧o.at_<9223372036854775808:=by
 cases h with
 | nil=>exact ⟨.nil,[],rfl,Nat.zero_le _,by simp⟩
 | sl hl hB h0 h =>
  rename_i es
  obtain ⟨l,rfl,hP⟩:=map_of (P:=fun o:OpW=>OpWOk o∧-9223372036854775808≤o.at_∧o.at_<9223372036854775808) eOp es fun c hc=>by
   have hc1:=h0 c hc
   match c,hc1 with
   | [a,b,c,d,e],_ =>
    obtain ⟨z,rfl,_⟩:=Law.hasI (h _ hc 0 (.int .i64) a rfl rfl)
    obtain ⟨n,rfl,hn⟩:=Law.hasU (h _ hc 1 (.int .u64) b rfl rfl)
    obtain ⟨m,rfl,hm⟩:=Law.hasB8 (h _ hc 2 (.int .u8) c rfl rfl)
    obtain ⟨s,rfl,hs⟩:=Law.hasS (h _ hc 3 .str d rfl rfl)
    obtain ⟨y,rfl,hy⟩:=Law.hasI (h _ hc 4 (.int .i64) e rfl rfl)
    exact ⟨⟨z,n,m,s,y⟩,rfl,⟨hn,hm,hs⟩,hy⟩
  exact ⟨.arg,l,rfl,by simpa using hB,hP⟩
theorem has4 {B:Nat} {t:T} (h:HasSh B (.ag [.int .i64,.int .i64,.int .i64,.int .i64]) t):∃ sh:List Int,sh.length=4∧t=.agg (zC sh):=by
 cases h with
 | ag hl h =>
  rename_i cs
  match cs,hl with
  | [a,b,c,d],_ =>
   obtain ⟨x,rfl,_⟩:=Law.hasI (h 0 (.int .i64) a rfl rfl)
   obtain ⟨y,rfl,_⟩:=Law.hasI (h 1 (.int .i64) b rfl rfl)
   obtain ⟨z,rfl,_⟩:=Law.hasI (h 2 (.int .i64) c rfl rfl)
   obtain ⟨u,rfl,_⟩:=Law.hasI (h 3 (.int .i64) d rfl rfl)
   exact ⟨[x,y,z,u],rfl,rfl⟩
end St
end Go.Proofs.YtmgldhlcapjdkaaGreat
end

section
namespace Go.Proofs.YtmgldhlcapjdkaaGreat
open Go.ChangeShapes Go.WideShapes Go.ChangeAt Go.RowKit
namespace Law
theorem hybridMisses_w (as':List Go.Rmp.T) (hs:Go.Rmp.HasShs 1048576 [.int .i64,.sl [.int .i64,.int .u64,.int .u8,.str,.int .i64],.int .u8,.ag [.int .i64,.int .i64,.int .i64,.int .i64]] as'):Go.Rmp.W Ir.env (.call 7 as') [] (fun o _=>o=.val (.bool true)):=by
 cases hs with | cons h1 hs =>
 cases hs with | cons h2 hs =>
 cases hs with | cons h3 hs =>
 cases hs with | cons h4 hs =>
 cases hs
 obtain ⟨p,rfl,_⟩:=hasI h1
 obtain ⟨k,ops,rfl,n1,n2⟩:=St.hasOps h2
 obtain ⟨b,rfl,hb⟩:=hasB8 h3
 obtain ⟨sh,h4l,rfl⟩:=St.has4 h4
 exact St.misses7 p k ops b sh hb h4l n2 (by omega) []
theorem hybridMisses_fn (H:Type):∀ ds:List (DataW H),ds.length=Tryz.f7.params.toList.length→Rows.hybridMissesSpec.fn H ds={ results:=[.lit (.bool true)],args:=ds }:=by
 have hn:Tryz.f7.params.toList.length=4:=by kernel_rfl
 rw [hn]
 intro ds hds
 cases ds with | nil=>simp at hds | cons d0 ds =>
 cases ds with | nil=>simp at hds | cons d1 ds =>
 cases ds with | nil=>simp at hds | cons d2 ds =>
 cases ds with | nil=>simp at hds | cons d3 ds =>
 cases ds with | cons=>simp at hds | nil =>
 rfl
set_option maxRecDepth 100000 in
theorem hybridMisses_lifted (os:Os) (started:os.Started) (H:Type) (enc:TypeId × Value→H) (F:Stop.Interp) :
  ReturnsInHanded {} Tryz.checked os 7 .any ((Rows.OpenSpec.upto Rows.hybridMissesSpec).pre6 enc Tryz.prog Tryz.f7 Rows.hybridMissesUptoRow.domain false) (((Rows.OpenSpec.upto Rows.hybridMissesSpec).at F).post enc Tryz.prog Tryz.f7 false true false false):=by
 refine returnsInHanded_of_cond (C:=Tryz.checked) (s:=Rows.OpenSpec.upto Rows.hybridMissesSpec) (k:=Rows.uptoSmall) rfl own started (by kernel_rfl) Tryz.func7
  (OpenSpec.witness (enc:=enc) (C:=Tryz.checked) (s:=Rows.OpenSpec.upto Rows.hybridMissesSpec) (k:=Rows.uptoSmall) rfl false ⟨#[],#[.int .i64 0,.slice .none 0 0,.int .u8 0,.agg #[.int .i64 0,.int .i64 0,.int .i64 0,.int .i64 0]],[]⟩ 8 (by kernel_rfl) (by kernel_rfl) (by kernel_rfl)
   (x:=([.lit (.int .i64 0),.nil,.lit (.int .u8 0),.agg [.lit (.int .i64 0),.lit (.int .i64 0),.lit (.int .i64 0),.lit (.int .i64 0)]],[],[])) (by kernel_rfl) rfl (by kernel_rfl)) ?_
 intro W base args ds gs before hval hW _ hk _
 exact Go.Rmp.law_contract (s:=Rows.hybridMissesSpec) (shs:=[.int .i64,.sl [.int .i64,.int .u64,.int .u8,.str,.int .i64],.int .u8,.ag [.int .i64,.int .i64,.int .i64,.int .i64]]) (B:=1048576) (tb:=Tryz.f7.resultTypes[0]!) Ir.envOk kids hz (by kernel_rfl) (by intro t ht;exact of_decide_eq_true ((List.all_eq_true.1 (show Tryz.f7.params.toList.all (fun t=>decide (t<Tryz.prog.types.size))=true by kernel_rfl)) t ht)) (by kernel_rfl) (by kernel_rfl) rfl (hybridMisses_fn H) hybridMisses_w base args ds gs before hval hW (bulk_ok hk)
theorem hybridMisses_over:Rows.hybridMissesUptoRow.holds Tryz.pinned (Rows.OpenSpec.upto Rows.hybridMissesSpec) :=
 OpenClaim.holds_of_cond 7 Tryz.f7 rfl rfl rfl rfl rfl rfl rfl ⟨rfl,rfl,rfl,rfl,rfl⟩ rfl rfl rfl rfl rfl (by kernel_rfl) Tryz.func7 (by kernel_rfl)
  (of_decide_eq_true (by kernel_rfl)) (by unfold Func.isWrapper;first | (rw [if_pos (by decide +kernel)];kernel_rfl) | (rw [if_neg (by decide +kernel)];exact ⟨rfl,rfl⟩))
  (fun os started H enc _ F=>hybridMisses_lifted os started H enc F)
theorem hybridMisses_proved:Rows.HybridMissesUptoSaid:=hybridMisses_over
end Law
end Go.Proofs.YtmgldhlcapjdkaaGreat
end
