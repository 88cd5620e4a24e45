/- Part of a proof of a law of this seat: the machine of plain values, its simulation, and the contracts of the functions that the law reaches. Conditions: none beyond the given row. -/
import Derived.Test.YtmgldhlcapjdkaaGreatM1
import Derived.Test.YtmgldhlcapjdkaaGreatProg
import Derived.KernelRfl
open Int renaming reduceLT → q1, reduceLE → q2, reduceBEq → q3, reduceBNe → q4, reduceEq → q5
open Nat renaming reduceAdd → q6, reduceLeDiff → q7, reduceLT → q8, reduceEqDiff → q9
set_option linter.unusedSimpArgs false
set_option linter.unusedVariables false
set_option linter.unnecessarySimpa false
set_option maxHeartbeats 4000000
section
namespace Go.Rmp
set_option maxRecDepth 10000
abbrev o1 (d:Nat) (b:Bo):O:=⟨some d,.b b,none,[]⟩
def insIR (n bytes:Nat) (z:List T) (fr:Nat):Fn:=⟨95,3,[.t 6],
 C.seq (.ops [o1 6 (.mov (.c (.sl .nil [])))]) <|
 C.seq (.ops [o1 10 (.mov (.r 0)),o1 11 (.mov (.r 1)),o1 12 (.sll n (.r 10) (some (.r 11)) none none)]) <|
 C.seq (.ops [o1 13 (.mov (.r 2)),o1 14 (.len .sl (.r 13)),o1 7 (.mov (.r 14))]) <|
 C.seq (C.seq (.ops [o1 15 (.mov (.r 7)),o1 16 (.bin .eql (.r 15) (.c (.int .i64 0)))]) <|
 .cond (.r 16)
  (C.seq (.ops [o1 17 (.mov (.r 0)),o1 6 (.mov (.r 17))]) <|
  .ret)
  (.skip)) <|
 C.seq (.ops [o1 18 (.mov (.r 0)),o1 19 (.len .sl (.r 18)),o1 8 (.mov (.r 19))]) <|
 C.seq (C.seq (.ops [o1 20 (.mov (.r 1)),o1 21 (.mov (.r 8)),o1 22 (.bin .eql (.r 20) (.r 21))]) <|
 .cond (.r 22)
  (C.seq (.ops [o1 23 (.mov (.r 0)),o1 24 (.mov (.r 2)),o1 25 (.app n bytes true (.r 23) (.r 24)),o1 6 (.mov (.r 25))]) <|
  .ret)
  (.skip)) <|
 C.seq (C.seq (.ops [o1 26 (.mov (.r 8)),o1 27 (.mov (.r 7)),o1 28 (.bin .add (.r 26) (.r 27)),o1 29 (.mov (.r 0)),o1 30 (.cap (.r 29)),o1 31 (.bin .gtr (.r 28) (.r 30))]) <|
 .cond (.r 31)
  (C.seq (.ops [o1 32 (.mov (.r 0)),o1 33 (.mov (.r 1)),o1 34 (.sll n (.r 32) none (some (.r 33)) none),o1 35 (.mov (.r 8)),o1 36 (.mov (.r 7)),o1 37 (.bin .add (.r 35) (.r 36)),o1 38 (.mov (.r 1)),o1 39 (.bin .sub (.r 37) (.r 38)),o1 40 (.apz n bytes z (.r 34) (.r 39)),o1 9 (.mov (.r 40))]) <|
  C.seq (.ops [o1 41 (.mov (.r 9)),o1 42 (.mov (.r 1)),o1 43 (.sll n (.r 41) (some (.r 42)) none none),o1 44 (.mov (.r 2)),o1 45 (.cpy n (.r 43) (.r 44))]) <|
  C.seq (.ops [o1 46 (.mov (.r 9)),o1 47 (.mov (.r 1)),o1 48 (.mov (.r 7)),o1 49 (.bin .add (.r 47) (.r 48)),o1 50 (.sll n (.r 46) (some (.r 49)) none none),o1 51 (.mov (.r 0)),o1 52 (.mov (.r 1)),o1 53 (.sll n (.r 51) (some (.r 52)) none none),o1 54 (.cpy n (.r 50) (.r 53))]) <|
  C.seq (.ops [o1 55 (.mov (.r 9)),o1 6 (.mov (.r 55))]) <|
  .ret)
  (.skip)) <|
 C.seq (.ops [o1 56 (.mov (.r 0)),o1 57 (.mov (.r 8)),o1 58 (.mov (.r 7)),o1 59 (.bin .add (.r 57) (.r 58)),o1 60 (.sll n (.r 56) none (some (.r 59)) none),o1 0 (.mov (.r 60))]) <|
 C.seq (C.seq (.ops [o1 61 (.mov (.r 2)),o1 62 (.mov (.r 0)),o1 63 (.mov (.r 1)),o1 64 (.mov (.r 7)),o1 65 (.bin .add (.r 63) (.r 64)),o1 66 (.sll n (.r 62) (some (.r 65)) none none),o1 67 (.ovl n (.r 61) (.r 66)),o1 68 (.un .not (.r 67))]) <|
 .cond (.r 68)
  (C.seq (.ops [o1 69 (.mov (.r 0)),o1 70 (.mov (.r 1)),o1 71 (.mov (.r 7)),o1 72 (.bin .add (.r 70) (.r 71)),o1 73 (.sll n (.r 69) (some (.r 72)) none none),o1 74 (.mov (.r 0)),o1 75 (.mov (.r 1)),o1 76 (.sll n (.r 74) (some (.r 75)) none none),o1 77 (.cpy n (.r 73) (.r 76))]) <|
  C.seq (.ops [o1 78 (.mov (.r 0)),o1 79 (.mov (.r 1)),o1 80 (.sll n (.r 78) (some (.r 79)) none none),o1 81 (.mov (.r 2)),o1 82 (.cpy n (.r 80) (.r 81))]) <|
  C.seq (.ops [o1 83 (.mov (.r 0)),o1 6 (.mov (.r 83))]) <|
  .ret)
  (.skip)) <|
 C.seq (.ops [o1 84 (.mov (.r 0)),o1 85 (.mov (.r 8)),o1 86 (.sll n (.r 84) (some (.r 85)) none none),o1 87 (.mov (.r 2)),o1 88 (.cpy n (.r 86) (.r 87))]) <|
 C.seq (.ops [o1 89 (.mov (.r 0)),o1 90 (.mov (.r 1)),o1 91 (.sll n (.r 89) (some (.r 90)) none none),o1 92 (.mov (.r 7)),⟨some 93,.call fr [(.r 91),(.r 92)],none,[]⟩]) <|
 C.seq (.ops [o1 94 (.mov (.r 0)),o1 6 (.mov (.r 94))]) <|
 .ret⟩
section
variable {α:Type} {enc:α→List T} {n:Nat}
theorem elemsK_ms (hn:∀ x,(enc x).length=n) {H:Heap} {b:Nat} {xs:List α} (hb:H[b]?=some (.cells (msC enc xs))) (j k l c:Nat) (hjk:j+k≤xs.length) :
  elemsK H n k (.msl b (j*n) l n)=some (((xs.drop j).take k).map enc)∧elemsK H n k (.mslc b (j*n) l n c)=some (((xs.drop j).take k).map enc):=by
 have hm:j*n+k*n≤(msC enc xs).length:=by rw [msC_len hn,← Nat.add_mul];exact Nat.mul_le_mul_right n hjk
 have e:(List.range k).map (fun i=>((msC enc xs).drop (j*n+i*n)).take n)=((xs.drop j).take k).map enc:=by
  have h1:=frzE_ms hn ((xs.drop j).take k)
  have hl:((xs.drop j).take k).length=k:=by simp;omega
  rw [hl] at h1
  rw [← h1]
  unfold frzE
  refine List.map_congr_left fun i hi=>?_
  have hi:=List.mem_range.1 hi
  rw [Nat.zero_add,← msC_take hn,← msC_drop hn,List.drop_take,List.drop_drop,List.take_take]
  congr 1
  have:i*n+n≤k*n:=by rw [← Nat.succ_mul];exact Nat.mul_le_mul_right n hi
  omega
 simp -implicitDefEqProofs only [elemsK,hb,hm,and_self,if_true,e]
theorem cpy_ms (hn:∀ x,(enc x).length=n) (hn0:n≠0) {H:Heap} {b:Nat} {xs ys:List α} {y:T} {ly len:Nat} (hb:H[b]?=some (.cells (msC enc xs))) (j c:Nat) (hj:j≤xs.length) (hly:lenM y=some ly) (hy:elemsK H n (min ly len) y=some (ys.map enc)) (hyl:ys.length=min ly len) :
  cpyT H n (.msl b (j*n) len n) y=some (.int .i64 (min ly len:Nat),H.set b (.cells (msC enc (xs.take j++ys++xs.drop (j+ys.length))))) ∧
  cpyT H n (.mslc b (j*n) len n c) y=some (.int .i64 (min ly len:Nat),H.set b (.cells (msC enc (xs.take j++ys++xs.drop (j+ys.length))))):=by
 have h1:j*n≤(msC enc xs).length:=by rw [msC_len hn];exact Nat.mul_le_mul_right n hj
 have e:(msC enc xs).take (j*n)++(ys.map enc).flatten++(msC enc xs).drop (j*n+(min ly len)*n)=msC enc (xs.take j++ys++xs.drop (j+ys.length)):=by
  rw [← hyl,← Nat.add_mul,msC_take hn,msC_drop hn]
  simp [msC,List.flatMap]
 simp -implicitDefEqProofs only [cpyT,hly,hb,hy,h1,hn0,ne_eq,not_false_eq_true,and_self,if_true,e]
theorem apz_ms (hn:∀ x,(enc x).length=n) (hn0:n≠0) {H:Heap} {b bytes:Nat} {xs:List α} (zv:α) (hb:H[b]?=some (.cells (msC enc xs))) (i k c:Nat) (hi:i≤xs.length) (hk:0<k) (hc:c<i+k) (hr:roomOk (i+k) bytes=true) :
  apzT H n bytes (enc zv) (.mslc b 0 i n c) k=some (.msl H.length 0 (i+k) n,H++[.cells (msC enc (xs.take i++List.replicate k zv))]):=by
 have h1:=(elemsK_ms hn hb 0 i i c (by omega)).2
 rw [Nat.zero_mul] at h1
 have e:((xs.take i).map enc).flatten++(List.replicate k (enc zv)).flatten=msC enc (xs.take i++List.replicate k zv):=by
  rw [msC_rep];simp [msC,List.flatMap]
 simp -implicitDefEqProofs only [List.drop_zero] at h1
 simp -implicitDefEqProofs only [apzT,h1,hn0,ne_eq,not_false_eq_true,hk,hc,hn,hr,and_self,if_true,e]
theorem elems_one (hn:∀ x,(enc x).length=n) {H:Heap} {bv:Nat} {v:α} (hv:H[bv]?=some (.cells (enc v))):elemsOf H n (.msl bv 0 1 n)=some [enc v]:=by
 have h1:0+1*n≤(enc v).length:=by rw [hn];omega
 simp -implicitDefEqProofs only [elemsOf,hv,h1,and_self,if_true]
 have:(List.range 1).map (fun i=>((enc v).drop (0+i*n)).take n)=[enc v]:=by
  simp [List.range_succ,List.take_of_length_le (Nat.le_of_eq (hn v))]
 rw [this]
structure StayI (n0:Nat) (H:Heap) (t:T) (H':Heap):Prop where
 len:H.length≤H'.length
 get:∀ b x,H[b]?=some x→(∀ off len n,t≠.msl b off len n)→H'[b]?=some x
 ext:∀ H0:Heap,H0.length≤n0→Ext H0 H→Ext H0 H'
def InsQ (enc:α→List T) (n n0:Nat) (H:Heap) (t:T) (ys:List α):Out→Heap→Prop:=fun o H'=>∃ b',o=.val (.msl b' 0 ys.length n)∧H'[b']?=some (.cells (msC enc ys))∧n0≤b'∧StayI n0 H t H'∧(H.length≤b'∨∃ off len n,t=.msl b' off len n)
theorem appM_fr {H H':Heap} {n bytes b off len m:Nat} {x:T} {new:List (List T)} (h:appM H n bytes x new=some (.msl b off len m,H')) (hn:new≠[]):H.length≤b:=by
 unfold appM at h
 split at h
 ·exact absurd rfl hn
 ·split at h
  ·split at h
   ·simp at h;omega
   ·cases h
  ·split at h
   ·simp at h;omega
   ·cases h
  ·split at h
   ·split at h
    ·simp at h;omega
    ·cases h
   ·cases h
  ·cases h
theorem ins_nil {E:Env} {f bytes fr:Nat} (hn:∀ x,(enc x).length=n) (hn0:n≠0) (zv:α) (hf:E.fn f=some (insIR n bytes (enc zv) fr)) (n0 bv:Nat) (v:α) (H:Heap) (hH:n0≤H.length) (hv:H[bv]?=some (.cells (enc v))) (hr:roomOk 1 bytes=true) :
  W E (.call f [.sl .nil [],.int .i64 0,.msl bv 0 1 n]) H (InsQ enc n n0 H (.sl .nil []) [v]):=by
 refine W.fnI hf rfl rfl ?_
 have h1:=elems_one hn hv
 obtain ⟨t',H',ha,hm,hst⟩:=appM_ok (enc:=enc) hn (bytes:=bytes) [v] (mut_nil enc n n0 H) hH (by simp) (by simpa using hr)
 simp -implicitDefEqProofs only [List.map_cons,List.map_nil] at ha
 have hfr:=fun b' ml (e:t'=T.msl b' 0 ml n)=>appM_fr (e ▸ ha) (by simp)
 have n0':natOf (.int .i64 0)=some 0:=rfl
 have z0:((0:Nat):Int)=0:=rfl
 simp -implicitDefEqProofs only [insIR,o1,reduceIte,q1,q2,q3,q4,q5,q6,q7,q8,q9,S1,z0,n0',Nat.le_refl,and_self,SK.cut,h1,fgt,ha]
 rcases hm with ⟨h0,_⟩ | ⟨b',rfl,hb',hbn⟩
 ·simp at h0
 ·exact ⟨b',rfl,hb',hbn,⟨hst.len,hst.get,hst.ext⟩,.inl (hfr _ _ rfl)⟩
theorem ins_msl {E:Env} {f bytes fr:Nat} (hn:∀ x,(enc x).length=n) (hn0:n≠0) (zv:α) (hf:E.fn f=some (insIR n bytes (enc zv) fr)) (n0 bv b i:Nat) (v:α) (xs:List α) (H:Heap) (hH:n0≤H.length) (hv:H[bv]?=some (.cells (enc v))) (hb:H[b]?=some (.cells (msC enc xs))) (hbn:n0≤b) (hne:bv≠b)
  (hi:i≤xs.length) (hl:xs.length<4611686018427387903) (hr:roomOk (xs.length+1) bytes=true) :
  W E (.call f [.msl b 0 xs.length n,.int .i64 i,.msl bv 0 1 n]) H (InsQ enc n n0 H (.msl b 0 xs.length n) (xs.take i++v :: xs.drop i)):=by
 have hyl:(xs.take i++v :: xs.drop i).length=xs.length+1:=by simp;omega
 refine W.revl (b:=b) (off:=0) (len:=xs.length) (n:=n) 0 (fun o H'=>∃ t b',o=.val t∧fgt t=.msl b' 0 (xs.length+1) n∧H'[b']?=some (.cells (msC enc (xs.take i++v :: xs.drop i)))∧n0≤b'∧StayI n0 H (.msl b 0 xs.length n) H'∧(H.length≤b'∨∃ off len m,(.msl b 0 xs.length n:T)=.msl b' off len m)) rfl (fun c hc=>?_) ?_
 rotate_left
 ·rintro t H' ⟨t',b',ht,hfg,h1,h2,h3⟩
  cases ht
  exact ⟨b',by rw [hfg,hyl],h1,h2,h3⟩
 refine W.fnI hf rfl rfl ?_
 have h1:=elems_one hn hv
 have w1:IntKind.i64.wrap ((xs.length:Int)+((1:Nat):Int))=((xs.length+1:Nat):Int):=by rw [wrap64 (by omega)];omega
 have w2:IntKind.i64.wrap ((i:Int)+((1:Nat):Int))=((i+1:Nat):Int):=by rw [wrap64 (by omega)];omega
 have lb:=glt hb
 have lv:=glt hv
 by_cases hil:i=xs.length
 ·subst hil
  obtain ⟨t',H',ha,hm,hst⟩:=appM_ok (enc:=enc) (n0:=n0) (t:=.msl b 0 xs.length n) hn (bytes:=bytes) [v] (.inr ⟨b,rfl,hb,hbn⟩) hH (by simp) (by simpa using hr)
  simp -implicitDefEqProofs only [List.map_cons,List.map_nil] at ha
  have hfr:=fun b' ml (e:t'=T.msl b' 0 ml n)=>appM_fr (e ▸ ha) (by simp)
  simp -implicitDefEqProofs only [insIR,o1,reduceIte,q1,q2,q3,q4,q5,q6,q7,q8,q9,S1,natOf_nat,Nat.le_refl,hc,and_self,h1,fgt,ha]
  rcases hm with ⟨h0,_⟩ | ⟨b',rfl,hb',hbn'⟩
  ·simp at h0
  ·refine ⟨_,b',rfl,by simp [fgt],?_,hbn',⟨hst.len,hst.get,hst.ext⟩,.inl (hfr _ _ rfl)⟩
   rw [hb'];simp
 ·have hlt:i<xs.length:=by omega
  have hne':¬ ((i:Int)=(xs.length:Int)):=by omega
  have ic:(i<c∨i=0)=True:=by simp;omega
  have i1:(i+1<c∨i+1=0)=(i+1<c):=by simp
  have mi:min 1 (xs.length+1-i)=1:=by omega
  have hevk:=elemsK_ms hn (xs:=[v]) (b:=bv) (H:=H)
  by_cases hcap:c<xs.length+1
  ·have hcl:c=xs.length:=by omega
   subst hcl
   have w3:IntKind.i64.wrap (((xs.length+1:Nat):Int)-(i:Int))=((xs.length+1-i:Nat):Int):=by rw [wrap64 (by omega)];omega
   have hsum:i+(xs.length+1-i)=xs.length+1:=by omega
   have ha:=apz_ms (bytes:=bytes) hn hn0 zv hb i (xs.length+1-i) xs.length hi (by omega) (by omega) (by rw [hsum];exact hr)
   rw [hsum] at ha
   have c0:(0<xs.length∨True)=True:=by simp
   have e1:¬ (i=xs.length+1):=by omega
   have e2:¬ (i+1=xs.length+1):=by omega
   have hle:i≤xs.length+1:=by omega
   have hle2:i+1≤xs.length+1:=by omega
   have hbt:(H++[B.cells (msC enc (xs.take i++List.replicate (xs.length+1-i) zv))])[H.length]?=some (.cells (msC enc (xs.take i++List.replicate (xs.length+1-i) zv))):=g_tail rfl
   have hvt:(H++[B.cells (msC enc (xs.take i++List.replicate (xs.length+1-i) zv))])[bv]?=some (.cells (msC enc [v])):=by rw [g_app lv,hv];simp [msC]
   have hk1:=(elemsK_ms hn hvt 0 1 1 0 (by simp)).1
   simp -implicitDefEqProofs only [Nat.zero_mul,List.drop_zero] at hk1
   have hcp1:=(cpy_ms hn hn0 (ys:=[v]) (y:=.msl bv 0 1 n) (ly:=1) (len:=xs.length+1-i) hbt i 0 (by simp;omega) rfl (by rw [mi];simpa using hk1) (by simp;omega)).1
   rw [mi] at hcp1
   have hx2:(xs.take i++List.replicate (xs.length+1-i) zv).take i++[v]++(xs.take i++List.replicate (xs.length+1-i) zv).drop (i+[v].length)=xs.take i++v :: List.replicate (xs.length-i) zv:=by
    have t1:(xs.take i).length=i:=by simp;omega
    have t2:i+1-i=1:=by omega
    have t3:xs.length+1-i-1=xs.length-i:=by omega
    rw [List.take_append_of_le_length (by omega),List.take_of_length_le (by omega),List.drop_append,List.drop_eq_nil_of_le (by simp;omega),t1]
    simp [t2,t3]
   rw [hx2,hset_tail] at hcp1
   have hbt2:(H++[B.cells (msC enc (xs.take i++v :: List.replicate (xs.length-i) zv))])[H.length]?=some (.cells (msC enc (xs.take i++v :: List.replicate (xs.length-i) zv))):=g_tail rfl
   have hb2:(H++[B.cells (msC enc (xs.take i++v :: List.replicate (xs.length-i) zv))])[b]?=some (.cells (msC enc xs)):=by rw [g_app lb,hb]
   have hk2:=(elemsK_ms hn hb2 i (xs.length-i) (xs.length-i) (xs.length-i) (by omega)).2
   have hdl:((xs.drop i).take (xs.length-i))=xs.drop i:=List.take_of_length_le (by simp)
   rw [hdl] at hk2
   have mi2:min (xs.length-i) (xs.length+1-(i+1))=xs.length-i:=by omega
   have hcp2:=(cpy_ms hn hn0 (ys:=xs.drop i) (y:=.mslc b (i*n) (xs.length-i) n (xs.length-i)) (ly:=xs.length-i) (len:=xs.length+1-(i+1)) hbt2 (i+1) 0 (by simp;omega) rfl (by rw [mi2];exact hk2) (by simp)).1
   have hx3:(xs.take i++v :: List.replicate (xs.length-i) zv).take (i+1)++xs.drop i++(xs.take i++v :: List.replicate (xs.length-i) zv).drop (i+1+(xs.drop i).length)=xs.take i++v :: xs.drop i:=by
    have t1:(xs.take i).length=i:=by simp;omega
    have t2:i+1-i=1:=by omega
    have d1:(xs.take i++v :: List.replicate (xs.length-i) zv).drop (i+1+(xs.drop i).length)=[]:=List.drop_eq_nil_of_le (by rw [List.length_append,t1];simp;omega)
    have d2:(xs.take i).take (i+1)=xs.take i:=List.take_of_length_le (by omega)
    rw [d1,List.take_append,d2,t1,t2]
    simp
   rw [hx3,hset_tail] at hcp2
   simp -implicitDefEqProofs only [insIR,o1,reduceIte,q1,q2,q3,q4,q5,q6,q7,q8,q9,S1,natOf_nat,Nat.le_refl,hc,and_self,hi,ic,hne',hil,w1,w2,w3,hcap,Nat.zero_le,Nat.zero_mul,Nat.sub_zero,c0,ha,hle,hle2,e1,e2,hcp1,hcp2,or_true,if_true]
   exact ⟨_,H.length,rfl,rfl,g_tail rfl,hH,⟨by simp,fun b' x hx _=>by rw [g_app (glt hx)];exact hx,fun H0 _ h=>h.app _⟩,.inl (Nat.le_refl _)⟩
  ·have hcap':xs.length+1≤c:=by omega
   have hcap2:¬ c<xs.length+1:=hcap
   have e1:¬ (i=xs.length+1):=by omega
   have hle:i≤xs.length+1:=by omega
   have hle2:i+1≤xs.length+1:=by omega
   have c0:(0<c∨True)=True:=by simp
   have c1:i+1<c:=by omega
   have c2:i<c:=by omega
   have hlen0:0<(msC enc xs).length:=by rw [msC_len hn];exact Nat.mul_pos (by omega) (by omega)
   have hov:ovlT H n (.msl bv 0 1 n) (.mslc b ((i+1)*n) (xs.length+1-(i+1)) n (c-(i+1)))=some (.bool false,H):=by
    simp -implicitDefEqProofs only [ovlT,hv,hb,ne_eq,hne,not_false_eq_true,hlen0,and_self,if_true]
   have hk2:=(elemsK_ms hn hb i (xs.length-i) (xs.length+1-i) (c-i) (by omega)).2
   have hdl:((xs.drop i).take (xs.length-i))=xs.drop i:=List.take_of_length_le (by simp)
   rw [hdl] at hk2
   have mi2:min (xs.length+1-i) (xs.length+1-(i+1))=xs.length-i:=by omega
   have hcp1:=(cpy_ms hn hn0 (ys:=xs.drop i) (y:=.mslc b (i*n) (xs.length+1-i) n (c-i)) (ly:=xs.length+1-i) (len:=xs.length+1-(i+1)) hb (i+1) (c-(i+1)) (by omega) rfl (by rw [mi2];exact hk2) (by rw [mi2];simp)).2
   have hx1:xs.take (i+1)++xs.drop i++xs.drop (i+1+(xs.drop i).length)=xs.take (i+1)++xs.drop i:=by
    have d1:xs.drop (i+1+(xs.drop i).length)=[]:=List.drop_eq_nil_of_le (by rw [List.length_drop];omega)
    rw [d1,List.append_nil]
   rw [hx1] at hcp1
   have hb2:(H.set b (.cells (msC enc (xs.take (i+1)++xs.drop i))))[b]?=some (.cells (msC enc (xs.take (i+1)++xs.drop i))):=g_eq lb
   have hvt:(H.set b (.cells (msC enc (xs.take (i+1)++xs.drop i))))[bv]?=some (.cells (msC enc [v])):=by rw [g_ne (Ne.symm hne),hv];simp [msC]
   have hk1:=(elemsK_ms hn hvt 0 1 1 0 (by simp)).1
   simp -implicitDefEqProofs only [Nat.zero_mul,List.drop_zero] at hk1
   have hcp2:=(cpy_ms hn hn0 (ys:=[v]) (y:=.msl bv 0 1 n) (ly:=1) (len:=xs.length+1-i) hb2 i (c-i) (by simp;omega) rfl (by rw [mi];simpa using hk1) (by simp;omega)).2
   rw [mi] at hcp2
   have hx2:(xs.take (i+1)++xs.drop i).take i++[v]++(xs.take (i+1)++xs.drop i).drop (i+[v].length)=xs.take i++v :: xs.drop i:=by
    have t1:(xs.take (i+1)).length=i+1:=by simp;omega
    rw [List.take_append_of_le_length (by omega),List.take_take,List.drop_append,List.drop_eq_nil_of_le (by simp;omega),t1]
    have t2:min i (i+1)=i:=by omega
    simp [t2]
   rw [hx2,List.set_set] at hcp2
   simp -implicitDefEqProofs only [insIR,o1,reduceIte,q1,q2,q3,q4,q5,q6,q7,q8,q9,S1,natOf_nat,Nat.le_refl,hc,and_self,hi,ic,hne',hil,w1,w2,hcap',hcap2,Nat.zero_le,Nat.zero_mul,Nat.sub_zero,c0,c1,c2,true_or,hov,hle,hle2,e1,hcp1,hcp2,or_true,if_true]
   refine ⟨_,b,rfl,rfl,g_eq lb,hbn,⟨by simp,fun b' x hx hne2=>?_,fun H0 h0 h=>h.set (Nat.le_trans h0 hbn) _⟩,.inr ⟨_,_,_,rfl⟩⟩
   have:b≠b':=fun e=>hne2 0 xs.length n (by rw [e])
   rw [g_ne this];exact hx
end
def wro:List O→List Nat
 | []=>[]
 | o :: l=>match o.d with
  | some d=>d :: wro l
  | none=>wro l
def wr:C→List Nat
 | .skip=>[]
 | .ops l=>wro l
 | .seq a b=>wr a++wr b
 | .cond _ a b=>wr a++wr b
 | .block _ a=>wr a
 | .loop a=>wr a
 | .exit _=>[]
 | .ret=>[]
 | .rangeF n _ _ _ _=>[n]
def wrJ:J→List Nat
 | .code c _=>wr c
 | .ops l _=>wro l
 | .call _ _=>[]
def regJ:J→Regs
 | .code _ R=>R
 | .ops _ R=>R
 | .call _ _=>fun _=>undefT
def Kp (j:J) (o:Out):Prop:=match j with
 | .call _ _=>True
 | j=>∀ e R',o=.ex e R'→∀ t,t∉wrJ j→R' t=regJ j t
theorem updo_nx {R:Regs} {d:Option Nat} {v:T} {t:Nat} (h:∀ x,d=some x→t≠x):updo R d v t=R t:=by
 cases d with
 | none=>rfl
 | some x=>simp [updo,upd,h x rfl]
theorem wro_cons {o:O} {l:List O} {t:Nat} (h:t∉wro (o :: l)):(∀ x,o.d=some x→t≠x)∧t∉wro l:=by
 unfold wro at h
 cases e:o.d with
 | none=>rw [e] at h;exact ⟨fun x hx=>(by cases hx),h⟩
 | some d=>rw [e] at h;simp only [List.mem_cons,not_or] at h;exact ⟨fun x hx=>(by cases hx;exact h.1),h.2⟩
theorem kp_ops {o:O} {l:List O} {R:Regs} {v:T} {x:Out} (h:Kp (.ops l (updo R o.d v)) x):Kp (.ops (o :: l) R) x:=fun e R' he t ht=>by
 obtain ⟨h1,h2⟩:=wro_cons ht
 rw [h e R' he t h2]
 exact updo_nx h1
theorem kp_c {c:C} {R:Regs} {e:Ex} {R':Regs} (h:∀ t,t∉wr c→R' t=R t):Kp (.code c R) (.ex e R'):=fun e' R2 he t ht=>by
 injection he with h1 h2
 rw [← h2];exact h t ht
theorem kp_o {l:List O} {R:Regs} {e:Ex} {R':Regs} (h:∀ t,t∉wro l→R' t=R t):Kp (.ops l R) (.ex e R'):=fun e' R2 he t ht=>by
 injection he with h1 h2
 rw [← h2];exact h t ht
theorem W.keep {E:Env} {j:J} {H:Heap} {Q:Out→Heap→Prop} (h:W E j H Q):W E j H (fun o H'=>Q o H'∧Kp j o):=by
 induction h with
 | skip h=>exact .skip ⟨h,kp_c fun _ _=>rfl⟩
 | exit h=>exact .exit ⟨h,kp_c fun _ _=>rfl⟩
 | ret h=>exact .ret ⟨h,kp_c fun _ _=>rfl⟩
 | reg _ ih=>exact .reg (ih.use fun o H' h=>⟨h.1,h.2⟩)
 | @seq a b R H Q M h1 h2 h3 ih1 ih2 =>
  refine .seq _ ih1 (fun R' H' hm=>(ih2 R' H' hm.1).use fun o H2 h=>⟨h.1,fun e R2 he t ht=>?_⟩) (fun o H' hm hn=>⟨h3 o H' hm.1 hn,fun e R2 he t ht=>?_⟩)
  ·have ht':t∉wr a∧t∉wr b:=by simpa [wrJ,wr] using ht
   rw [h.2 e R2 he t ht'.2];exact hm.2 _ _ rfl t ht'.1
  ·have ht':t∉wr a∧t∉wr b:=by simpa [wrJ,wr] using ht
   exact hm.2 e R2 he t ht'.1
 | @cond x a b R H Q t hx h ih =>
  refine .cond t hx (ih.use fun o H' h=>⟨h.1,fun e R2 he t' ht=>?_⟩)
  have ht':t'∉wr a∧t'∉wr b:=by simpa [wrJ,wr] using ht
  refine h.2 e R2 he t' ?_
  cases t
  ·exact ht'.2
  ·exact ht'.1
 | block M h1 h2 h3 ih =>
  exact .block _ ih (fun R' H' hm=>⟨h2 R' H' hm.1,kp_c fun t ht=>hm.2 _ _ rfl t ht⟩) (fun o H' hm hn=>⟨h3 o H' hm.1 hn,fun e R2 he t ht=>hm.2 e R2 he t ht⟩)
 | loop M h1 h2 h3 ih1 ih2 =>
  refine .loop _ ih1 (fun R' H' hm=>(ih2 R' H' hm.1).use fun o H2 h=>⟨h.1,fun e R2 he t ht=>?_⟩) (fun o H' hm hn=>⟨h3 o H' hm.1 hn,fun e R2 he t ht=>hm.2 e R2 he t ht⟩)
  rw [h.2 e R2 he t ht];exact hm.2 _ _ rfl t ht
 | nil h=>exact .nil ⟨h,kp_o fun _ _=>rfl⟩
 | no hg _ ih=>exact .no hg (ih.use fun o H' h=>⟨h.1,kp_ops h.2⟩)
 | op hg he hs _ ih=>exact .op hg he hs (ih.use fun o H' h=>⟨h.1,kp_ops (o:=⟨_,.b _,_,_⟩) h.2⟩)
 | call M hg h1 hs _ _ ih2=>exact .call M hg h1 hs (fun v H' hm=>(ih2 v H' hm).use fun o H' h=>⟨h.1,kp_ops (o:=⟨_,.call _ _,_,_⟩) h.2⟩)
 | callv M hg hf h1 hs _ _ ih2=>exact .callv M hg hf h1 hs (fun v H' hm=>(ih2 v H' hm).use fun o H' h=>⟨h.1,kp_ops (o:=⟨_,.callv _ _,_,_⟩) h.2⟩)
 | yld M1 M hg hf hb hn h1 h1' h2 h2' hs3 _ hs4 _ _ _ ih3 ih4=>exact .yld M1 M hg hf hb hn h1 h1' h2 h2' hs3 (fun R' H' hm=>(ih3 R' H' hm).use fun o H' h=>⟨h.1,kp_ops (o:=⟨_,.callv _ _,_,_⟩) h.2⟩) hs4 (fun e R' H' hm he=>(ih4 e R' H' hm he).use fun o H' h=>⟨h.1,kp_ops (o:=⟨_,.callv _ _,_,_⟩) h.2⟩)
 | nils hs h hx hy hc ih=>exact .nils hs (fun b=>(ih b).use fun o H' h=>⟨h.1,kp_ops (o:=⟨_,.b _,_,_⟩) h.2⟩) hx hy hc
 | @rangeF n x ps asg body R H Q f cs M hx h1 h2 _ =>
  refine .rangeF M hx h1 (fun v H' hm=>let ⟨st,pe,a,b,c,d⟩:=h2 v H' hm;⟨st,pe,a,b,c,d,kp_c fun t ht=>?_⟩)
  have ht:t≠n:=by simpa [wrJ,wr] using ht
  simp [upd,ht,regJ]
 | fnr M hf hn h1 h2 _=>exact .fnr M hf hn h1 (fun o H' hm=>let ⟨R',bs,a,b,c,d,v,e,f⟩:=h2 o H' hm;⟨R',bs,a,b,c,d,v,e,f,trivial⟩)
 | fn M hf hr hn h1 h2 _=>exact .fn M hf hr hn h1 (fun o H' hm=>let ⟨R',a,v,b,c⟩:=h2 o H' hm;⟨R',a,v,b,c,trivial⟩)
 | revl i M hi h1 h2 _=>exact .revl i M hi h1 (fun v H' hm=>⟨h2 v H' hm,trivial⟩)
 | frz M h1 h2 _=>exact .frz M h1 (fun o H' hm=>let ⟨v,b,cs,a,c,d,e⟩:=h2 o H' hm;⟨v,b,cs,a,c,d,e,trivial⟩)
 | nxt hg hx hb hs _ ih=>exact .nxt hg hx hb hs fun t H' hm=>(ih t H' hm).use fun o H' h=>⟨h.1,kp_ops (o:=⟨_,.b _,_,_⟩) h.2⟩
 | shr M h1 h2 _=>exact .shr M h1 (fun o H' hm=>let ⟨v,b,cs,k,a,c,d,e⟩:=h2 o H' hm;⟨v,b,cs,k,a,c,d,e,trivial⟩)
 | prim h=>exact .prim (E.mono _ _ _ _ _ h fun t H' hm=>⟨hm,trivial⟩)
def mkR:List (Nat × T)→Regs→Regs
 | [],R=>R
 | (t,v) :: l,R=>upd (mkR l R) t v
theorem mkR_nil (R:Regs):mkR [] R=R:=rfl
theorem mkR_cons (t:Nat) (v:T) (l:List (Nat × T)) (R:Regs):mkR ((t,v) :: l) R=upd (mkR l R) t v:=rfl
def agree:List (Nat × T)→Regs→Prop
 | [],_=>True
 | (t,v) :: l,R=>R t=v∧agree l R
def okV (vs:List (Nat × T)) (w:List Nat):Bool:=vs.all fun p=>!w.elem p.1
theorem upd_id {R:Regs} {t:Nat} {v:T} (h:R t=v):upd R t v=R:=by
 funext x;by_cases e:x=t
 ·subst e;simp [upd,h]
 ·simp [upd,e]
theorem mkR_agree:∀ (vs:List (Nat × T)) (R:Regs),agree vs R→mkR vs R=R
 | [],_,_=>rfl
 | (t,v) :: l,R,h=>by rw [mkR_cons,mkR_agree l R h.2,upd_id h.1]
theorem agree_of:∀ (vs:List (Nat × T)) (R R':Regs),agree vs R→(∀ p∈vs,R' p.1=R p.1)→agree vs R'
 | [],_,_,_,_=>trivial
 | (t,v) :: l,R,R',h,k=>⟨(k (t,v) List.mem_cons_self).trans h.1,agree_of l R R' h.2 fun p hp=>k p (List.mem_cons_of_mem _ hp)⟩
theorem okV_mem {vs:List (Nat × T)} {w:List Nat} (h:okV vs w=true):∀ p∈vs,p.1∉w:=fun p hp hw=>by
 have:=(List.all_eq_true.1 h) p hp
 simp [hw] at this
theorem W.loopV {E:Env} {α:Type} {a:C} {R:Regs} {H:Heap} {Q:Out→Heap→Prop} (vs:List (Nat × T)) (I:α→Regs→Heap→Prop) (μ:α→Nat) (x:α)
  (h0:I x R H) (step:∀ x R H,I x R H→wpC E a (mkR vs R) H (thenQ (fun R' H'=>∃ y,μ y<μ x∧I y R' H') Q))
  (hv:agree vs R:=by repeat' (first | exact trivial | refine And.intro rfl ?_)) (hw:okV vs (wr a)=true:=by rfl):W E (.code (.loop a) R) H Q:=by
 have key:∀ (n:Nat) (x:α) (R:Regs) (H:Heap),μ x=n→I x R H→agree vs R→W E (.code (.loop a) R) H Q:=by
  intro n
  induction n using Nat.strongRecOn with
  | _ n ih =>
   intro x R H hn hI hag
   have hs:=step x R H hI
   rw [mkR_agree vs R hag] at hs
   refine .loop _ (wpC_ok a R H _ hs).keep (fun R' H' hm=>?_) (fun o H' hm hno=>?_)
   ·obtain ⟨⟨y,hy,hI'⟩,hk⟩:=hm
    exact ih (μ y) (hn ▸ hy) y R' H' rfl hI' (agree_of vs R R' hag fun p hp=>hk _ _ rfl p.1 (okV_mem hw p hp))
   ·cases o with
    | ex e R'=>cases e with
     | normal=>exact absurd rfl (hno R')
     | exit id=>exact hm.1
     | ret=>exact hm.1
    | val v=>exact hm.1
 exact key _ x R H rfl h0 hv
theorem W.loopX {E:Env} {α:Type} {a:C} {R:Regs} {H:Heap} {Q:Out→Heap→Prop} (id:Nat) (vs:List (Nat × T)) (I:α→Regs→Heap→Prop) (μ:α→Nat) (x:α) (P:Regs→Heap→Prop)
  (h0:I x R H) (step:∀ x R H,I x R H→wpC E a (mkR vs R) H (thenQ (fun R' H'=>∃ y,μ y<μ x∧I y R' H') (exitQ id P Q))) (rest:∀ R H,P R H→Q (.ex (.exit id) (mkR vs R)) H)
  (hv:agree vs R:=by repeat' (first | exact trivial | refine And.intro rfl ?_)) (hw:okV vs (wr a)=true:=by rfl):W E (.code (.loop a) R) H Q:=by
 have h:=(W.loopV (Q:=exitQ id P Q) vs I μ x h0 step hv hw).keep
 refine h.use fun o H' hm=>?_
 cases o with
 | ex e R'=>cases e with
  | exit i =>
   obtain ⟨h1,hk⟩:=hm
   simp only [exitQ] at h1
   split at h1
   ·rename_i e;subst e
    have hag:agree vs R':=agree_of vs R R' hv fun p hp=>hk _ _ rfl p.1 (okV_mem hw p hp)
    have:=rest _ _ h1
    rwa [mkR_agree vs R' hag] at this
   ·exact h1
  | normal=>exact hm.1
  | ret=>exact hm.1
 | val v=>exact hm.1
theorem wpB_keep {E:Env} {K:Regs→Heap→Prop}:∀ (l:List O) (R:Regs) (H:Heap),wpB E l R H K→wpB E l R H (fun R' H'=>K R' H'∧∀ t,t∉wro l→R' t=R t)
 | [],R,H,h=>⟨h,fun _ _=>rfl⟩
 | ⟨d,.b b,g,s⟩ :: l,R,H,h=>by
  have tr:∀ v H',wpB E l (updo R d v) H' K→wpB E l (updo R d v) H' (fun R' H'=>K R' H'∧∀ t,t∉wro (⟨d,.b b,g,s⟩ :: l)→R' t=R t):=fun v H' h' =>
   wpB_mono (fun R' H' hk=>⟨hk.1,fun t ht=>by obtain ⟨h1,h2⟩:=wro_cons ht;rw [hk.2 t h2];exact updo_nx h1⟩) l _ _ (wpB_keep l _ _ h')
  simp only [wpB] at h ⊢
  split at h
  ·exact tr _ _ h
  ·split at h
   ·exact ⟨h.1,tr _ _ h.2⟩
   ·rcases h with h | ⟨x,bb,bi,es,ix,cur,e,hx,hb,h⟩
    ·exact .inl ⟨h.1,fun t=>tr _ _ (h.2 t)⟩
    ·exact .inr ⟨x,bb,bi,es,ix,cur,e,hx,hb,fun t H' hm=>⟨(h t H' hm).1,tr _ _ (h t H' hm).2⟩⟩
 | ⟨d,.call f az,g,s⟩ :: l,R,H,h=>by
  have tr:∀ v H',wpB E l (updo R d v) H' K→wpB E l (updo R d v) H' (fun R' H'=>K R' H'∧∀ t,t∉wro (⟨d,.call f az,g,s⟩ :: l)→R' t=R t):=fun v H' h' =>
   wpB_mono (fun R' H' hk=>⟨hk.1,fun t ht=>by obtain ⟨h1,h2⟩:=wro_cons ht;rw [hk.2 t h2];exact updo_nx h1⟩) l _ _ (wpB_keep l _ _ h')
  simp only [wpB] at h ⊢
  split at h
  ·exact tr _ _ h
  ·obtain ⟨M,h1,h2⟩:=h
   exact ⟨M,h1,fun v H' hm=>⟨(h2 v H' hm).1,tr _ _ (h2 v H' hm).2⟩⟩
 | ⟨d,.callv x az,g,s⟩ :: l,R,H,h=>by
  have tr:∀ v H',wpB E l (updo R d v) H' K→wpB E l (updo R d v) H' (fun R' H'=>K R' H'∧∀ t,t∉wro (⟨d,.callv x az,g,s⟩ :: l)→R' t=R t):=fun v H' h' =>
   wpB_mono (fun R' H' hk=>⟨hk.1,fun t ht=>by obtain ⟨h1,h2⟩:=wro_cons ht;rw [hk.2 t h2];exact updo_nx h1⟩) l _ _ (wpB_keep l _ _ h')
  simp only [wpB] at h ⊢
  split at h
  ·exact tr _ _ h
  ·rcases h with ⟨f,cs,M,hf,h1,h2⟩ | ⟨b,n,R0,ps,asg,body,M1,M,h⟩
   ·exact .inl ⟨f,cs,M,hf,h1,fun v H' hm=>⟨(h2 v H' hm).1,tr _ _ (h2 v H' hm).2⟩⟩
   ·exact .inr ⟨b,n,R0,ps,asg,body,M1,M,⟨h.hf,h.hb,h.hn,h.h1,h.h1',h.h2,h.h2',fun R' H' hm=>⟨(h.h3 R' H' hm).1,tr _ _ (h.h3 R' H' hm).2⟩,fun e R' H' hm he=>⟨(h.h4 e R' H' hm he).1,tr _ _ (h.h4 e R' H' hm he).2⟩⟩⟩
theorem wpC_keep {E:Env}:∀ (c:C) (R:Regs) (H:Heap) (Q:Out→Heap→Prop),wpC E c R H Q→wpC E c R H (fun o H'=>Q o H'∧∀ e R',o=.ex e R'→∀ t,t∉wr c→R' t=R t)
 | .skip,R,H,Q,h=>⟨h,fun e R' he t _=>by cases he;rfl⟩
 | .ops l,R,H,Q,h=>wpB_mono (fun R' H' hk=>⟨hk.1,fun e R2 he t ht=>by cases he;exact hk.2 t ht⟩) l R H (wpB_keep l R H h)
 | .seq a b,R,H,Q,h=>wpC_mono a R H (fun o H' hk=>by
   obtain ⟨h1,h2⟩:=hk
   have fin:(∀ R',o≠.ex .normal R')→Q o H'→Q o H'∧∀ e R',o=.ex e R'→∀ t,t∉wr (.seq a b)→R' t=R t:=fun _ hq=>⟨hq,fun e R' he t ht=>h2 e R' he t fun hh=>ht (List.mem_append_left _ hh)⟩
   cases o with
   | ex e R'=>cases e with
    | normal =>
     refine wpC_mono b R' H' (fun o H2 hk2=>⟨hk2.1,fun e R2 he t ht=>?_⟩) (wpC_keep b R' H' Q h1)
     rw [hk2.2 e R2 he t fun hh=>ht (List.mem_append_right _ hh)]
     exact h2 _ _ rfl t fun hh=>ht (List.mem_append_left _ hh)
    | exit id=>exact fin (fun _ hh=>by cases hh) h1
    | ret=>exact fin (fun _ hh=>by cases hh) h1
   | val v=>exact fin (fun _ hh=>by cases hh) h1) (wpC_keep a R H _ h)
 | .cond x a b,R,H,Q,h=>by
  simp only [wpC] at h ⊢
  split at h
  ·exact wpC_mono a R H (fun o H' hk=>⟨hk.1,fun e R' he t ht=>hk.2 e R' he t fun hh=>ht (List.mem_append_left _ hh)⟩) (wpC_keep a R H Q h)
  ·exact wpC_mono b R H (fun o H' hk=>⟨hk.1,fun e R' he t ht=>hk.2 e R' he t fun hh=>ht (List.mem_append_right _ hh)⟩) (wpC_keep b R H Q h)
  ·exact h.elim
 | .block id a,R,H,Q,h=>wpC_mono a R H (fun o H' hk=>by
   obtain ⟨h1,h2⟩:=hk
   cases o with
   | ex e R'=>cases e with
    | normal=>exact ⟨h1,fun e R2 he t ht=>by cases he;exact h2 _ _ rfl t ht⟩
    | exit i =>
     simp only [blockQ] at h1 ⊢
     split at h1
     ·rename_i e;simp only [e,if_true];exact ⟨h1,fun e R2 he t ht=>by cases he;exact h2 _ _ rfl t ht⟩
     ·rename_i e;simp only [e,if_false];exact ⟨h1,fun e R2 he t ht=>by cases he;exact h2 _ _ rfl t ht⟩
    | ret=>exact ⟨h1,fun e R2 he t ht=>by cases he;exact h2 _ _ rfl t ht⟩
   | val v=>exact ⟨h1,fun e R2 he t ht=>by cases he⟩) (wpC_keep a R H _ h)
 | .exit id,R,H,Q,h=>⟨h,fun e R' he t _=>by cases he;rfl⟩
 | .ret,R,H,Q,h=>⟨h,fun e R' he t _=>by cases he;rfl⟩
 | .loop a,R,H,Q,h=>W.use (W.keep h) fun o H' hk=>⟨hk.1,hk.2⟩
 | .rangeF n x ps a b,R,H,Q,h=>W.use (W.keep h) fun o H' hk=>⟨hk.1,hk.2⟩
def normO (P:Regs→Heap→Prop):Out→Heap→Prop
 | .ex .normal R,H=>P R H
 | _,_=>False
theorem normO_n (P:Regs→Heap→Prop) (R:Regs) (H:Heap):normO P (.ex .normal R) H=P R H:=rfl
theorem condC_cut {E:Env} {a b:C} {t:T} {R:Regs} {H:Heap} {Q:Out→Heap→Prop} (vs:List (Nat × T)) (P:Regs→Heap→Prop) (h1:condC E R H (normO P) a b t) (h2:∀ R' H',P R' H'→Q (.ex .normal (mkR vs R')) H')
  (hv:agree vs R:=by repeat' (first | exact trivial | refine And.intro rfl ?_)) (hw:okV vs (wr a++wr b)=true:=by rfl):condC E R H Q a b t:=by
 have key:∀ c:C,(∀ x,x∈wr c→x∈wr a++wr b)→wpC E c R H (normO P)→wpC E c R H Q:=fun c hc h=>by
  refine wpC_mono c R H (fun o H' hk=>?_) (wpC_keep c R H _ h)
  cases o with
  | ex e R'=>cases e with
   | normal =>
    have hag:agree vs R':=agree_of vs R R' hv fun p hp=>hk.2 _ _ rfl p.1 fun hh=>okV_mem hw p hp (hc _ hh)
    have:=h2 R' H' hk.1
    rwa [mkR_agree vs R' hag] at this
   | exit id=>exact hk.1.elim
   | ret=>exact hk.1.elim
  | val v=>exact hk.1.elim
 unfold condC at h1 ⊢
 split at h1
 ·exact key a (fun x hx=>List.mem_append_left _ hx) h1
 ·exact key b (fun x hx=>List.mem_append_right _ hx) h1
 ·exact h1.elim
def tb:T→Option Nat
 | .msl c _ _ _=>some c
 | _=>none
def bitsN (f:Nat→Bool):Nat→Nat
 | 0=>0
 | w+1=>bitsN f w ||| (if f w then 2 ^ w else 0)
theorem bitsN_bit (f:Nat→Bool) (w i:Nat):(bitsN f w).testBit i=(decide (i<w)&&f i):=by
 induction w with
 | zero=>simp [bitsN]
 | succ w ih =>
  have e:(if f w then 2 ^ w else 0:Nat).testBit i=(decide (w=i)&&f i):=by
   by_cases h:w=i
   ·subst h;cases f w <;> simp [Nat.testBit_two_pow]
   ·cases f w <;> simp [Nat.testBit_two_pow,h]
  rw [bitsN,Nat.testBit_or,ih,e]
  by_cases h1:i<w
  ·have:i<w+1:=by omega
   have h2:¬ w=i:=by omega
   simp [h1,this,h2]
  ·by_cases h2:w=i
   ·subst h2;simp
   ·have:¬ i<w+1:=by omega
    simp [h1,h2,this]
theorem bitsN_lt (f:Nat→Bool) (w:Nat):bitsN f w<2 ^ w:=by
 induction w with
 | zero=>simp [bitsN]
 | succ w ih =>
  rw [bitsN]
  refine Nat.or_lt_two_pow (Nat.lt_trans ih (Nat.pow_lt_pow_right (by decide) (by omega))) ?_
  split
  ·exact Nat.pow_lt_pow_right (by decide) (by omega)
  ·exact Nat.two_pow_pos _
theorem bitsN_ext {f g:Nat→Bool} {w:Nat} (h:∀ i,i<w→f i=g i):bitsN f w=bitsN g w:=by
 refine Nat.eq_of_testBit_eq fun i=>?_
 rw [bitsN_bit,bitsN_bit]
 by_cases hi:i<w
 ·rw [h i hi]
 ·simp [hi]
theorem bitsN_or {f:Nat→Bool} {w p:Nat} (hp:p<w):bitsN f w ||| 2 ^ p=bitsN (fun i=>f i||decide (i=p)) w:=by
 refine Nat.eq_of_testBit_eq fun i=>?_
 rw [Nat.testBit_or,bitsN_bit,bitsN_bit,Nat.testBit_two_pow]
 by_cases h:p=i
 ·subst h;simp [hp]
 ·have:¬ i=p:=fun e=>h e.symm
  simp [h,this]
end Go.Rmp
end

section
namespace Go.Proofs.YtmgldhlcapjdkaaGreat.Ir
open Go.Rmp
set_option maxRecDepth 100000
set_option maxHeartbeats 0
abbrev op (d:Nat) (b:Bo):O:=⟨some d,.b b,none,[]⟩
abbrev ef (b:Bo):O:=⟨none,.b b,none,[]⟩
abbrev cl (d f:Nat) (az:List X):O:=⟨some d,.call f az,none,[]⟩
abbrev sq (a b:C):C:=.seq a b
def an8:An:=⟨[],[(19,[(0,true),(1,true),(2,true),(3,true),(4,true),(5,true),(6,true),(7,true),(8,true),(9,true),(10,false),(11,true),(12,true),(13,true),(14,true),(15,true)]),(24,[(0,true),(1,true),(2,true),(3,true),(4,true),(5,true),(6,true),(7,true),(8,true),(9,true),(10,true),(11,true),(12,true),(13,true),(14,true),(15,true),(16,true),(17,true),(18,true),(19,true),(20,true),(21,true),(22,true),(23,true),(24,true),(25,true),(26,true),(27,true),(28,true),(29,true),(30,true),(31,true),(32,true),(33,true),(34,true),(35,true)]),(33,[(0,true),(1,true),(2,true),(3,true),(4,true),(5,true),(6,false),(7,true),(8,true),(9,true),(10,true),(11,true)]),(41,[(0,true),(1,true),(2,true),(3,true),(4,true),(5,true),(6,true),(7,true),(8,true),(9,true),(10,true),(11,true),(12,false),(13,true),(14,false),(15,false)]),(49,[(0,true),(1,true),(2,true),(3,true),(4,true),(5,true),(6,true),(7,true),(8,true),(9,true),(11,true),(10,false),(12,false)]),(50,[(0,true),(1,true),(2,true),(3,true),(4,true),(5,true),(6,true),(7,true),(8,true),(9,true),(10,true),(11,true),(12,true),(13,true),(14,true),(15,true),(16,true),(17,true),(18,true),(19,true),(20,true),(21,true),(22,true),(23,true),(24,true),(25,true),(26,true),(27,true),(28,true),(29,true),(30,true),(31,true),(32,true),(33,true),(34,true),(35,true),(36,true),(37,true),(38,true),(39,true),(40,true),(41,true),(42,true),(43,true),(44,true),(45,true),(46,true),(47,true),(48,true),(49,true),(50,true),(51,true),(52,true),(53,true),(54,true),(55,true),(56,true),(57,true),(58,true),(59,true),(60,true),(61,true),(62,true),(63,true),(64,true),(65,true),(66,true),(67,true),(68,true)])]⟩
def ir8:Go.Rmp.Fn:=⟨350,6,[.t 12],
 sq (.ops [op 11 (.box (.r 5)),op 12 (.mov (.c (.bool false)))]) <|
 sq (sq (.ops [cl 35 10 [],op 36 (.un .not (.r 35))]) <|
 .cond (.r 36)
  (sq (.ops [op 12 (.mov (.c (.bool false)))]) <|
  .ret)
  (.skip)) <|
 sq (.ops [op 37 (.mov (.r 0)),cl 38 26 [(.r 37)],op 13 (.mov (.r 38))]) <|
 sq (sq (.ops [op 39 (.mov (.r 13)),op 40 (.eqr false .ptr (.r 39) (.c .nilp))]) <|
 .cond (.r 40)
  (sq (.ops [op 12 (.mov (.c (.bool false)))]) <|
  .ret)
  (.skip)) <|
 sq (sq (.ops [op 14 (.mov (.c (.int .i64 0)))]) <|
 .block 0 (
  .loop (
   sq (sq (.ops [op 41 (.mov (.r 14)),op 42 (.mov (.r 1)),op 43 (.len .sl (.r 42)),op 44 (.bin .lss (.r 41) (.r 43))]) <|
   .cond (.r 44)
    (.skip)
    (.exit 0)) <|
   sq (.block 1 (
    sq (.ops [op 47 (.mov (.r 1)),op 48 (.mov (.r 14)),op 49 (.iad 5 (.r 47) (.r 48)),op 50 (.fad 0 (.r 49)),op 51 (.ld 1 false (.r 50)),op 52 (.bin .neq (.r 51) (.c (.int .i64 3)))]) <|
    .cond (.r 52)
     (.ops [op 53 (.mov (.r 13)),op 54 (.mov (.r 1)),op 55 (.mov (.r 14)),op 56 (.iad 5 (.r 54) (.r 55)),op 57 (.ld 5 true (.r 56)),cl 58 27 [(.r 53),(.r 57)]])
     (.skip))) <|
   .ops [op 45 (.mov (.r 14)),op 46 (.bin .add (.r 45) (.c (.int .i64 1))),op 14 (.mov (.r 46))]))) <|
 sq (.ops [op 59 (.mov (.r 2)),op 60 (.bin .or (.r 59) (.c (.int .u8 1))),cl 61 28 [(.r 60)],op 15 (.mov (.r 61))]) <|
 sq (.ops [op 62 (.iaa 4 1 (.r 11) (.c (.int .i64 0))),op 63 (.ld 1 false (.r 62)),op 64 (.iaa 4 1 (.r 11) (.c (.int .i64 1))),op 65 (.ld 1 false (.r 64)),cl 66 32 [(.r 63),(.r 65)],op 16 (.alloc [.int .i64 0,.int .i64 0]),ef (.st 2 (.r 16) (.r 66))]) <|
 sq (.ops [op 67 (.iaa 4 1 (.r 11) (.c (.int .i64 2))),op 68 (.ld 1 false (.r 67)),op 69 (.iaa 4 1 (.r 11) (.c (.int .i64 3))),op 70 (.ld 1 false (.r 69)),cl 71 32 [(.r 68),(.r 70)],op 17 (.alloc [.int .i64 0,.int .i64 0]),ef (.st 2 (.r 17) (.r 71))]) <|
 sq (.ops [op 18 (.mov (.c (.sl .nil [])))]) <|
 sq (.ops [op 19 (.mov (.c (.sl .nil [])))]) <|
 sq (sq (.ops [op 20 (.mov (.c (.int .i64 0)))]) <|
 .block 2 (
  .loop (
   sq (sq (.ops [op 72 (.mov (.r 20)),op 73 (.mov (.r 15)),op 74 (.len .sl (.r 73)),op 75 (.bin .lss (.r 72) (.r 74))]) <|
   .cond (.r 75)
    (.skip)
    (.exit 2)) <|
   sq (.block 3 (
    sq (.ops [op 79 (.mov (.r 13)),op 80 (.nilc (.r 79)),op 81 (.fad 0 (.r 80)),op 82 (.ld 1 false (.r 81)),op 83 (.mov (.r 15)),op 84 (.mov (.r 20)),op 85 (.mov (.r 20)),op 86 (.bin .add (.r 85) (.c (.int .i64 1))),op 87 (.sll 1 (.r 83) (some (.r 84)) (some (.r 86)) none),op 88 (.ld 2 true (.r 16)),cl 89 23 [(.r 82),(.r 87),(.r 88)],op 78 (.mov (.r 89)),op 90 (.ext 0 (.r 78)),op 91 (.ext 1 (.r 78)),op 21 (.mov (.r 90)),op 22 (.mov (.r 91))]) <|
    sq (sq (.ops [op 92 (.mov (.r 22)),op 93 (.bin .neq (.r 92) (.c (.int .i64 0))),op 94 (.mov (.r 93)),⟨(some 95),.b (.mov (.r 21)),(some (94,false)),[]⟩,⟨(some 96),.b (.len .sl (.r 95)),(some (94,false)),[]⟩,⟨(some 97),.b (.bin .neq (.r 96) (.c (.int .i64 1))),(some (94,false)),[]⟩,op 98 (.pick (.r 94) (.c (.bool true)) (.r 97))]) <|
    .cond (.r 98)
     (sq (.ops [op 12 (.mov (.c (.bool false)))]) <|
     .ret)
     (.skip)) <|
    sq (.ops [op 99 (.mov (.r 18)),op 100 (.mov (.r 21)),op 101 (.iad 4 (.r 100) (.c (.int .i64 0))),op 102 (.ld 4 true (.r 101)),op 103 (.bsl 1 [.str ⟨#[]⟩,.int .u64 0,.str ⟨#[]⟩,.sl .nil []] [(0,(.r 102))]),op 104 (.app 4 64 false (.r 99) (.r 103)),op 18 (.mov (.r 104))]) <|
    sq (.ops [op 105 (.mov (.r 19)),op 106 (.mov (.r 13)),op 107 (.mov (.r 15)),op 108 (.mov (.r 20)),op 109 (.mov (.r 20)),op 110 (.bin .add (.r 109) (.c (.int .i64 1))),op 111 (.sll 1 (.r 107) (some (.r 108)) (some (.r 110)) none),cl 112 31 [(.r 106),(.r 111)],op 113 (.iad 4 (.r 112) (.c (.int .i64 0))),op 114 (.ld 4 true (.r 113)),op 115 (.bsl 1 [.str ⟨#[]⟩,.int .u64 0,.str ⟨#[]⟩,.sl .nil []] [(0,(.r 114))]),op 116 (.app 4 64 false (.r 105) (.r 115)),op 19 (.mov (.r 116))]) <|
    sq (sq (.ops [op 117 (.mov (.r 18)),op 118 (.mov (.r 20)),op 119 (.iad 4 (.r 117) (.r 118)),op 120 (.fad 1 (.r 119)),op 121 (.ld 1 false (.r 120)),op 122 (.mov (.r 19)),op 123 (.mov (.r 20)),op 124 (.iad 4 (.r 122) (.r 123)),op 125 (.fad 1 (.r 124)),op 126 (.ld 1 false (.r 125)),op 127 (.bin .neq (.r 121) (.r 126)),op 128 (.mov (.r 127)),⟨(some 129),.b (.mov (.r 18)),(some (128,false)),[]⟩,⟨(some 130),.b (.mov (.r 20)),(some (128,false)),[]⟩,⟨(some 131),.b (.iad 4 (.r 129) (.r 130)),(some (128,false)),[]⟩,⟨(some 132),.b (.fad 2 (.r 131)),(some (128,false)),[]⟩,⟨(some 133),.b (.ld 1 false (.r 132)),(some (128,false)),[]⟩,⟨(some 134),.b (.mov (.r 19)),(some (128,false)),[]⟩,⟨(some 135),.b (.mov (.r 20)),(some (128,false)),[]⟩,⟨(some 136),.b (.iad 4 (.r 134) (.r 135)),(some (128,false)),[]⟩,⟨(some 137),.b (.fad 2 (.r 136)),(some (128,false)),[]⟩,⟨(some 138),.b (.ld 1 false (.r 137)),(some (128,false)),[]⟩,⟨(some 139),.b (.bin .neq (.r 133) (.r 138)),(some (128,false)),[]⟩,op 140 (.pick (.r 128) (.c (.bool true)) (.r 139)),op 141 (.mov (.r 140)),⟨(some 142),.b (.mov (.r 18)),(some (141,false)),[]⟩,⟨(some 143),.b (.mov (.r 20)),(some (141,false)),[]⟩,⟨(some 144),.b (.iad 4 (.r 142) (.r 143)),(some (141,false)),[]⟩,⟨(some 145),.b (.fad 0 (.r 144)),(some (141,false)),[]⟩,⟨(some 146),.b (.ld 1 false (.r 145)),(some (141,false)),[]⟩,⟨(some 147),.b (.mov (.r 15)),(some (141,false)),[]⟩,⟨(some 148),.b (.mov (.r 20)),(some (141,false)),[]⟩,⟨(some 149),.b (.iad 1 (.r 147) (.r 148)),(some (141,false)),[]⟩,⟨(some 150),.b (.ld 1 false (.r 149)),(some (141,false)),[]⟩,⟨(some 151),.b (.bin .neq (.r 146) (.r 150)),(some (141,false)),[]⟩,op 152 (.pick (.r 141) (.c (.bool true)) (.r 151))]) <|
    .cond (.r 152)
     (sq (.ops [op 12 (.mov (.c (.bool false)))]) <|
     .ret)
     (.skip)) <|
    sq (.ops [op 153 (.mov (.r 20)),op 154 (.mov (.r 3)),op 155 (.len .sl (.r 154)),op 156 (.bin .lss (.r 153) (.r 155)),op 157 (.mov (.r 156)),⟨(some 158),.b (.mov (.r 3)),(some (157,true)),[]⟩,⟨(some 159),.b (.mov (.r 20)),(some (157,true)),[]⟩,⟨(some 160),.b (.iad 5 (.r 158) (.r 159)),(some (157,true)),[]⟩,⟨(some 161),.b (.fad 0 (.r 160)),(some (157,true)),[]⟩,⟨(some 162),.b (.ld 1 false (.r 161)),(some (157,true)),[]⟩,⟨(some 163),.b (.bin .neq (.r 162) (.c (.int .i64 3))),(some (157,true)),[]⟩,op 164 (.pick (.r 157) (.r 163) (.c (.bool false)))]) <|
    .cond (.r 164)
     (.ops [op 165 (.mov (.r 13)),op 166 (.mov (.r 3)),op 167 (.mov (.r 20)),op 168 (.iad 5 (.r 166) (.r 167)),op 169 (.ld 5 true (.r 168)),cl 170 27 [(.r 165),(.r 169)]])
     (.skip))) <|
   .ops [op 76 (.mov (.r 20)),op 77 (.bin .add (.r 76) (.c (.int .i64 1))),op 20 (.mov (.r 77))]))) <|
 sq (sq (.ops [op 23 (.mov (.c (.int .i64 0)))]) <|
 .block 4 (
  .loop (
   sq (sq (.ops [op 171 (.mov (.r 23)),op 172 (.mov (.r 4)),op 173 (.len .sl (.r 172)),op 174 (.bin .lss (.r 171) (.r 173))]) <|
   .cond (.r 174)
    (.skip)
    (.exit 4)) <|
   sq (.block 5 (
    sq (.ops [op 177 (.mov (.r 4)),op 178 (.mov (.r 23)),op 179 (.iad 5 (.r 177) (.r 178)),op 180 (.fad 0 (.r 179)),op 181 (.ld 1 false (.r 180)),op 182 (.bin .neq (.r 181) (.c (.int .i64 3)))]) <|
    .cond (.r 182)
     (.ops [op 183 (.mov (.r 13)),op 184 (.mov (.r 4)),op 185 (.mov (.r 23)),op 186 (.iad 5 (.r 184) (.r 185)),op 187 (.ld 5 true (.r 186)),cl 188 27 [(.r 183),(.r 187)]])
     (.skip))) <|
   .ops [op 175 (.mov (.r 23)),op 176 (.bin .add (.r 175) (.c (.int .i64 1))),op 23 (.mov (.r 176))]))) <|
 sq (.ops [op 190 (.mov (.r 13)),op 191 (.nilc (.r 190)),op 192 (.fad 0 (.r 191)),op 193 (.ld 1 false (.r 192)),op 194 (.mov (.r 18)),op 195 (.ld 2 true (.r 17)),cl 196 24 [(.r 193),(.r 194),(.r 195)],op 189 (.mov (.r 196)),op 197 (.ext 0 (.r 189)),op 198 (.ext 1 (.r 189)),op 24 (.mov (.r 197)),op 25 (.mov (.r 198))]) <|
 sq (sq (.ops [op 199 (.mov (.r 25)),op 200 (.bin .neq (.r 199) (.c (.int .i64 0))),op 201 (.mov (.r 200)),⟨(some 202),.b (.mov (.r 24)),(some (201,false)),[]⟩,⟨(some 203),.b (.len .sl (.r 202)),(some (201,false)),[]⟩,⟨(some 204),.b (.mov (.r 15)),(some (201,false)),[]⟩,⟨(some 205),.b (.len .sl (.r 204)),(some (201,false)),[]⟩,⟨(some 206),.b (.bin .neq (.r 203) (.r 205)),(some (201,false)),[]⟩,op 207 (.pick (.r 201) (.c (.bool true)) (.r 206)),op 208 (.mov (.r 207)),⟨(some 209),.b (.mov (.r 24)),(some (208,false)),[]⟩,⟨(some 210),.call 16 [(.r 209)],(some (208,false)),[]⟩,⟨(some 211),.b (.un .not (.r 210)),(some (208,false)),[]⟩,op 212 (.pick (.r 208) (.c (.bool true)) (.r 211))]) <|
 .cond (.r 212)
  (sq (.ops [op 12 (.mov (.c (.bool false)))]) <|
  .ret)
  (.skip)) <|
 sq (.ops [op 214 (.mov (.r 19)),cl 215 33 [(.r 214)],op 213 (.mov (.r 215)),op 216 (.ext 0 (.r 213)),op 217 (.ext 1 (.r 213)),op 26 (.mov (.r 216)),op 27 (.mov (.r 217))]) <|
 sq (.ops [op 28 (.mov (.c (.sl .nil [])))]) <|
 sq (sq (.ops [op 29 (.mov (.c (.int .i64 0)))]) <|
 .block 6 (
  .loop (
   sq (sq (.ops [op 218 (.mov (.r 29)),op 219 (.mov (.r 26)),op 220 (.len .sl (.r 219)),op 221 (.bin .lss (.r 218) (.r 220))]) <|
   .cond (.r 221)
    (.skip)
    (.exit 6)) <|
   sq (.block 7 (
    .ops [op 224 (.mov (.r 28)),op 225 (.mov (.r 13)),op 226 (.mov (.r 26)),op 227 (.mov (.r 29)),op 228 (.iad 2 (.r 226) (.r 227)),op 229 (.fad 0 (.r 228)),op 230 (.ld 1 false (.r 229)),op 231 (.mov (.r 26)),op 232 (.mov (.r 29)),op 233 (.iad 2 (.r 231) (.r 232)),op 234 (.fad 1 (.r 233)),op 235 (.ld 1 false (.r 234)),cl 236 34 [(.r 225),(.r 230),(.r 235)],op 237 (.bsl 1 [.str ⟨#[]⟩,.int .u64 0,.str ⟨#[]⟩,.sl .nil []] [(0,(.r 236))]),op 238 (.app 4 64 false (.r 224) (.r 237)),op 28 (.mov (.r 238))])) <|
   .ops [op 222 (.mov (.r 29)),op 223 (.bin .add (.r 222) (.c (.int .i64 1))),op 29 (.mov (.r 223))]))) <|
 sq (.ops [op 240 (.mov (.r 19)),op 241 (.mov (.r 28)),cl 242 35 [(.r 240),(.r 241)],op 239 (.mov (.r 242)),op 243 (.ext 0 (.r 239)),op 244 (.ext 1 (.r 239)),op 30 (.mov (.r 243)),op 31 (.mov (.r 244))]) <|
 sq (sq (.ops [op 245 (.mov (.r 27)),op 246 (.bin .neq (.r 245) (.c (.int .i64 0))),op 247 (.mov (.r 246)),⟨(some 248),.b (.mov (.r 31)),(some (247,false)),[]⟩,⟨(some 249),.b (.bin .neq (.r 248) (.c (.int .i64 0))),(some (247,false)),[]⟩,op 250 (.pick (.r 247) (.c (.bool true)) (.r 249)),op 251 (.mov (.r 250)),⟨(some 252),.b (.mov (.r 30)),(some (251,false)),[]⟩,⟨(some 253),.b (.len .sl (.r 252)),(some (251,false)),[]⟩,⟨(some 254),.b (.mov (.r 15)),(some (251,false)),[]⟩,⟨(some 255),.b (.len .sl (.r 254)),(some (251,false)),[]⟩,⟨(some 256),.b (.bin .neq (.r 253) (.r 255)),(some (251,false)),[]⟩,op 257 (.pick (.r 251) (.c (.bool true)) (.r 256))]) <|
 .cond (.r 257)
  (sq (.ops [op 12 (.mov (.c (.bool false)))]) <|
  .ret)
  (.skip)) <|
 sq (.ops [op 32 (.mov (.c (.sl .nil [])))]) <|
 sq (sq (.ops [op 33 (.mov (.c (.int .i64 0)))]) <|
 .block 8 (
  .loop (
   sq (sq (.ops [op 258 (.mov (.r 33)),op 259 (.mov (.r 15)),op 260 (.len .sl (.r 259)),op 261 (.bin .lss (.r 258) (.r 260))]) <|
   .cond (.r 261)
    (.skip)
    (.exit 8)) <|
   sq (.block 9 (
    sq (.ops [op 264 (.mov (.r 13)),op 265 (.mov (.r 15)),op 266 (.mov (.r 33)),op 267 (.iad 1 (.r 265) (.r 266)),op 268 (.ld 1 false (.r 267)),op 269 (.mov (.r 24)),op 270 (.mov (.r 33)),op 271 (.iad 4 (.r 269) (.r 270)),op 272 (.fad 1 (.r 271)),op 273 (.ld 1 false (.r 272)),op 34 (.alloc [.str ⟨#[]⟩,.int .u64 0,.str ⟨#[]⟩,.sl .nil []]),cl 274 34 [(.r 264),(.r 268),(.r 273)],ef (.st 4 (.r 34) (.r 274))]) <|
    sq (sq (.ops [op 275 (.mov (.r 24)),op 276 (.mov (.r 33)),op 277 (.iad 4 (.r 275) (.r 276)),op 278 (.fad 0 (.r 277)),op 279 (.ld 1 false (.r 278)),op 280 (.mov (.r 15)),op 281 (.mov (.r 33)),op 282 (.iad 1 (.r 280) (.r 281)),op 283 (.ld 1 false (.r 282)),op 284 (.bin .neq (.r 279) (.r 283)),op 285 (.mov (.r 284)),⟨(some 286),.b (.mov (.r 24)),(some (285,false)),[]⟩,⟨(some 287),.b (.mov (.r 33)),(some (285,false)),[]⟩,⟨(some 288),.b (.iad 4 (.r 286) (.r 287)),(some (285,false)),[]⟩,⟨(some 289),.b (.fad 1 (.r 288)),(some (285,false)),[]⟩,⟨(some 290),.b (.ld 1 false (.r 289)),(some (285,false)),[]⟩,⟨(some 291),.b (.mov (.r 18)),(some (285,false)),[]⟩,⟨(some 292),.b (.mov (.r 33)),(some (285,false)),[]⟩,⟨(some 293),.b (.iad 4 (.r 291) (.r 292)),(some (285,false)),[]⟩,⟨(some 294),.b (.fad 1 (.r 293)),(some (285,false)),[]⟩,⟨(some 295),.b (.ld 1 false (.r 294)),(some (285,false)),[]⟩,⟨(some 296),.b (.bin .lss (.r 290) (.r 295)),(some (285,false)),[]⟩,op 297 (.pick (.r 285) (.c (.bool true)) (.r 296)),op 298 (.mov (.r 297)),⟨(some 299),.b (.mov (.r 24)),(some (298,false)),[]⟩,⟨(some 300),.b (.mov (.r 33)),(some (298,false)),[]⟩,⟨(some 301),.b (.iad 4 (.r 299) (.r 300)),(some (298,false)),[]⟩,⟨(some 302),.b (.fad 1 (.r 301)),(some (298,false)),[]⟩,⟨(some 303),.b (.ld 1 false (.r 302)),(some (298,false)),[]⟩,⟨(some 304),.b (.fad 1 (.r 34)),(some (298,false)),[]⟩,⟨(some 305),.b (.ld 1 false (.r 304)),(some (298,false)),[]⟩,⟨(some 306),.b (.bin .neq (.r 303) (.r 305)),(some (298,false)),[]⟩,op 307 (.pick (.r 298) (.c (.bool true)) (.r 306)),op 308 (.mov (.r 307)),⟨(some 309),.b (.mov (.r 24)),(some (308,false)),[]⟩,⟨(some 310),.b (.mov (.r 33)),(some (308,false)),[]⟩,⟨(some 311),.b (.iad 4 (.r 309) (.r 310)),(some (308,false)),[]⟩,⟨(some 312),.b (.fad 2 (.r 311)),(some (308,false)),[]⟩,⟨(some 313),.b (.ld 1 false (.r 312)),(some (308,false)),[]⟩,⟨(some 314),.b (.fad 2 (.r 34)),(some (308,false)),[]⟩,⟨(some 315),.b (.ld 1 false (.r 314)),(some (308,false)),[]⟩,⟨(some 316),.b (.bin .neq (.r 313) (.r 315)),(some (308,false)),[]⟩,op 317 (.pick (.r 308) (.c (.bool true)) (.r 316)),op 318 (.mov (.r 317)),⟨(some 319),.b (.mov (.r 24)),(some (318,false)),[]⟩,⟨(some 320),.b (.mov (.r 33)),(some (318,false)),[]⟩,⟨(some 321),.b (.iad 4 (.r 319) (.r 320)),(some (318,false)),[]⟩,⟨(some 322),.b (.fad 1 (.r 321)),(some (318,false)),[]⟩,⟨(some 323),.b (.ld 1 false (.r 322)),(some (318,false)),[]⟩,⟨(some 324),.b (.mov (.r 30)),(some (318,false)),[]⟩,⟨(some 325),.b (.mov (.r 33)),(some (318,false)),[]⟩,⟨(some 326),.b (.iad 4 (.r 324) (.r 325)),(some (318,false)),[]⟩,⟨(some 327),.b (.fad 1 (.r 326)),(some (318,false)),[]⟩,⟨(some 328),.b (.ld 1 false (.r 327)),(some (318,false)),[]⟩,⟨(some 329),.b (.bin .neq (.r 323) (.r 328)),(some (318,false)),[]⟩,op 330 (.pick (.r 318) (.c (.bool true)) (.r 329)),op 331 (.mov (.r 330)),⟨(some 332),.b (.mov (.r 24)),(some (331,false)),[]⟩,⟨(some 333),.b (.mov (.r 33)),(some (331,false)),[]⟩,⟨(some 334),.b (.iad 4 (.r 332) (.r 333)),(some (331,false)),[]⟩,⟨(some 335),.b (.fad 2 (.r 334)),(some (331,false)),[]⟩,⟨(some 336),.b (.ld 1 false (.r 335)),(some (331,false)),[]⟩,⟨(some 337),.b (.mov (.r 30)),(some (331,false)),[]⟩,⟨(some 338),.b (.mov (.r 33)),(some (331,false)),[]⟩,⟨(some 339),.b (.iad 4 (.r 337) (.r 338)),(some (331,false)),[]⟩,⟨(some 340),.b (.fad 2 (.r 339)),(some (331,false)),[]⟩,⟨(some 341),.b (.ld 1 false (.r 340)),(some (331,false)),[]⟩,⟨(some 342),.b (.bin .neq (.r 336) (.r 341)),(some (331,false)),[]⟩,op 343 (.pick (.r 331) (.c (.bool true)) (.r 342))]) <|
    .cond (.r 343)
     (sq (.ops [op 12 (.mov (.c (.bool false)))]) <|
     .ret)
     (.skip)) <|
    .ops [op 344 (.mov (.r 32)),op 345 (.ld 4 true (.r 34)),op 346 (.bsl 1 [.str ⟨#[]⟩,.int .u64 0,.str ⟨#[]⟩,.sl .nil []] [(0,(.r 345))]),op 347 (.app 4 64 false (.r 344) (.r 346)),op 32 (.mov (.r 347))])) <|
   .ops [op 262 (.mov (.r 33)),op 263 (.bin .add (.r 262) (.c (.int .i64 1))),op 33 (.mov (.r 263))]))) <|
 sq (.ops [op 348 (.mov (.r 32)),cl 349 36 [(.r 348)],op 12 (.mov (.r 349))]) <|
 .ret⟩
def an10:An:=⟨[],[]⟩
def ir10:Go.Rmp.Fn:=⟨81,0,[.t 0],
 sq (.ops [op 0 (.mov (.c (.bool false)))]) <|
 sq (.ops [cl 6 22 [],op 1 (.mov (.r 6))]) <|
 sq (sq (.ops [op 7 (.mov (.r 1)),op 8 (.eqr false .ptr (.r 7) (.c .nilp))]) <|
 .cond (.r 8)
  (sq (.ops [op 0 (.mov (.c (.bool false)))]) <|
  .ret)
  (.skip)) <|
 sq (.ops [op 9 (.mov (.r 1)),op 10 (.build [.str ⟨#[]⟩,.str ⟨#[]⟩] [(0,1,(.c (.str ⟨#[97]⟩))),(1,1,(.c (.str ⟨#[49]⟩)))]),op 11 (.bsl 1 [.str ⟨#[]⟩,.str ⟨#[]⟩] [(0,(.r 10))]),op 12 (.bsl 1 [.str ⟨#[]⟩] [(0,(.c (.str ⟨#[97]⟩)))]),cl 13 42 [(.r 9),(.c (.int .u64 65536)),(.r 11),(.r 12),(.c (.int .i64 0))]]) <|
 sq (.ops [op 14 (.mov (.r 1)),cl 15 43 [(.r 14),(.c (.int .u64 65536)),(.c (.int .i64 0))]]) <|
 sq (.ops [op 17 (.mov (.r 1)),op 18 (.bsl 1 [.nilp] [(0,(.r 17))]),op 19 (.bsl 1 [.str ⟨#[]⟩] [(0,(.c (.str ⟨#[97]⟩)))]),op 20 (.build [.int .i64 0,.int .i64 0] [(0,1,(.c (.int .i64 8))),(1,1,(.c (.int .i64 2)))]),cl 21 23 [(.r 18),(.r 19),(.r 20)],op 16 (.mov (.r 21)),op 22 (.ext 0 (.r 16)),op 23 (.ext 1 (.r 16)),op 2 (.mov (.r 22)),op 3 (.mov (.r 23))]) <|
 sq (.ops [op 25 (.mov (.r 1)),op 26 (.bsl 1 [.nilp] [(0,(.r 25))]),op 27 (.mov (.r 2)),op 28 (.build [.int .i64 0,.int .i64 0] [(0,1,(.c (.int .i64 8))),(1,1,(.c (.int .i64 2)))]),cl 29 24 [(.r 26),(.r 27),(.r 28)],op 24 (.mov (.r 29)),op 30 (.ext 0 (.r 24)),op 31 (.ext 1 (.r 24)),op 4 (.mov (.r 30)),op 5 (.mov (.r 31))]) <|
 sq (.ops [op 32 (.mov (.r 3)),op 33 (.bin .eql (.r 32) (.c (.int .i64 0))),op 34 (.mov (.r 33)),⟨(some 35),.b (.mov (.r 5)),(some (34,true)),[]⟩,⟨(some 36),.b (.bin .eql (.r 35) (.c (.int .i64 0))),(some (34,true)),[]⟩,op 37 (.pick (.r 34) (.r 36) (.c (.bool false))),op 38 (.mov (.r 37)),⟨(some 39),.b (.mov (.r 2)),(some (38,true)),[]⟩,⟨(some 40),.b (.len .sl (.r 39)),(some (38,true)),[]⟩,⟨(some 41),.b (.bin .eql (.r 40) (.c (.int .i64 1))),(some (38,true)),[]⟩,op 42 (.pick (.r 38) (.r 41) (.c (.bool false))),op 43 (.mov (.r 42)),⟨(some 44),.b (.mov (.r 4)),(some (43,true)),[]⟩,⟨(some 45),.b (.len .sl (.r 44)),(some (43,true)),[]⟩,⟨(some 46),.b (.bin .eql (.r 45) (.c (.int .i64 1))),(some (43,true)),[]⟩,op 47 (.pick (.r 43) (.r 46) (.c (.bool false))),op 48 (.mov (.r 47)),⟨(some 49),.b (.mov (.r 2)),(some (48,true)),[]⟩,⟨(some 50),.b (.iad 4 (.r 49) (.c (.int .i64 0))),(some (48,true)),[]⟩,⟨(some 51),.b (.fad 1 (.r 50)),(some (48,true)),[]⟩,⟨(some 52),.b (.ld 1 false (.r 51)),(some (48,true)),[]⟩,⟨(some 53),.b (.bin .eql (.r 52) (.c (.int .u64 65536))),(some (48,true)),[]⟩,op 54 (.pick (.r 48) (.r 53) (.c (.bool false))),op 55 (.mov (.r 54)),⟨(some 56),.b (.mov (.r 4)),(some (55,true)),[]⟩,⟨(some 57),.b (.iad 4 (.r 56) (.c (.int .i64 0))),(some (55,true)),[]⟩,⟨(some 58),.b (.fad 1 (.r 57)),(some (55,true)),[]⟩,⟨(some 59),.b (.ld 1 false (.r 58)),(some (55,true)),[]⟩,⟨(some 60),.b (.bin .eql (.r 59) (.c (.int .u64 65536))),(some (55,true)),[]⟩,op 61 (.pick (.r 55) (.r 60) (.c (.bool false))),op 62 (.mov (.r 61)),⟨(some 63),.b (.mov (.r 4)),(some (62,true)),[]⟩,⟨(some 64),.b (.iad 4 (.r 63) (.c (.int .i64 0))),(some (62,true)),[]⟩,⟨(some 65),.b (.fad 2 (.r 64)),(some (62,true)),[]⟩,⟨(some 66),.b (.ld 1 false (.r 65)),(some (62,true)),[]⟩,⟨(some 67),.b (.bin .eql (.r 66) (.c (.str ⟨#[49]⟩))),(some (62,true)),[]⟩,op 68 (.pick (.r 62) (.r 67) (.c (.bool false))),op 69 (.mov (.r 68)),⟨(some 70),.b (.mov (.r 2)),(some (69,true)),[]⟩,⟨(some 71),.b (.iad 4 (.r 70) (.c (.int .i64 0))),(some (69,true)),[]⟩,⟨(some 72),.b (.fad 3 (.r 71)),(some (69,true)),[]⟩,⟨(some 73),.b (.ld 1 false (.r 72)),(some (69,true)),[]⟩,⟨(some 74),.b (.len .sl (.r 73)),(some (69,true)),[]⟩,⟨(some 75),.b (.bin .eql (.r 74) (.c (.int .i64 6))),(some (69,true)),[]⟩,op 76 (.pick (.r 69) (.r 75) (.c (.bool false))),op 77 (.mov (.r 76)),⟨(some 78),.b (.mov (.r 2)),(some (77,true)),[]⟩,⟨(some 79),.call 16 [(.r 78)],(some (77,true)),[]⟩,op 80 (.pick (.r 77) (.r 79) (.c (.bool false))),op 0 (.mov (.r 80))]) <|
 .ret⟩
def an11:An:=⟨[],[(15,[(0,true),(1,true),(2,true),(3,true),(4,true),(5,true),(6,true),(7,false),(8,true),(9,false),(10,true)])]⟩
def ir11:Go.Rmp.Fn:=⟨75,2,[.cl 4 4 true,.t 5],
 sq (.ops [op 2 (.box (.r 0)),op 3 (.box (.r 1)),op 4 (.alloc [.str ⟨#[]⟩,.int .u64 0,.str ⟨#[]⟩,.sl .nil []]),op 5 (.mov (.c (.int .i64 0)))]) <|
 sq (.ops [op 11 (.fad 0 (.r 3)),op 12 (.ld 1 false (.r 11)),op 13 (.fad 1 (.r 3)),op 14 (.ld 1 false (.r 13)),cl 15 44 [(.r 12),(.r 14)],op 10 (.mov (.r 15)),op 16 (.ext 0 (.r 10)),op 17 (.ext 1 (.r 10)),op 6 (.mov (.r 16)),op 7 (.mov (.r 17))]) <|
 sq (sq (.ops [op 18 (.mov (.r 7)),op 19 (.bin .neq (.r 18) (.c (.int .i64 0)))]) <|
 .cond (.r 19)
  (sq (.ops [op 20 (.build [.str ⟨#[]⟩,.int .u64 0,.str ⟨#[]⟩,.sl .nil []] []),ef (.st 4 (.r 4) (.r 20)),op 5 (.mov (.c (.int .i64 1)))]) <|
  .ret)
  (.skip)) <|
 sq (sq (.ops [op 21 (.fad 1 (.r 2)),op 22 (.ld 1 false (.r 21)),op 23 (.bin .eql (.r 22) (.c (.int .u64 0)))]) <|
 .cond (.r 23)
  (sq (sq (.ops [op 24 (.fad 2 (.r 2)),op 25 (.ld 1 false (.r 24)),op 26 (.bin .neq (.r 25) (.c (.str ⟨#[]⟩))),op 27 (.mov (.r 26)),⟨(some 28),.b (.fad 3 (.r 2)),(some (27,false)),[]⟩,⟨(some 29),.b (.ld 1 false (.r 28)),(some (27,false)),[]⟩,⟨(some 30),.b (.len .sl (.r 29)),(some (27,false)),[]⟩,⟨(some 31),.b (.bin .gtr (.r 30) (.c (.int .i64 0))),(some (27,false)),[]⟩,op 32 (.pick (.r 27) (.c (.bool true)) (.r 31))]) <|
  .cond (.r 32)
   (sq (.ops [op 33 (.build [.str ⟨#[]⟩,.int .u64 0,.str ⟨#[]⟩,.sl .nil []] []),ef (.st 4 (.r 4) (.r 33)),op 5 (.mov (.c (.int .i64 1)))]) <|
   .ret)
   (.skip)) <|
  sq (.ops [op 34 (.fad 0 (.r 2)),op 35 (.ld 1 false (.r 34)),op 36 (.build [.str ⟨#[]⟩,.int .u64 0,.str ⟨#[]⟩,.sl .nil []] [(0,1,(.r 35))]),ef (.st 4 (.r 4) (.r 36)),op 5 (.mov (.c (.int .i64 0)))]) <|
  .ret)
  (.skip)) <|
 sq (sq (.ops [op 37 (.fad 1 (.r 2)),op 38 (.ld 1 false (.r 37)),op 39 (.bin .lss (.r 38) (.c (.int .u64 65536))),op 40 (.mov (.r 39)),⟨(some 41),.b (.fad 3 (.r 2)),(some (40,false)),[]⟩,⟨(some 42),.b (.ld 1 false (.r 41)),(some (40,false)),[]⟩,⟨(some 43),.call 45 [(.r 42)],(some (40,false)),[]⟩,⟨(some 44),.b (.un .not (.r 43)),(some (40,false)),[]⟩,op 45 (.pick (.r 40) (.c (.bool true)) (.r 44)),op 46 (.mov (.r 45)),⟨(some 47),.b (.fad 3 (.r 2)),(some (46,false)),[]⟩,⟨(some 48),.b (.ld 1 false (.r 47)),(some (46,false)),[]⟩,⟨(some 49),.b (.fad 0 (.r 2)),(some (46,false)),[]⟩,⟨(some 50),.b (.ld 1 false (.r 49)),(some (46,false)),[]⟩,⟨(some 51),.call 46 [(.r 48),(.r 50)],(some (46,false)),[]⟩,⟨(some 52),.b (.un .not (.r 51)),(some (46,false)),[]⟩,op 53 (.pick (.r 46) (.c (.bool true)) (.r 52))]) <|
 .cond (.r 53)
  (sq (.ops [op 54 (.build [.str ⟨#[]⟩,.int .u64 0,.str ⟨#[]⟩,.sl .nil []] []),ef (.st 4 (.r 4) (.r 54)),op 5 (.mov (.c (.int .i64 1)))]) <|
  .ret)
  (.skip)) <|
 sq (sq (.ops [op 55 (.fad 3 (.r 2)),op 56 (.ld 1 false (.r 55)),op 57 (.len .sl (.r 56)),op 58 (.mov (.c (.int .i64 0)))]) <|
 .block 0 (
  .loop (
   sq (.ops [op 59 (.bin .lss (.r 58) (.r 57))]) <|
   sq (.cond (.r 59)
    (.skip)
    (.exit 0)) <|
   sq (.block 1 (
    sq (.ops [op 60 (.iad 1 (.r 56) (.r 58)),op 61 (.ld 1 false (.r 60)),op 9 (.mov (.r 61))]) <|
    .ops [op 62 (.mov (.r 6)),op 63 (.mov (.r 9)),cl 64 47 [(.r 62),(.r 63)]])) <|
   .ops [op 65 (.bin .add (.r 58) (.c (.int .i64 1))),op 58 (.mov (.r 65))]))) <|
 sq (.ops [op 66 (.fad 0 (.r 2)),op 67 (.ld 1 false (.r 66)),op 68 (.fad 1 (.r 2)),op 69 (.ld 1 false (.r 68)),op 70 (.fad 2 (.r 2)),op 71 (.ld 1 false (.r 70)),op 72 (.mov (.r 6)),⟨(some 73),.call 48 [(.r 72)],none,[⟨67,.ld 1 false (.r 66),none⟩,⟨69,.ld 1 false (.r 68),none⟩,⟨71,.ld 1 false (.r 70),none⟩]⟩,op 74 (.build [.str ⟨#[]⟩,.int .u64 0,.str ⟨#[]⟩,.sl .nil []] [(0,1,(.r 67)),(1,1,(.r 69)),(2,1,(.r 71)),(3,1,(.r 73))]),ef (.st 4 (.r 4) (.r 74)),op 5 (.mov (.c (.int .i64 0)))]) <|
 .ret⟩
def an16:An:=⟨[],[]⟩
def ir16:Go.Rmp.Fn:=⟨11,1,[.t 2],
 sq (.ops [op 2 (.mov (.c (.bool false)))]) <|
 sq (.ops [op 6 (.mov (.r 0)),cl 7 54 [(.r 6)],op 5 (.mov (.r 7)),op 8 (.ext 0 (.r 5)),op 9 (.ext 1 (.r 5)),op 3 (.mov (.r 8)),op 4 (.mov (.r 9))]) <|
 sq (.ops [op 10 (.mov (.r 4)),op 2 (.mov (.r 10))]) <|
 .ret⟩
def an17:An:=⟨[(13,7)],[(12,[(0,true),(1,true),(2,true),(3,true),(4,true),(5,true),(6,true),(7,true),(8,true),(9,true),(10,true),(11,true),(12,true),(13,true),(14,true),(15,true),(16,false),(17,true)]),(17,[(0,true),(1,true),(2,true),(3,true),(4,false),(5,true),(6,true),(7,false),(8,false)])]⟩
def ir17:Go.Rmp.Fn:=⟨74,1,[.t 2,.t 3],
 sq (.ops [op 2 (.mov (.c (.sl .nil []))),op 3 (.mov (.c (.int .i64 0)))]) <|
 sq (.ops [op 13 (.mov (.r 0)),cl 14 54 [(.r 13)],op 12 (.mov (.r 14)),op 15 (.ext 0 (.r 12)),op 16 (.ext 1 (.r 12)),op 4 (.mov (.r 15)),op 5 (.mov (.r 16))]) <|
 sq (sq (.ops [op 17 (.mov (.r 5)),op 18 (.un .not (.r 17))]) <|
 .cond (.r 18)
  (sq (.ops [op 2 (.mov (.c (.sl .nil []))),op 3 (.mov (.c (.int .i64 1)))]) <|
  .ret)
  (.skip)) <|
 sq (.ops [op 6 (.mov (.c (.sl .nil [])))]) <|
 sq (sq (.ops [op 19 (.mov (.r 0)),op 20 (.len .sl (.r 19)),op 21 (.mov (.c (.int .i64 0)))]) <|
 .block 0 (
  .loop (
   sq (.ops [op 22 (.bin .lss (.r 21) (.r 20))]) <|
   sq (.cond (.r 22)
    (.skip)
    (.exit 0)) <|
   sq (.block 1 (
    sq (.ops [op 23 (.iad 4 (.r 19) (.r 21)),op 24 (.ld 4 true (.r 23)),op 8 (.alloc [.str ⟨#[]⟩,.int .u64 0,.str ⟨#[]⟩,.sl .nil []]),ef (.st 4 (.r 8) (.r 24))]) <|
    sq (.ops [op 9 (.mov (.c (.sl .nil [])))]) <|
    sq (sq (.ops [op 25 (.mov (.r 4)),op 26 (.len .sl (.r 25)),op 27 (.mov (.c (.int .i64 0)))]) <|
    .block 2 (
     .loop (
      sq (.ops [op 28 (.bin .lss (.r 27) (.r 26))]) <|
      sq (.cond (.r 28)
       (.skip)
       (.exit 2)) <|
      sq (.block 3 (
       sq (.ops [op 29 (.mov (.r 27)),op 30 (.iad 1 (.r 25) (.r 27)),op 31 (.ld 1 false (.r 30)),op 10 (.mov (.r 29)),op 11 (.mov (.r 31))]) <|
       sq (.ops [op 32 (.mov (.r 11)),op 33 (.eqr true .ptr (.r 32) (.c .nilp)),op 34 (.mov (.r 33)),⟨(some 35),.b (.mov (.r 0)),(some (34,true)),[]⟩,⟨(some 36),.b (.mov (.r 10)),(some (34,true)),[]⟩,⟨(some 37),.b (.iad 4 (.r 35) (.r 36)),(some (34,true)),[]⟩,⟨(some 38),.b (.fad 1 (.r 37)),(some (34,true)),[]⟩,⟨(some 39),.b (.ld 1 false (.r 38)),(some (34,true)),[]⟩,⟨(some 40),.b (.fad 1 (.r 8)),(some (34,true)),[]⟩,⟨(some 41),.b (.ld 1 false (.r 40)),(some (34,true)),[]⟩,⟨(some 42),.b (.bin .gtr (.r 39) (.r 41)),(some (34,true)),[]⟩,op 43 (.pick (.r 34) (.r 42) (.c (.bool false))),op 44 (.mov (.r 43)),⟨(some 45),.b (.mov (.r 11)),(some (44,true)),[]⟩,⟨(some 46),.b (.fad 0 (.r 8)),(some (44,true)),[]⟩,⟨(some 47),.b (.ld 1 false (.r 46)),(some (44,true)),[]⟩,⟨(some 48),.call 55 [(.r 45),(.r 47)],(some (44,true)),[]⟩,op 49 (.pick (.r 44) (.r 48) (.c (.bool false)))]) <|
       .cond (.r 49)
        (.ops [op 50 (.mov (.r 9)),op 51 (.mov (.r 0)),op 52 (.mov (.r 10)),op 53 (.iad 4 (.r 51) (.r 52)),op 54 (.fad 1 (.r 53)),op 55 (.ld 1 false (.r 54)),op 56 (.bsl 1 [.int .u64 0] [(0,(.r 55))]),op 57 (.app 1 8 true (.r 50) (.r 56)),op 9 (.mov (.r 57))])
        (.skip))) <|
      .ops [op 58 (.bin .add (.r 27) (.c (.int .i64 1))),op 27 (.mov (.r 58))]))) <|
    sq (.ops [op 59 (.mov (.r 9)),op 60 (.len .sl (.r 59)),op 61 (.bin .gtr (.r 60) (.c (.int .i64 0)))]) <|
    .cond (.r 61)
     (sq (.ops [op 62 (.mov (.r 9)),cl 63 56 [(.r 62)]]) <|
     .ops [op 64 (.mov (.r 6)),op 65 (.fad 0 (.r 8)),op 66 (.ld 1 false (.r 65)),op 67 (.mov (.r 9)),⟨(some 68),.call 57 [(.r 67)],none,[⟨66,.ld 1 false (.r 65),none⟩]⟩,op 69 (.build [.str ⟨#[]⟩,.sl .nil []] [(0,1,(.r 66)),(1,1,(.r 68))]),op 70 (.bsl 1 [.str ⟨#[]⟩,.sl .nil []] [(0,(.r 69))]),op 71 (.app 2 40 false (.r 64) (.r 70)),op 6 (.mov (.r 71))])
     (.skip))) <|
   .ops [op 72 (.bin .add (.r 21) (.c (.int .i64 1))),op 21 (.mov (.r 72))]))) <|
 sq (.ops [op 73 (.mov (.r 6)),op 2 (.mov (.r 73)),op 3 (.mov (.c (.int .i64 0)))]) <|
 .ret⟩
def an22:An:=⟨[],[]⟩
def ir22:Go.Rmp.Fn:=⟨7,0,[.t 0],
 sq (.ops [op 0 (.mov (.c .nilp))]) <|
 sq (.ops [op 1 (.mkm),op 2 (.mkm),op 3 (.mkm),op 4 (.mkm),op 5 (.build [.nilm,.nilm,.nilm,.nilm] [(0,1,(.r 1)),(1,1,(.r 2)),(2,1,(.r 3)),(3,1,(.r 4))]),op 6 (.box (.r 5)),op 0 (.mov (.r 6))]) <|
 .ret⟩
def an23:An:=⟨[],[(9,[(0,true),(1,true),(3,true),(5,true),(10,true),(2,false),(4,false),(6,false),(7,true),(8,true),(9,true),(11,false),(12,true)])]⟩
def ir23:Go.Rmp.Fn:=⟨49,3,[.t 6,.t 7],
 sq (.ops [op 5 (.box (.r 2)),op 6 (.mov (.c (.sl .nil []))),op 7 (.mov (.c (.int .i64 0)))]) <|
 sq (sq (.ops [op 13 (.mov (.r 0)),cl 14 62 [(.r 13)],op 15 (.un .not (.r 14)),op 16 (.mov (.r 15)),⟨(some 17),.b (.ld 2 true (.r 5)),(some (16,false)),[]⟩,⟨(some 18),.call 63 [(.r 17)],(some (16,false)),[]⟩,⟨(some 19),.b (.un .not (.r 18)),(some (16,false)),[]⟩,op 20 (.pick (.r 16) (.c (.bool true)) (.r 19))]) <|
 .cond (.r 20)
  (sq (.ops [op 6 (.mov (.c (.sl .nil []))),op 7 (.mov (.c (.int .i64 1)))]) <|
  .ret)
  (.skip)) <|
 sq (sq (.ops [op 21 (.mov (.r 1)),cl 22 64 [(.r 21)],op 23 (.un .not (.r 22))]) <|
 .cond (.r 23)
  (sq (.ops [op 6 (.mov (.c (.sl .nil []))),op 7 (.mov (.c (.int .i64 40)))]) <|
  .ret)
  (.skip)) <|
 sq (.ops [op 8 (.mov (.c (.sl .nil [])))]) <|
 sq (sq (.ops [op 24 (.mov (.r 1)),op 25 (.len .sl (.r 24)),op 26 (.mov (.c (.int .i64 0)))]) <|
 .block 0 (
  .loop (
   sq (.ops [op 27 (.bin .lss (.r 26) (.r 25))]) <|
   sq (.cond (.r 27)
    (.skip)
    (.exit 0)) <|
   sq (.block 1 (
    sq (.ops [op 28 (.iad 1 (.r 24) (.r 26)),op 29 (.ld 1 false (.r 28)),op 10 (.mov (.r 29))]) <|
    sq (.ops [op 31 (.mov (.r 0)),op 32 (.mov (.r 10)),op 34 (.mov (.r 10)),op 36 (.ld 2 true (.r 5)),op 11 (.alloc [.str ⟨#[]⟩,.int .u64 0,.str ⟨#[]⟩,.sl .nil []]),⟨(some 33),.call 65 [(.r 31),(.r 32)],none,[⟨36,.ld 2 true (.r 5),none⟩]⟩,⟨(some 35),.call 66 [(.r 33),(.r 34)],none,[⟨36,.ld 2 true (.r 5),none⟩]⟩,cl 37 11 [(.r 35),(.r 36)],op 30 (.mov (.r 37)),op 38 (.ext 0 (.r 30)),op 39 (.ext 1 (.r 30)),ef (.st 4 (.r 11) (.r 38)),op 12 (.mov (.r 39))]) <|
    sq (sq (.ops [op 40 (.mov (.r 12)),op 41 (.bin .neq (.r 40) (.c (.int .i64 0)))]) <|
    .cond (.r 41)
     (sq (.ops [op 42 (.mov (.r 12)),op 6 (.mov (.c (.sl .nil []))),op 7 (.mov (.r 42))]) <|
     .ret)
     (.skip)) <|
    .ops [op 43 (.mov (.r 8)),op 44 (.ld 4 true (.r 11)),op 45 (.bsl 1 [.str ⟨#[]⟩,.int .u64 0,.str ⟨#[]⟩,.sl .nil []] [(0,(.r 44))]),op 46 (.app 4 64 false (.r 43) (.r 45)),op 8 (.mov (.r 46))])) <|
   .ops [op 47 (.bin .add (.r 26) (.c (.int .i64 1))),op 26 (.mov (.r 47))]))) <|
 sq (.ops [op 48 (.mov (.r 8)),op 6 (.mov (.r 48)),op 7 (.mov (.c (.int .i64 0)))]) <|
 .ret⟩
def an24:An:=⟨[],[(11,[(0,true),(1,true),(2,true),(3,true),(4,true),(5,true),(6,true),(7,true),(8,true),(9,true),(10,true),(11,true)]),(12,[(0,true),(1,true),(2,true),(4,true),(5,true),(6,true),(7,true),(8,true),(9,true),(14,true),(3,false),(10,false),(11,true),(12,true),(13,true),(15,false),(16,true)])]⟩
def ir24:Go.Rmp.Fn:=⟨91,3,[.t 6,.t 7],
 sq (.ops [op 5 (.box (.r 2)),op 6 (.mov (.c (.sl .nil []))),op 7 (.mov (.c (.int .i64 0)))]) <|
 sq (sq (.ops [op 15 (.mov (.r 0)),cl 16 62 [(.r 15)],op 17 (.un .not (.r 16)),op 18 (.mov (.r 17)),⟨(some 19),.b (.ld 2 true (.r 5)),(some (18,false)),[]⟩,⟨(some 20),.call 63 [(.r 19)],(some (18,false)),[]⟩,⟨(some 21),.b (.un .not (.r 20)),(some (18,false)),[]⟩,op 22 (.pick (.r 18) (.c (.bool true)) (.r 21))]) <|
 .cond (.r 22)
  (sq (.ops [op 6 (.mov (.c (.sl .nil []))),op 7 (.mov (.c (.int .i64 1)))]) <|
  .ret)
  (.skip)) <|
 sq (.ops [op 24 (.mov (.r 1)),cl 25 17 [(.r 24)],op 23 (.mov (.r 25)),op 26 (.ext 0 (.r 23)),op 27 (.ext 1 (.r 23)),op 8 (.mov (.r 26)),op 9 (.mov (.r 27))]) <|
 sq (sq (.ops [op 28 (.mov (.r 9)),op 29 (.bin .neq (.r 28) (.c (.int .i64 0)))]) <|
 .cond (.r 29)
  (sq (.ops [op 30 (.mov (.r 9)),op 6 (.mov (.c (.sl .nil []))),op 7 (.mov (.r 30))]) <|
  .ret)
  (.skip)) <|
 sq (.ops [op 10 (.mov (.c (.sl .nil [])))]) <|
 sq (sq (.ops [op 31 (.mov (.r 1)),op 32 (.len .sl (.r 31)),op 33 (.mov (.c (.int .i64 0)))]) <|
 .block 0 (
  .loop (
   sq (.ops [op 34 (.bin .lss (.r 33) (.r 32))]) <|
   sq (.cond (.r 34)
    (.skip)
    (.exit 0)) <|
   sq (.block 1 (
    sq (.ops [op 35 (.iad 4 (.r 31) (.r 33)),op 36 (.ld 4 true (.r 35)),op 12 (.alloc [.str ⟨#[]⟩,.int .u64 0,.str ⟨#[]⟩,.sl .nil []]),ef (.st 4 (.r 12) (.r 36))]) <|
    sq (.ops [op 37 (.fad 3 (.r 12)),op 38 (.ld 1 false (.r 37)),cl 39 67 [(.r 38)],op 40 (.fad 3 (.r 12)),ef (.st 1 (.r 40) (.r 39))]) <|
    sq (sq (.ops [op 41 (.mov (.r 8)),op 42 (.len .sl (.r 41)),op 43 (.bin .gtr (.r 42) (.c (.int .i64 0))),op 44 (.mov (.r 43)),⟨(some 45),.b (.mov (.r 8)),(some (44,true)),[]⟩,⟨(some 46),.b (.iad 2 (.r 45) (.c (.int .i64 0))),(some (44,true)),[]⟩,⟨(some 47),.b (.fad 0 (.r 46)),(some (44,true)),[]⟩,⟨(some 48),.b (.ld 1 false (.r 47)),(some (44,true)),[]⟩,⟨(some 49),.b (.fad 0 (.r 12)),(some (44,true)),[]⟩,⟨(some 50),.b (.ld 1 false (.r 49)),(some (44,true)),[]⟩,⟨(some 51),.b (.bin .eql (.r 48) (.r 50)),(some (44,true)),[]⟩,op 52 (.pick (.r 44) (.r 51) (.c (.bool false)))]) <|
    .cond (.r 52)
     (sq (.ops [op 54 (.mov (.r 0)),op 55 (.fad 0 (.r 12)),op 56 (.ld 1 false (.r 55)),op 58 (.fad 0 (.r 12)),op 59 (.ld 1 false (.r 58)),op 60 (.mov (.r 8)),op 61 (.iad 2 (.r 60) (.c (.int .i64 0))),op 62 (.fad 1 (.r 61)),op 63 (.ld 1 false (.r 62)),op 13 (.alloc [.str ⟨#[]⟩,.int .u64 0,.str ⟨#[]⟩,.sl .nil []]),⟨(some 57),.call 65 [(.r 54),(.r 56)],none,[⟨59,.ld 1 false (.r 58),none⟩,⟨63,.ld 1 false (.r 62),none⟩]⟩,cl 64 68 [(.r 57),(.r 59),(.r 63)],op 53 (.mov (.r 64)),op 65 (.ext 0 (.r 53)),op 66 (.ext 1 (.r 53)),ef (.st 4 (.r 13) (.r 65)),op 14 (.mov (.r 66))]) <|
     sq (sq (.ops [op 67 (.mov (.r 14)),op 68 (.bin .eql (.r 67) (.c (.int .i64 0))),op 69 (.mov (.r 68)),⟨(some 70),.b (.fad 1 (.r 13)),(some (69,true)),[]⟩,⟨(some 71),.b (.ld 1 false (.r 70)),(some (69,true)),[]⟩,⟨(some 72),.b (.bin .neq (.r 71) (.c (.int .u64 0))),(some (69,true)),[]⟩,op 73 (.pick (.r 69) (.r 72) (.c (.bool false)))]) <|
     .cond (.r 73)
      (.ops [op 75 (.ld 4 true (.r 13)),op 76 (.ld 2 true (.r 5)),cl 77 11 [(.r 75),(.r 76)],op 74 (.mov (.r 77)),op 78 (.ext 0 (.r 74)),op 79 (.ext 1 (.r 74)),ef (.st 4 (.r 12) (.r 78)),op 14 (.mov (.r 79))])
      (.skip)) <|
     sq (sq (.ops [op 80 (.mov (.r 14)),op 81 (.bin .neq (.r 80) (.c (.int .i64 0)))]) <|
     .cond (.r 81)
      (sq (.ops [op 82 (.mov (.r 14)),op 6 (.mov (.c (.sl .nil []))),op 7 (.mov (.r 82))]) <|
      .ret)
      (.skip)) <|
     .ops [op 83 (.mov (.r 8)),op 84 (.sll 2 (.r 83) (some (.c (.int .i64 1))) none none),op 8 (.mov (.r 84))])
     (.skip)) <|
    .ops [op 85 (.mov (.r 10)),op 86 (.ld 4 true (.r 12)),op 87 (.bsl 1 [.str ⟨#[]⟩,.int .u64 0,.str ⟨#[]⟩,.sl .nil []] [(0,(.r 86))]),op 88 (.app 4 64 false (.r 85) (.r 87)),op 10 (.mov (.r 88))])) <|
   .ops [op 89 (.bin .add (.r 33) (.c (.int .i64 1))),op 33 (.mov (.r 89))]))) <|
 sq (.ops [op 90 (.mov (.r 10)),op 6 (.mov (.r 90)),op 7 (.mov (.c (.int .i64 0)))]) <|
 .ret⟩
def an25:An:=⟨[],[]⟩
def ir25:Go.Rmp.Fn:=⟨12,2,[.t 4,.t 5],
 sq (.ops [op 4 (.mov (.c (.int .i64 0))),op 5 (.mov (.c (.int .i64 0)))]) <|
 sq (sq (.ops [op 6 (.mov (.r 1)),cl 7 69 [(.r 6)],op 8 (.un .not (.r 7))]) <|
 .cond (.r 8)
  (sq (.ops [op 4 (.mov (.c (.int .i64 0))),op 5 (.mov (.c (.int .i64 1)))]) <|
  .ret)
  (.skip)) <|
 sq (.ops [op 9 (.mov (.r 0)),op 10 (.mov (.r 1)),cl 11 70 [(.r 9),(.r 10)],op 4 (.mov (.r 11)),op 5 (.mov (.c (.int .i64 0)))]) <|
 .ret⟩
def an26:An:=⟨[],[(9,[(0,true),(1,true),(2,true),(3,true),(4,true),(5,false),(6,true),(7,false),(8,true),(9,true),(10,false)])]⟩
def ir26:Go.Rmp.Fn:=⟨38,1,[.t 2],
 sq (.ops [op 2 (.mov (.c .nilp))]) <|
 sq (.ops [op 6 (.build [.sl .nil [],.sl .nil [],.int .u8 0,.int .u8 0,.int .u8 0,.int .u8 0,.int .u8 0,.int .u8 0,.int .u8 0,.int .u8 0,.int .u8 0,.int .u8 0,.int .u8 0,.int .u8 0,.int .u8 0,.int .u8 0,.int .u8 0,.int .u8 0] []),op 7 (.box (.r 6)),op 3 (.mov (.r 7))]) <|
 sq (sq (.ops [op 4 (.mov (.c (.int .i64 0)))]) <|
 .block 0 (
  .loop (
   sq (sq (.ops [op 8 (.mov (.r 4)),op 9 (.mov (.r 0)),op 10 (.bin .and (.r 9) (.c (.int .i64 7))),op 11 (.bin .leq (.r 8) (.r 10))]) <|
   .cond (.r 11)
    (.skip)
    (.exit 0)) <|
   sq (.block 1 (
    sq (.ops [cl 14 22 [],op 5 (.mov (.r 14))]) <|
    sq (sq (.ops [op 15 (.mov (.r 5)),op 16 (.eqr false .ptr (.r 15) (.c .nilp))]) <|
    .cond (.r 16)
     (sq (.ops [op 2 (.mov (.c .nilp))]) <|
     .ret)
     (.skip)) <|
    sq (.ops [op 17 (.mov (.r 3)),op 18 (.mov (.r 3)),op 19 (.nilc (.r 18)),op 20 (.fad 0 (.r 19)),op 21 (.ld 1 false (.r 20)),op 22 (.mov (.r 5)),op 23 (.bsl 1 [.nilp] [(0,(.r 22))]),op 24 (.app 1 8 false (.r 21) (.r 23)),op 25 (.nilc (.r 17)),op 26 (.fad 0 (.r 25)),ef (.st 1 (.r 26) (.r 24))]) <|
    .ops [op 27 (.mov (.r 3)),op 28 (.mov (.r 3)),op 29 (.nilc (.r 28)),op 30 (.fad 1 (.r 29)),op 31 (.ld 1 false (.r 30)),⟨(some 32),.call 71 [],none,[⟨31,.ld 1 false (.r 30),none⟩]⟩,op 33 (.bsl 1 [.nilp] [(0,(.r 32))]),op 34 (.app 1 8 false (.r 31) (.r 33)),op 35 (.nilc (.r 27)),op 36 (.fad 1 (.r 35)),ef (.st 1 (.r 36) (.r 34))])) <|
   .ops [op 12 (.mov (.r 4)),op 13 (.bin .add (.r 12) (.c (.int .i64 1))),op 4 (.mov (.r 13))]))) <|
 sq (.ops [op 37 (.mov (.r 3)),op 2 (.mov (.r 37))]) <|
 .ret⟩
def an27:An:=⟨[],[(6,[(0,true),(1,true),(2,true),(3,true),(4,true),(5,true),(6,true),(7,false)]),(10,[(0,true),(1,true),(2,true),(3,true),(4,true),(5,true),(6,true),(7,true),(8,true),(9,false),(10,true),(11,true),(12,true),(13,true),(14,true)]),(11,[(0,true),(1,true),(2,true),(3,true),(4,true),(5,true),(6,true),(7,true),(8,true),(9,true),(10,true),(11,true),(12,true),(13,true),(14,true),(15,true),(16,true),(17,true),(18,true)]),(12,[(0,true),(1,true),(2,true),(3,true),(4,true),(5,true),(6,true),(7,true),(9,true),(10,true),(8,false),(11,false)]),(13,[(0,true),(1,true),(2,true),(3,true),(4,true),(5,true),(6,true),(7,true),(9,true),(10,true),(8,false),(11,false)]),(16,[(0,true),(1,true),(2,true),(3,true),(4,true),(5,true),(6,true),(7,true),(8,true),(9,true)]),(17,[(0,true),(1,true),(2,true),(3,true),(4,true),(5,true),(6,true),(7,true),(8,false),(9,false)]),(18,[(0,true),(1,true),(2,true),(3,true),(4,true),(5,true),(6,true),(7,true),(8,false),(9,false)]),(23,[(0,true),(1,true),(2,true),(3,true),(4,true),(5,true),(6,true),(7,true),(8,true),(9,false),(10,false)]),(24,[(0,true),(1,true),(2,true),(3,true),(4,true),(5,true),(6,true),(7,true),(8,true),(9,false),(10,false)])]⟩
def ir27:Go.Rmp.Fn:=⟨192,2,[],
 sq (.ops [op 3 (.box (.r 1))]) <|
 sq (.ops [op 14 (.fad 1 (.r 3)),op 15 (.ld 1 false (.r 14)),op 16 (.bin .and (.r 15) (.c (.int .u64 15))),op 4 (.mov (.r 16))]) <|
 sq (.ops [op 17 (.fad 0 (.r 3)),op 18 (.ld 1 false (.r 17))]) <|
 .block 0 (
  sq (.ops [op 20 (.bin .eql (.r 18) (.c (.int .i64 1))),op 19 (.mov (.r 20))]) <|
  .cond (.r 19)
   (sq (.ops [op 21 (.fad 2 (.r 3)),op 22 (.ld 1 false (.r 21)),cl 23 28 [(.r 22)],op 5 (.mov (.r 23))]) <|
   sq (sq (.ops [op 24 (.mov (.r 0)),op 25 (.mov (.r 4)),op 26 (.nilc (.r 24)),op 27 (.fad 2 (.r 26)),op 28 (.iaa 16 1 (.r 27) (.r 25)),op 29 (.ld 1 false (.r 28)),op 30 (.bin .neq (.r 29) (.c (.int .u8 0))),op 31 (.mov (.r 30)),⟨(some 32),.b (.mov (.r 5)),(some (31,false)),[]⟩,⟨(some 33),.b (.len .sl (.r 32)),(some (31,false)),[]⟩,⟨(some 34),.b (.bin .eql (.r 33) (.c (.int .i64 0))),(some (31,false)),[]⟩,op 35 (.pick (.r 31) (.c (.bool true)) (.r 34))]) <|
   .cond (.r 35)
    (.ret)
    (.skip)) <|
   sq (.ops [op 36 (.mov (.r 0)),op 37 (.mov (.r 4)),op 38 (.fad 2 (.r 3)),op 39 (.ld 1 false (.r 38)),op 40 (.nilc (.r 36)),op 41 (.fad 2 (.r 40)),op 42 (.iaa 16 1 (.r 41) (.r 37)),ef (.st 1 (.r 42) (.r 39))]) <|
   sq (.ops [op 6 (.mov (.c (.int .i64 0)))]) <|
   .block 1 (
    .loop (
     sq (sq (.ops [op 43 (.mov (.r 6)),op 44 (.mov (.r 5)),op 45 (.len .sl (.r 44)),op 46 (.bin .lss (.r 43) (.r 45))]) <|
     .cond (.r 46)
      (.skip)
      (.exit 1)) <|
     sq (.block 2 (
      sq (.ops [op 50 (.mov (.r 5)),op 51 (.mov (.r 6)),op 52 (.iad 1 (.r 50) (.r 51)),op 53 (.ld 1 false (.r 52)),op 54 (.mov (.r 0)),op 55 (.nilc (.r 54)),op 56 (.fad 0 (.r 55)),op 57 (.ld 1 false (.r 56)),op 58 (.len .sl (.r 57)),cl 59 72 [(.r 53),(.r 58)],op 49 (.mov (.r 59)),op 60 (.ext 0 (.r 49)),op 61 (.ext 1 (.r 49)),op 7 (.mov (.r 60)),op 8 (.mov (.r 61))]) <|
      sq (.ops [op 62 (.mov (.r 5)),op 63 (.mov (.r 6)),op 64 (.iad 1 (.r 62) (.r 63)),op 65 (.ld 1 false (.r 64)),op 66 (.fad 3 (.r 3)),op 67 (.ld 1 false (.r 66)),op 68 (.fad 3 (.r 3)),op 69 (.ld 1 false (.r 68)),op 70 (.len .str (.r 69)),op 71 (.mn (.r 70) (.c (.int .i64 300))),op 72 (.sls (.r 67) none (some (.r 71))),op 73 (.mov (.r 5)),op 74 (.mov (.r 6)),op 75 (.iad 1 (.r 73) (.r 74)),op 76 (.ld 1 false (.r 75)),op 77 (.bin .add (.r 72) (.r 76)),op 78 (.build [.str ⟨#[]⟩,.str ⟨#[]⟩] [(0,1,(.r 65)),(1,1,(.r 77))]),op 79 (.bsl 1 [.str ⟨#[]⟩,.str ⟨#[]⟩] [(0,(.r 78))]),op 9 (.mov (.r 79))]) <|
      sq (.ops [op 80 (.mov (.r 0)),op 81 (.nilc (.r 80)),op 82 (.fad 0 (.r 81)),op 83 (.ld 1 false (.r 82)),op 84 (.mov (.r 7)),op 85 (.iad 1 (.r 83) (.r 84)),op 86 (.ld 1 false (.r 85)),op 87 (.ld 5 true (.r 3)),op 89 (.mov (.r 9)),op 90 (.mov (.r 5)),⟨(some 88),.call 73 [(.r 87)],none,[⟨83,.ld 1 false (.r 82),none⟩,⟨86,.ld 1 false (.r 85),none⟩]⟩,cl 91 42 [(.r 86),(.r 88),(.r 89),(.r 90),(.c (.int .i64 0))]]) <|
      .ops [op 92 (.mov (.r 0)),op 93 (.nilc (.r 92)),op 94 (.fad 1 (.r 93)),op 95 (.ld 1 false (.r 94)),op 96 (.mov (.r 7)),op 97 (.iad 1 (.r 95) (.r 96)),op 98 (.ld 1 false (.r 97)),op 99 (.ld 5 true (.r 3)),op 101 (.mov (.r 9)),op 102 (.mov (.r 5)),⟨(some 100),.call 73 [(.r 99)],none,[⟨95,.ld 1 false (.r 94),none⟩,⟨98,.ld 1 false (.r 97),none⟩]⟩,cl 103 74 [(.r 98),(.r 100),(.r 101),(.r 102),(.c (.int .i64 0))]])) <|
     .ops [op 47 (.mov (.r 6)),op 48 (.bin .add (.r 47) (.c (.int .i64 1))),op 6 (.mov (.r 48))])))
   (sq (.ops [op 105 (.bin .eql (.r 18) (.c (.int .i64 2))),op 104 (.mov (.r 105))]) <|
   .cond (.r 104)
    (sq (.ops [op 106 (.mov (.r 0)),op 107 (.mov (.r 4)),op 108 (.nilc (.r 106)),op 109 (.fad 2 (.r 108)),op 110 (.iaa 16 1 (.r 109) (.r 107)),op 111 (.ld 1 false (.r 110)),op 112 (.bin .neq (.r 111) (.c (.int .u8 0)))]) <|
    .cond (.r 112)
     (sq (.ops [op 113 (.fad 4 (.r 3)),op 114 (.ld 1 false (.r 113)),op 115 (.bin .and (.r 114) (.c (.int .i64 65535))),op 116 (.mov (.r 0)),op 117 (.nilc (.r 116)),op 118 (.fad 0 (.r 117)),op 119 (.ld 1 false (.r 118)),op 120 (.len .sl (.r 119)),op 121 (.bin .rem (.r 115) (.r 120)),op 10 (.mov (.r 121))]) <|
     sq (.ops [op 122 (.mov (.r 0)),op 123 (.nilc (.r 122)),op 124 (.fad 0 (.r 123)),op 125 (.ld 1 false (.r 124)),op 126 (.mov (.r 10)),op 127 (.iad 1 (.r 125) (.r 126)),op 128 (.ld 1 false (.r 127)),op 129 (.ld 5 true (.r 3)),⟨(some 130),.call 73 [(.r 129)],none,[⟨125,.ld 1 false (.r 124),none⟩,⟨128,.ld 1 false (.r 127),none⟩]⟩,cl 131 43 [(.r 128),(.r 130),(.c (.int .i64 0))]]) <|
     .ops [op 132 (.mov (.r 0)),op 133 (.nilc (.r 132)),op 134 (.fad 1 (.r 133)),op 135 (.ld 1 false (.r 134)),op 136 (.mov (.r 10)),op 137 (.iad 1 (.r 135) (.r 136)),op 138 (.ld 1 false (.r 137)),op 139 (.ld 5 true (.r 3)),⟨(some 140),.call 73 [(.r 139)],none,[⟨135,.ld 1 false (.r 134),none⟩,⟨138,.ld 1 false (.r 137),none⟩]⟩,cl 141 75 [(.r 138),(.r 140),(.c (.int .i64 0))]])
     (.skip))
    (sq (.ops [op 143 (.bin .eql (.r 18) (.c (.int .i64 3))),op 142 (.mov (.r 143))]) <|
    .cond (.r 142)
     (sq (.ops [op 144 (.mov (.r 0)),op 145 (.mov (.r 4)),op 146 (.nilc (.r 144)),op 147 (.fad 2 (.r 146)),op 148 (.iaa 16 1 (.r 147) (.r 145)),op 149 (.ld 1 false (.r 148)),op 150 (.bin .neq (.r 149) (.c (.int .u8 0)))]) <|
     .cond (.r 150)
      (sq (.ops [op 151 (.mov (.r 0)),op 152 (.mov (.r 4)),op 153 (.nilc (.r 151)),op 154 (.fad 2 (.r 153)),op 155 (.iaa 16 1 (.r 154) (.r 152)),op 156 (.ld 1 false (.r 155)),cl 157 28 [(.r 156)],op 158 (.iad 1 (.r 157) (.c (.int .i64 0))),op 159 (.ld 1 false (.r 158)),op 11 (.mov (.r 159))]) <|
      sq (.ops [op 161 (.mov (.r 11)),op 162 (.mov (.r 0)),op 163 (.nilc (.r 162)),op 164 (.fad 0 (.r 163)),op 165 (.ld 1 false (.r 164)),op 166 (.len .sl (.r 165)),cl 167 72 [(.r 161),(.r 166)],op 160 (.mov (.r 167)),op 168 (.ext 0 (.r 160)),op 169 (.ext 1 (.r 160)),op 12 (.mov (.r 168)),op 13 (.mov (.r 169))]) <|
      sq (.ops [op 170 (.mov (.r 0)),op 171 (.nilc (.r 170)),op 172 (.fad 0 (.r 171)),op 173 (.ld 1 false (.r 172)),op 174 (.mov (.r 12)),op 175 (.iad 1 (.r 173) (.r 174)),op 176 (.ld 1 false (.r 175)),op 177 (.mov (.r 11)),op 178 (.ld 5 true (.r 3)),⟨(some 179),.call 73 [(.r 178)],none,[⟨173,.ld 1 false (.r 172),none⟩,⟨176,.ld 1 false (.r 175),none⟩]⟩,cl 180 76 [(.r 176),(.r 177),(.r 179)]]) <|
      .ops [op 181 (.mov (.r 0)),op 182 (.nilc (.r 181)),op 183 (.fad 1 (.r 182)),op 184 (.ld 1 false (.r 183)),op 185 (.mov (.r 12)),op 186 (.iad 1 (.r 184) (.r 185)),op 187 (.ld 1 false (.r 186)),op 188 (.mov (.r 11)),op 189 (.ld 5 true (.r 3)),⟨(some 190),.call 73 [(.r 189)],none,[⟨184,.ld 1 false (.r 183),none⟩,⟨187,.ld 1 false (.r 186),none⟩]⟩,cl 191 77 [(.r 187),(.r 188),(.r 190)]])
      (.skip))
     (.skip))))⟩
def an28:An:=⟨[],[]⟩
def ir28:Go.Rmp.Fn:=⟨24,1,[.t 2],
 sq (.ops [op 2 (.mov (.c (.sl .nil [])))]) <|
 sq (.ops [op 6 (.bsl 8 [.str ⟨#[]⟩] [(0,(.c (.str ⟨#[]⟩))),(1,(.c (.str ⟨#[97]⟩))),(2,(.c (.str ⟨#[98]⟩))),(3,(.c (.str ⟨#[99]⟩))),(4,(.c (.str ⟨#[100]⟩))),(5,(.c (.str ⟨#[101]⟩))),(6,(.c (.str ⟨#[102]⟩))),(7,(.c (.str ⟨#[103]⟩)))]),op 3 (.mov (.r 6))]) <|
 sq (.ops [op 4 (.mov (.c (.sl .nil [])))]) <|
 sq (sq (.ops [op 5 (.mov (.c (.int .i64 0)))]) <|
 .block 0 (
  .loop (
   sq (sq (.ops [op 7 (.mov (.r 5)),op 8 (.bin .lss (.r 7) (.c (.int .i64 8)))]) <|
   .cond (.r 8)
    (.skip)
    (.exit 0)) <|
   sq (.block 1 (
    sq (.ops [op 11 (.mov (.r 0)),op 12 (.mov (.r 5)),op 13 (.bin .shr (.r 11) (.r 12)),op 14 (.bin .and (.r 13) (.c (.int .u8 1))),op 15 (.bin .eql (.r 14) (.c (.int .u8 1)))]) <|
    .cond (.r 15)
     (.ops [op 16 (.mov (.r 4)),op 17 (.mov (.r 3)),op 18 (.mov (.r 5)),op 19 (.iad 1 (.r 17) (.r 18)),op 20 (.ld 1 false (.r 19)),op 21 (.bsl 1 [.str ⟨#[]⟩] [(0,(.r 20))]),op 22 (.app 1 16 false (.r 16) (.r 21)),op 4 (.mov (.r 22))])
     (.skip))) <|
   .ops [op 9 (.mov (.r 5)),op 10 (.bin .add (.r 9) (.c (.int .i64 1))),op 5 (.mov (.r 10))]))) <|
 sq (.ops [op 23 (.mov (.r 4)),op 2 (.mov (.r 23))]) <|
 .ret⟩
def an31:An:=⟨[],[(5,[(0,true),(1,true),(2,true),(3,true),(4,true),(5,true),(6,true),(7,true),(8,true),(9,false),(10,true),(11,true),(12,true),(13,true),(14,true)]),(6,[(0,true),(1,true),(2,true),(3,true),(4,true),(5,true),(6,true),(7,true),(8,true),(9,true),(10,true),(11,true),(12,false),(13,true),(14,false),(15,false)])]⟩
def ir31:Go.Rmp.Fn:=⟨44,2,[.t 4],
 sq (.ops [op 4 (.mov (.c (.sl .nil [])))]) <|
 sq (.ops [op 5 (.mov (.c (.sl .nil [])))]) <|
 sq (sq (.ops [op 6 (.mov (.c (.int .i64 0)))]) <|
 .block 0 (
  .loop (
   sq (sq (.ops [op 9 (.mov (.r 6)),op 10 (.mov (.r 1)),op 11 (.len .sl (.r 10)),op 12 (.bin .lss (.r 9) (.r 11))]) <|
   .cond (.r 12)
    (.skip)
    (.exit 0)) <|
   sq (.block 1 (
    sq (.ops [op 16 (.mov (.r 1)),op 17 (.mov (.r 6)),op 18 (.iad 1 (.r 16) (.r 17)),op 19 (.ld 1 false (.r 18)),op 20 (.mov (.r 0)),op 21 (.nilc (.r 20)),op 22 (.fad 0 (.r 21)),op 23 (.ld 1 false (.r 22)),op 24 (.len .sl (.r 23)),cl 25 25 [(.r 19),(.r 24)],op 15 (.mov (.r 25)),op 26 (.ext 0 (.r 15)),op 27 (.ext 1 (.r 15)),op 7 (.mov (.r 26)),op 8 (.mov (.r 27))]) <|
    .ops [op 28 (.mov (.r 5)),op 29 (.mov (.r 0)),op 30 (.nilc (.r 29)),op 31 (.fad 0 (.r 30)),op 32 (.ld 1 false (.r 31)),op 33 (.mov (.r 7)),op 34 (.iad 1 (.r 32) (.r 33)),op 35 (.ld 1 false (.r 34)),op 36 (.mov (.r 1)),op 37 (.mov (.r 6)),op 38 (.iad 1 (.r 36) (.r 37)),op 39 (.ld 1 false (.r 38)),cl 40 66 [(.r 35),(.r 39)],op 41 (.bsl 1 [.str ⟨#[]⟩,.int .u64 0,.str ⟨#[]⟩,.sl .nil []] [(0,(.r 40))]),op 42 (.app 4 64 false (.r 28) (.r 41)),op 5 (.mov (.r 42))])) <|
   .ops [op 13 (.mov (.r 6)),op 14 (.bin .add (.r 13) (.c (.int .i64 1))),op 6 (.mov (.r 14))]))) <|
 sq (.ops [op 43 (.mov (.r 5)),op 4 (.mov (.r 43))]) <|
 .ret⟩
def an32:An:=⟨[],[]⟩
def ir32:Go.Rmp.Fn:=⟨12,2,[.cl 4 2 true],
 sq (.ops [op 4 (.alloc [.int .i64 0,.int .i64 0])]) <|
 sq (.ops [op 5 (.mov (.r 0)),op 6 (.bin .and (.r 5) (.c (.int .i64 4095))),op 7 (.bin .add (.c (.int .i64 1)) (.r 6)),op 8 (.mov (.r 1)),op 9 (.bin .and (.r 8) (.c (.int .i64 15))),op 10 (.bin .add (.c (.int .i64 1)) (.r 9)),op 11 (.build [.int .i64 0,.int .i64 0] [(0,1,(.r 7)),(1,1,(.r 10))]),ef (.st 2 (.r 4) (.r 11))]) <|
 .ret⟩
def an33:An:=⟨[],[]⟩
def ir33:Go.Rmp.Fn:=⟨37,1,[.t 2,.t 3],
 sq (.ops [op 2 (.mov (.c (.sl .nil []))),op 3 (.mov (.c (.int .i64 0)))]) <|
 sq (sq (.ops [op 7 (.mov (.r 0)),cl 8 78 [(.r 7)],op 9 (.un .not (.r 8))]) <|
 .cond (.r 9)
  (sq (.ops [op 2 (.mov (.c (.sl .nil []))),op 3 (.mov (.c (.int .i64 1)))]) <|
  .ret)
  (.skip)) <|
 sq (.ops [op 4 (.mov (.c (.sl .nil [])))]) <|
 sq (sq (.ops [op 10 (.mov (.r 0)),cl 11 79 [(.r 10)],op 12 (.len .sl (.r 11)),op 13 (.mov (.c (.int .i64 0)))]) <|
 .block 0 (
  .loop (
   sq (.ops [op 14 (.bin .lss (.r 13) (.r 12))]) <|
   sq (.cond (.r 14)
    (.skip)
    (.exit 0)) <|
   sq (.block 1 (
    sq (.ops [op 15 (.mov (.r 13)),op 16 (.iad 1 (.r 11) (.r 13)),op 17 (.ld 1 false (.r 16)),op 5 (.mov (.r 15)),op 6 (.mov (.r 17))]) <|
    sq (.ops [op 18 (.mov (.r 6)),op 19 (.mov (.r 0)),op 20 (.mov (.r 5)),op 21 (.iad 4 (.r 19) (.r 20)),op 22 (.fad 1 (.r 21)),op 23 (.ld 1 false (.r 22)),op 24 (.bin .gtr (.r 18) (.r 23))]) <|
    .cond (.r 24)
     (.ops [op 25 (.mov (.r 4)),op 26 (.mov (.r 0)),op 27 (.mov (.r 5)),op 28 (.iad 4 (.r 26) (.r 27)),op 29 (.fad 0 (.r 28)),op 30 (.ld 1 false (.r 29)),op 31 (.mov (.r 6)),op 32 (.build [.str ⟨#[]⟩,.int .u64 0] [(0,1,(.r 30)),(1,1,(.r 31))]),op 33 (.bsl 1 [.str ⟨#[]⟩,.int .u64 0] [(0,(.r 32))]),op 34 (.app 2 24 false (.r 25) (.r 33)),op 4 (.mov (.r 34))])
     (.skip))) <|
   .ops [op 35 (.bin .add (.r 13) (.c (.int .i64 1))),op 13 (.mov (.r 35))]))) <|
 sq (.ops [op 36 (.mov (.r 4)),op 2 (.mov (.r 36)),op 3 (.mov (.c (.int .i64 0)))]) <|
 .ret⟩
def an34:An:=⟨[],[]⟩
def ir34:Go.Rmp.Fn:=⟨39,3,[.cl 6 4 true],
 sq (.ops [op 6 (.alloc [.str ⟨#[]⟩,.int .u64 0,.str ⟨#[]⟩,.sl .nil []])]) <|
 sq (.ops [op 12 (.mov (.r 1)),op 13 (.mov (.r 0)),op 14 (.nilc (.r 13)),op 15 (.fad 0 (.r 14)),op 16 (.ld 1 false (.r 15)),op 17 (.len .sl (.r 16)),cl 18 25 [(.r 12),(.r 17)],op 11 (.mov (.r 18)),op 19 (.ext 0 (.r 11)),op 20 (.ext 1 (.r 11)),op 7 (.mov (.r 19)),op 8 (.mov (.r 20))]) <|
 sq (.ops [op 22 (.mov (.r 0)),op 23 (.nilc (.r 22)),op 24 (.fad 0 (.r 23)),op 25 (.ld 1 false (.r 24)),op 26 (.mov (.r 7)),op 27 (.iad 1 (.r 25) (.r 26)),op 28 (.ld 1 false (.r 27)),op 29 (.mov (.r 1)),op 30 (.mov (.r 2)),cl 31 80 [(.r 28),(.r 29),(.r 30)],op 21 (.mov (.r 31)),op 32 (.ext 0 (.r 21)),op 33 (.ext 1 (.r 21)),op 9 (.alloc [.str ⟨#[]⟩,.int .u64 0,.str ⟨#[]⟩,.sl .nil []]),ef (.st 4 (.r 9) (.r 32)),op 10 (.mov (.r 33))]) <|
 sq (sq (.ops [op 34 (.mov (.r 10)),op 35 (.bin .neq (.r 34) (.c (.int .i64 0)))]) <|
 .cond (.r 35)
  (sq (.ops [op 36 (.mov (.r 1)),op 37 (.build [.str ⟨#[]⟩,.int .u64 0,.str ⟨#[]⟩,.sl .nil []] [(0,1,(.r 36))]),ef (.st 4 (.r 6) (.r 37))]) <|
  .ret)
  (.skip)) <|
 sq (.ops [op 38 (.ld 4 true (.r 9)),ef (.st 4 (.r 6) (.r 38))]) <|
 .ret⟩
def an35:An:=⟨[],[]⟩
def ir35:Go.Rmp.Fn:=⟨71,2,[.t 4,.t 5],
 sq (.ops [op 4 (.mov (.c (.sl .nil []))),op 5 (.mov (.c (.int .i64 0)))]) <|
 sq (sq (.ops [op 15 (.mov (.r 0)),cl 16 78 [(.r 15)],op 17 (.un .not (.r 16))]) <|
 .cond (.r 17)
  (sq (.ops [op 4 (.mov (.c (.sl .nil []))),op 5 (.mov (.c (.int .i64 1)))]) <|
  .ret)
  (.skip)) <|
 sq (.ops [op 18 (.mkm),op 6 (.alloc [.nilm]),ef (.st 1 (.r 6) (.r 18))]) <|
 sq (sq (.ops [op 19 (.mov (.r 1)),cl 20 81 [(.r 19)]]) <|
 .block 0 (
  .rangeF 71 (.r 20) [21,22]
   (sq (.ops [op 7 (.mov (.r 21))]) <|
   .ops [op 8 (.alloc [.str ⟨#[]⟩,.int .u64 0,.str ⟨#[]⟩,.sl .nil []]),ef (.st 4 (.r 8) (.r 22))])
   (.block 1 (
    .ops [op 23 (.ld 1 false (.r 6)),op 24 (.fad 0 (.r 8)),op 25 (.ld 1 false (.r 24)),op 26 (.fad 1 (.r 8)),op 27 (.ld 1 false (.r 26)),op 28 (.build [.str ⟨#[]⟩,.int .u64 0] [(0,1,(.r 25)),(1,1,(.r 27))]),op 29 (.mov (.r 7)),ef (.upm (.st [.str,.int]) (.r 23) (.r 28) (.r 29))])))) <|
 sq (.ops [op 9 (.mov (.c (.sl .nil [])))]) <|
 sq (sq (.ops [op 30 (.mov (.r 0)),cl 31 79 [(.r 30)],op 32 (.len .sl (.r 31)),op 33 (.mov (.c (.int .i64 0)))]) <|
 .block 2 (
  .loop (
   sq (.ops [op 34 (.bin .lss (.r 33) (.r 32))]) <|
   sq (.cond (.r 34)
    (.skip)
    (.exit 2)) <|
   sq (.block 3 (
    sq (.ops [op 35 (.mov (.r 33)),op 36 (.iad 1 (.r 31) (.r 33)),op 37 (.ld 1 false (.r 36)),op 10 (.mov (.r 35)),op 11 (.mov (.r 37))]) <|
    sq (.ops [op 38 (.mov (.r 0)),op 39 (.mov (.r 10)),op 40 (.iad 4 (.r 38) (.r 39)),op 41 (.ld 4 true (.r 40)),op 12 (.alloc [.str ⟨#[]⟩,.int .u64 0,.str ⟨#[]⟩,.sl .nil []]),ef (.st 4 (.r 12) (.r 41))]) <|
    sq (sq (.ops [op 42 (.mov (.r 11)),op 43 (.fad 1 (.r 12)),op 44 (.ld 1 false (.r 43)),op 45 (.bin .gtr (.r 42) (.r 44))]) <|
    .cond (.r 45)
     (sq (.ops [op 47 (.ld 1 false (.r 6)),op 48 (.fad 0 (.r 12)),op 49 (.ld 1 false (.r 48)),op 50 (.mov (.r 11)),op 51 (.build [.str ⟨#[]⟩,.int .u64 0] [(0,1,(.r 49)),(1,1,(.r 50))]),op 52 (.lkp (.st [.str,.int]) (.int .i64 0) true (.r 47) (.r 51)),op 46 (.mov (.r 52)),op 53 (.ext 0 (.r 46)),op 54 (.ext 1 (.r 46)),op 13 (.mov (.r 53)),op 14 (.mov (.r 54))]) <|
     sq (sq (.ops [op 55 (.mov (.r 14)),op 56 (.un .not (.r 55))]) <|
     .cond (.r 56)
      (sq (.ops [op 4 (.mov (.c (.sl .nil []))),op 5 (.mov (.c (.int .i64 110)))]) <|
      .ret)
      (.skip)) <|
     .ops [op 57 (.mov (.r 1)),op 58 (.mov (.r 13)),op 59 (.iad 4 (.r 57) (.r 58)),op 60 (.ld 4 true (.r 59)),ef (.st 4 (.r 12) (.r 60))])
     (.skip)) <|
    sq (.ops [op 61 (.fad 3 (.r 12)),op 62 (.ld 1 false (.r 61)),cl 63 82 [(.r 62)],op 64 (.fad 3 (.r 12)),ef (.st 1 (.r 64) (.r 63))]) <|
    .ops [op 65 (.mov (.r 9)),op 66 (.ld 4 true (.r 12)),op 67 (.bsl 1 [.str ⟨#[]⟩,.int .u64 0,.str ⟨#[]⟩,.sl .nil []] [(0,(.r 66))]),op 68 (.app 4 64 false (.r 65) (.r 67)),op 9 (.mov (.r 68))])) <|
   .ops [op 69 (.bin .add (.r 33) (.c (.int .i64 1))),op 33 (.mov (.r 69))]))) <|
 sq (.ops [op 70 (.mov (.r 9)),op 4 (.mov (.r 70)),op 5 (.mov (.c (.int .i64 0)))]) <|
 .ret⟩
def an36:An:=⟨[],[]⟩
def ir36:Go.Rmp.Fn:=⟨17,1,[.t 2],
 sq (.ops [op 2 (.mov (.c (.bool false)))]) <|
 sq (.ops [op 6 (.mov (.r 0)),cl 7 33 [(.r 6)],op 5 (.mov (.r 7)),op 8 (.ext 0 (.r 5)),op 9 (.ext 1 (.r 5)),op 3 (.mov (.r 8)),op 4 (.mov (.r 9))]) <|
 sq (.ops [op 10 (.mov (.r 4)),op 11 (.bin .eql (.r 10) (.c (.int .i64 0))),op 12 (.mov (.r 11)),⟨(some 13),.b (.mov (.r 3)),(some (12,true)),[]⟩,⟨(some 14),.b (.len .sl (.r 13)),(some (12,true)),[]⟩,⟨(some 15),.b (.bin .eql (.r 14) (.c (.int .i64 0))),(some (12,true)),[]⟩,op 16 (.pick (.r 12) (.r 15) (.c (.bool false))),op 2 (.mov (.r 16))]) <|
 .ret⟩
def an42:An:=⟨[],[(8,[(0,true),(1,true),(2,true),(3,true),(4,true),(5,true),(6,true),(7,true),(8,true),(9,true),(10,false),(11,true)]),(12,[(0,true),(1,true),(2,true),(3,true),(4,true),(5,true),(6,true),(7,true),(8,true)]),(14,[(0,true),(1,true),(2,true),(3,true),(4,true),(6,true),(5,false),(7,true),(8,false)])]⟩
def ir42:Go.Rmp.Fn:=⟨70,5,[.t 10,.t 11],
 sq (.ops [op 10 (.mov (.c (.bool false))),op 11 (.mov (.c (.int .i64 0)))]) <|
 sq (sq (.ops [op 19 (.mov (.r 1)),op 20 (.mov (.r 2)),op 21 (.mov (.r 3)),cl 22 93 [(.r 19),(.r 20),(.r 21)],op 23 (.un .not (.r 22)),op 24 (.mov (.r 23)),⟨(some 25),.b (.mov (.r 4)),(some (24,false)),[]⟩,⟨(some 26),.call 94 [(.r 25)],(some (24,false)),[]⟩,⟨(some 27),.b (.un .not (.r 26)),(some (24,false)),[]⟩,op 28 (.pick (.r 24) (.c (.bool true)) (.r 27))]) <|
 .cond (.r 28)
  (sq (.ops [op 10 (.mov (.c (.bool false))),op 11 (.mov (.c (.int .i64 1)))]) <|
  .ret)
  (.skip)) <|
 sq (.ops [op 12 (.mov (.c (.bool false)))]) <|
 sq (sq (.ops [op 29 (.mov (.r 2)),op 30 (.len .sl (.r 29)),op 31 (.mov (.c (.int .i64 0)))]) <|
 .block 0 (
  .loop (
   sq (.ops [op 32 (.bin .lss (.r 31) (.r 30))]) <|
   sq (.cond (.r 32)
    (.skip)
    (.exit 0)) <|
   sq (.block 1 (
    sq (.ops [op 33 (.iad 2 (.r 29) (.r 31)),op 34 (.ld 2 true (.r 33)),op 14 (.alloc [.str ⟨#[]⟩,.str ⟨#[]⟩]),ef (.st 2 (.r 14) (.r 34))]) <|
    sq (.ops [op 35 (.fad 0 (.r 14)),op 36 (.ld 1 false (.r 35)),op 37 (.mov (.r 1)),op 38 (.build [.str ⟨#[]⟩,.int .u64 0] [(0,1,(.r 36)),(1,1,(.r 37))]),op 15 (.alloc [.str ⟨#[]⟩,.int .u64 0]),ef (.st 2 (.r 15) (.r 38))]) <|
    sq (sq (.ops [op 40 (.mov (.r 0)),op 41 (.nilc (.r 40)),op 42 (.fad 0 (.r 41)),op 43 (.ld 1 false (.r 42)),op 44 (.ld 2 true (.r 15)),op 45 (.lkp (.st [.str,.int]) (.agg [.str ⟨#[]⟩,.sl .nil [],.int .i64 0]) true (.r 43) (.r 44)),op 39 (.mov (.r 45)),op 46 (.ext 0 (.r 39)),op 47 (.ext 1 (.r 39)),op 16 (.alloc [.str ⟨#[]⟩,.sl .nil [],.int .i64 0]),ef (.st 3 (.r 16) (.r 46)),op 17 (.mov (.r 47))]) <|
    sq (.ops [op 48 (.mov (.r 17))]) <|
    .cond (.r 48)
     (.exit 1)
     (.skip)) <|
    sq (.ops [op 12 (.mov (.c (.bool true)))]) <|
    sq (.ops [op 18 (.mov (.c (.int .i64 (-1))))]) <|
    sq (sq (.ops [op 49 (.mov (.r 1)),op 50 (.mov (.r 0)),op 51 (.nilc (.r 50)),op 52 (.fad 3 (.r 51)),op 53 (.ld 1 false (.r 52)),op 54 (.fad 0 (.r 14)),op 55 (.ld 1 false (.r 54)),op 56 (.lkp (.sc .str) (.int .u64 0) false (.r 53) (.r 55)),op 57 (.bin .lss (.r 49) (.r 56))]) <|
    .cond (.r 57)
     (.ops [op 58 (.mov (.r 4)),op 18 (.mov (.r 58))])
     (.skip)) <|
    .ops [op 59 (.mov (.r 0)),op 60 (.ld 2 true (.r 15)),op 61 (.fad 1 (.r 14)),op 62 (.ld 1 false (.r 61)),op 63 (.mov (.r 3)),op 65 (.mov (.r 18)),⟨(some 64),.call 82 [(.r 63)],none,[⟨60,.ld 2 true (.r 15),none⟩,⟨62,.ld 1 false (.r 61),none⟩]⟩,op 66 (.build [.str ⟨#[]⟩,.sl .nil [],.int .i64 0] [(0,1,(.r 62)),(1,1,(.r 64)),(2,1,(.r 65))]),cl 67 95 [(.r 59),(.r 60),(.r 66)]])) <|
   .ops [op 68 (.bin .add (.r 31) (.c (.int .i64 1))),op 31 (.mov (.r 68))]))) <|
 sq (.ops [op 69 (.mov (.r 12)),op 10 (.mov (.r 69)),op 11 (.mov (.c (.int .i64 0)))]) <|
 .ret⟩
def an43:An:=⟨[],[(15,[(0,true),(1,true),(2,true),(3,true),(4,true),(5,true),(6,true),(7,true),(8,false)])]⟩
def ir43:Go.Rmp.Fn:=⟨89,3,[.t 6,.t 7],
 sq (.ops [op 6 (.mov (.c (.int .i64 0))),op 7 (.mov (.c (.int .i64 0)))]) <|
 sq (sq (.ops [op 13 (.mov (.r 1)),op 14 (.bin .lss (.r 13) (.c (.int .u64 65536))),op 15 (.mov (.r 14)),⟨(some 16),.b (.mov (.r 2)),(some (15,false)),[]⟩,⟨(some 17),.call 94 [(.r 16)],(some (15,false)),[]⟩,⟨(some 18),.b (.un .not (.r 17)),(some (15,false)),[]⟩,op 19 (.pick (.r 15) (.c (.bool true)) (.r 18))]) <|
 .cond (.r 19)
  (sq (.ops [op 6 (.mov (.c (.int .i64 0))),op 7 (.mov (.c (.int .i64 1)))]) <|
  .ret)
  (.skip)) <|
 sq (sq (.ops [op 20 (.mov (.r 0)),op 21 (.nilc (.r 20)),op 22 (.fad 2 (.r 21)),op 23 (.ld 1 false (.r 22)),op 24 (.mov (.r 1)),op 25 (.lkp (.sc .int) (.sl .nil []) false (.r 23) (.r 24)),op 26 (.len .sl (.r 25)),op 27 (.mov (.c (.int .i64 0)))]) <|
 .block 0 (
  .loop (
   sq (.ops [op 28 (.bin .lss (.r 27) (.r 26))]) <|
   sq (.cond (.r 28)
    (.skip)
    (.exit 0)) <|
   sq (.block 1 (
    sq (.ops [op 29 (.iad 1 (.r 25) (.r 27)),op 30 (.ld 1 false (.r 29)),op 9 (.mov (.r 30))]) <|
    sq (sq (.ops [op 31 (.mov (.r 0)),op 32 (.nilc (.r 31)),op 33 (.fad 3 (.r 32)),op 34 (.ld 1 false (.r 33)),op 35 (.mov (.r 9)),op 36 (.lkp (.sc .str) (.int .u64 0) false (.r 34) (.r 35)),op 37 (.mov (.r 1)),op 38 (.bin .geq (.r 36) (.r 37))]) <|
    .cond (.r 38)
     (.exit 1)
     (.skip)) <|
    sq (.ops [op 39 (.mov (.r 0)),op 40 (.nilc (.r 39)),op 41 (.fad 3 (.r 40)),op 42 (.ld 1 false (.r 41)),op 43 (.mov (.r 9)),op 44 (.mov (.r 1)),ef (.upm (.sc .str) (.r 42) (.r 43) (.r 44))]) <|
    sq (.ops [op 45 (.mov (.r 0)),op 46 (.nilc (.r 45)),op 47 (.fad 1 (.r 46)),op 48 (.ld 1 false (.r 47)),op 49 (.mov (.r 9)),op 50 (.lkp (.sc .str) (.sl .nil []) false (.r 48) (.r 49)),op 51 (.len .sl (.r 50)),op 52 (.mov (.c (.int .i64 0)))]) <|
    .block 2 (
     .loop (
      sq (.ops [op 53 (.bin .lss (.r 52) (.r 51))]) <|
      sq (.cond (.r 53)
       (.skip)
       (.exit 2)) <|
      sq (.block 3 (
       sq (.ops [op 54 (.iad 1 (.r 50) (.r 52)),op 55 (.ld 1 false (.r 54)),op 11 (.mov (.r 55))]) <|
       sq (sq (.ops [op 56 (.mov (.r 11)),op 57 (.mov (.r 1)),op 58 (.bin .geq (.r 56) (.r 57))]) <|
       .cond (.r 58)
        (.exit 2)
        (.skip)) <|
       sq (.ops [op 59 (.mov (.r 0)),op 60 (.nilc (.r 59)),op 61 (.fad 0 (.r 60)),op 62 (.ld 1 false (.r 61)),op 63 (.mov (.r 9)),op 64 (.mov (.r 11)),op 65 (.build [.str ⟨#[]⟩,.int .u64 0] [(0,1,(.r 63)),(1,1,(.r 64))]),op 66 (.lkp (.st [.str,.int]) (.agg [.str ⟨#[]⟩,.sl .nil [],.int .i64 0]) false (.r 62) (.r 65)),op 12 (.alloc [.str ⟨#[]⟩,.sl .nil [],.int .i64 0]),ef (.st 3 (.r 12) (.r 66))]) <|
       sq (.ops [op 67 (.fad 2 (.r 12)),op 68 (.ld 1 false (.r 67)),op 69 (.bin .eql (.r 68) (.c (.int .i64 (-1))))]) <|
       .cond (.r 69)
        (sq (.ops [op 70 (.mov (.r 2)),op 71 (.fad 2 (.r 12)),ef (.st 1 (.r 71) (.r 70))]) <|
        .ops [op 72 (.mov (.r 0)),op 73 (.nilc (.r 72)),op 74 (.fad 0 (.r 73)),op 75 (.ld 1 false (.r 74)),op 76 (.mov (.r 9)),op 77 (.mov (.r 11)),op 78 (.build [.str ⟨#[]⟩,.int .u64 0] [(0,1,(.r 76)),(1,1,(.r 77))]),op 79 (.ld 3 true (.r 12)),ef (.upm (.st [.str,.int]) (.r 75) (.r 78) (.r 79))])
        (.skip))) <|
      .ops [op 80 (.bin .add (.r 52) (.c (.int .i64 1))),op 52 (.mov (.r 80))])))) <|
   .ops [op 81 (.bin .add (.r 27) (.c (.int .i64 1))),op 27 (.mov (.r 81))]))) <|
 sq (.ops [op 82 (.mov (.r 0)),op 83 (.nilc (.r 82)),op 84 (.fad 2 (.r 83)),op 85 (.ld 1 false (.r 84)),op 86 (.mov (.r 1)),op 87 (.lkp (.sc .int) (.sl .nil []) false (.r 85) (.r 86)),op 88 (.len .sl (.r 87)),op 6 (.mov (.r 88)),op 7 (.mov (.c (.int .i64 0)))]) <|
 .ret⟩
def an44:An:=⟨[(4,3)],[(4,[(0,true),(1,true),(2,false),(3,false),(4,true),(5,false),(6,true),(7,true)])]⟩
def ir44:Go.Rmp.Fn:=⟨19,2,[.t 4,.t 5],
 sq (.ops [op 4 (.mov (.c .nilp)),op 5 (.mov (.c (.int .i64 0)))]) <|
 sq (.ops [op 7 (.mov (.r 0)),op 8 (.mov (.r 1)),op 9 (.build [.int .i64 0,.int .i64 0] [(0,1,(.r 7)),(1,1,(.r 8))]),op 6 (.alloc [.int .i64 0,.int .i64 0]),ef (.st 2 (.r 6) (.r 9))]) <|
 sq (sq (.ops [op 10 (.ld 2 true (.r 6)),cl 11 96 [(.r 10)],op 12 (.un .not (.r 11))]) <|
 .cond (.r 12)
  (sq (.ops [op 4 (.mov (.c .nilp)),op 5 (.mov (.c (.int .i64 1)))]) <|
  .ret)
  (.skip)) <|
 sq (.ops [op 13 (.ld 2 true (.r 6)),op 14 (.ld 2 true (.r 6)),⟨(some 15),.call 97 [(.r 14)],none,[⟨13,.ld 2 true (.r 6),none⟩]⟩,⟨(some 16),.b (.mks true 1 [.int .u8 0] (.r 15) (.r 15)),none,[⟨13,.ld 2 true (.r 6),none⟩]⟩,op 17 (.build [.int .i64 0,.int .i64 0,.sl .nil []] [(0,2,(.r 13)),(2,1,(.r 16))]),op 18 (.box (.r 17)),op 4 (.mov (.r 18)),op 5 (.mov (.c (.int .i64 0)))]) <|
 .ret⟩
def an45:An:=⟨[],[(4,[(0,true),(1,true),(2,true),(3,true),(4,true),(5,true),(6,true),(7,true),(8,true),(9,true)])]⟩
def ir45:Go.Rmp.Fn:=⟨28,1,[.t 2],
 sq (.ops [op 2 (.mov (.c (.bool false)))]) <|
 sq (sq (.ops [op 3 (.mov (.c (.int .i64 1)))]) <|
 .block 0 (
  .loop (
   sq (sq (.ops [op 4 (.mov (.r 3)),op 5 (.mov (.r 0)),op 6 (.len .sl (.r 5)),op 7 (.bin .lss (.r 4) (.r 6))]) <|
   .cond (.r 7)
    (.skip)
    (.exit 0)) <|
   sq (.block 1 (
    sq (.ops [op 10 (.mov (.r 0)),op 11 (.mov (.r 3)),op 12 (.iad 1 (.r 10) (.r 11)),op 13 (.ld 1 false (.r 12)),op 14 (.mov (.r 0)),op 15 (.mov (.r 3)),op 16 (.bin .sub (.r 15) (.c (.int .i64 1))),op 17 (.iad 1 (.r 14) (.r 16)),op 18 (.ld 1 false (.r 17)),op 19 (.bin .leq (.r 13) (.r 18))]) <|
    .cond (.r 19)
     (sq (.ops [op 2 (.mov (.c (.bool false)))]) <|
     .ret)
     (.skip))) <|
   .ops [op 8 (.mov (.r 3)),op 9 (.bin .add (.r 8) (.c (.int .i64 1))),op 3 (.mov (.r 9))]))) <|
 sq (.ops [op 20 (.mov (.r 0)),op 21 (.len .sl (.r 20)),op 22 (.bin .geq (.r 21) (.c (.int .i64 1))),op 23 (.mov (.r 22)),⟨(some 24),.b (.mov (.r 0)),(some (23,true)),[]⟩,⟨(some 25),.b (.len .sl (.r 24)),(some (23,true)),[]⟩,⟨(some 26),.b (.bin .leq (.r 25) (.c (.int .i64 1024))),(some (23,true)),[]⟩,op 27 (.pick (.r 23) (.r 26) (.c (.bool false))),op 2 (.mov (.r 27))]) <|
 .ret⟩
def an46:An:=⟨[],[]⟩
def ir46:Go.Rmp.Fn:=⟨9,2,[.t 4],
 sq (.ops [op 4 (.mov (.c (.bool false)))]) <|
 sq (.ops [op 5 (.mov (.r 0)),op 6 (.mov (.r 1)),cl 7 98 [(.r 5),(.r 6)],op 8 (.bin .geq (.r 7) (.c (.int .i64 0))),op 4 (.mov (.r 8))]) <|
 .ret⟩
def an47:An:=⟨[],[(3,[(0,true),(1,true),(2,true),(3,true),(4,true),(5,true),(6,true),(7,true),(8,true),(9,true),(10,true),(11,true),(12,true),(13,false)])]⟩
def ir47:Go.Rmp.Fn:=⟨31,2,[],
 sq (.ops [op 6 (.mov (.r 0)),op 7 (.nilc (.r 6)),op 8 (.fad 0 (.r 7)),op 9 (.ld 2 true (.r 8)),op 10 (.mov (.r 1)),cl 11 99 [(.r 9),(.r 10)],op 12 (.len .sl (.r 11)),op 13 (.mov (.c (.int .i64 0)))]) <|
 .block 0 (
  .loop (
   sq (.ops [op 14 (.bin .lss (.r 13) (.r 12))]) <|
   sq (.cond (.r 14)
    (.skip)
    (.exit 0)) <|
   sq (.block 1 (
    sq (.ops [op 15 (.iad 1 (.r 11) (.r 13)),op 16 (.ld 1 false (.r 15)),op 5 (.mov (.r 16))]) <|
    .ops [op 17 (.mov (.r 0)),op 18 (.nilc (.r 17)),op 19 (.fad 2 (.r 18)),op 20 (.ld 1 false (.r 19)),op 21 (.mov (.r 5)),op 22 (.bin .quo (.r 21) (.c (.int .i64 8))),op 23 (.iad 1 (.r 20) (.r 22)),op 24 (.ld 1 false (.r 23)),op 25 (.mov (.r 5)),op 26 (.bin .rem (.r 25) (.c (.int .i64 8))),op 27 (.bin .shl (.c (.int .u8 1)) (.r 26)),op 28 (.bin .or (.r 24) (.r 27)),op 29 (.iad 1 (.r 20) (.r 22)),ef (.st 1 (.r 29) (.r 28))])) <|
   .ops [op 30 (.bin .add (.r 13) (.c (.int .i64 1))),op 13 (.mov (.r 30))]))⟩
def an48:An:=⟨[],[(2,[(0,true),(1,true),(2,true),(3,true),(4,true),(5,true),(6,true),(7,true),(8,true),(9,true),(10,true),(11,true),(12,true),(13,true),(14,true),(15,true),(16,true),(17,true),(18,true),(19,true),(20,true),(21,true),(22,false),(23,true)])]⟩
def ir48:Go.Rmp.Fn:=⟨32,1,[.t 2],
 sq (.ops [op 2 (.mov (.c (.sl .nil [])))]) <|
 sq (.ops [op 4 (.mov (.r 0)),op 5 (.nilc (.r 4)),op 6 (.fad 0 (.r 5)),op 7 (.fad 0 (.r 6)),op 8 (.ld 1 false (.r 7)),op 3 (.mov (.r 8))]) <|
 sq (.ops [op 9 (.mov (.r 3)),op 10 (.bin .shr (.r 9) (.c (.int .u64 24))),op 11 (.cvi .u8 (.r 10)),op 12 (.mov (.r 3)),op 13 (.bin .shr (.r 12) (.c (.int .u64 16))),op 14 (.cvi .u8 (.r 13)),op 15 (.mov (.r 3)),op 16 (.bin .shr (.r 15) (.c (.int .u64 8))),op 17 (.cvi .u8 (.r 16)),op 18 (.mov (.r 3)),op 19 (.cvi .u8 (.r 18)),op 20 (.mov (.r 0)),op 21 (.nilc (.r 20)),op 22 (.fad 0 (.r 21)),op 23 (.fad 1 (.r 22)),op 24 (.ld 1 false (.r 23)),op 25 (.cvi .u8 (.r 24)),op 26 (.bsl 5 [.int .u8 0] [(0,(.r 11)),(1,(.r 14)),(2,(.r 17)),(3,(.r 19)),(4,(.r 25))]),op 27 (.mov (.r 0)),op 28 (.nilc (.r 27)),op 29 (.fad 2 (.r 28)),op 30 (.ld 1 false (.r 29)),op 31 (.app 1 1 false (.r 26) (.r 30)),op 2 (.mov (.r 31))]) <|
 .ret⟩
def an54:An:=⟨[],[]⟩
def ir54:Go.Rmp.Fn:=⟨50,1,[.t 2,.t 3],
 sq (.ops [op 2 (.mov (.c (.sl .nil []))),op 3 (.mov (.c (.bool false)))]) <|
 sq (sq (.ops [op 10 (.mov (.r 0)),op 11 (.len .sl (.r 10)),op 12 (.bin .lss (.r 11) (.c (.int .i64 1))),op 13 (.mov (.r 12)),⟨(some 14),.b (.mov (.r 0)),(some (13,false)),[]⟩,⟨(some 15),.b (.len .sl (.r 14)),(some (13,false)),[]⟩,⟨(some 16),.b (.bin .gtr (.r 15) (.c (.int .i64 1024))),(some (13,false)),[]⟩,op 17 (.pick (.r 13) (.c (.bool true)) (.r 16))]) <|
 .cond (.r 17)
  (sq (.ops [op 2 (.mov (.c (.sl .nil []))),op 3 (.mov (.c (.bool false)))]) <|
  .ret)
  (.skip)) <|
 sq (.ops [op 18 (.mkm),op 4 (.mov (.r 18))]) <|
 sq (.ops [op 5 (.mov (.c (.sl .nil [])))]) <|
 sq (sq (.ops [op 19 (.mov (.r 0)),op 20 (.len .sl (.r 19)),op 21 (.mov (.c (.int .i64 0)))]) <|
 .block 0 (
  .loop (
   sq (.ops [op 22 (.bin .lss (.r 21) (.r 20))]) <|
   sq (.cond (.r 22)
    (.skip)
    (.exit 0)) <|
   sq (.block 1 (
    sq (.ops [op 23 (.iad 4 (.r 19) (.r 21)),op 24 (.ld 4 true (.r 23)),op 7 (.alloc [.str ⟨#[]⟩,.int .u64 0,.str ⟨#[]⟩,.sl .nil []]),ef (.st 4 (.r 7) (.r 24))]) <|
    sq (.ops [op 26 (.ld 4 true (.r 7)),cl 27 103 [(.r 26)],op 25 (.mov (.r 27)),op 28 (.ext 0 (.r 25)),op 29 (.ext 1 (.r 25)),op 8 (.mov (.r 28)),op 9 (.mov (.r 29))]) <|
    sq (sq (.ops [op 30 (.mov (.r 4)),op 31 (.fad 0 (.r 7)),op 32 (.ld 1 false (.r 31)),op 33 (.lkp (.sc .str) (.int .i64 0) false (.r 30) (.r 32)),op 34 (.bin .add (.r 33) (.c (.int .i64 1))),ef (.upm (.sc .str) (.r 30) (.r 32) (.r 34))]) <|
    sq (.ops [op 35 (.mov (.r 9)),op 36 (.un .not (.r 35)),op 37 (.mov (.r 36)),⟨(some 38),.b (.mov (.r 4)),(some (37,false)),[]⟩,⟨(some 39),.b (.fad 0 (.r 7)),(some (37,false)),[]⟩,⟨(some 40),.b (.ld 1 false (.r 39)),(some (37,false)),[]⟩,⟨(some 41),.b (.lkp (.sc .str) (.int .i64 0) false (.r 38) (.r 40)),(some (37,false)),[]⟩,⟨(some 42),.b (.bin .gtr (.r 41) (.c (.int .i64 1))),(some (37,false)),[]⟩,op 43 (.pick (.r 37) (.c (.bool true)) (.r 42))]) <|
    .cond (.r 43)
     (sq (.ops [op 2 (.mov (.c (.sl .nil []))),op 3 (.mov (.c (.bool false)))]) <|
     .ret)
     (.skip)) <|
    .ops [op 44 (.mov (.r 5)),op 45 (.mov (.r 8)),op 46 (.bsl 1 [.nilp] [(0,(.r 45))]),op 47 (.app 1 8 false (.r 44) (.r 46)),op 5 (.mov (.r 47))])) <|
   .ops [op 48 (.bin .add (.r 21) (.c (.int .i64 1))),op 21 (.mov (.r 48))]))) <|
 sq (.ops [op 49 (.mov (.r 5)),op 2 (.mov (.r 49)),op 3 (.mov (.c (.bool true)))]) <|
 .ret⟩
def an55:An:=⟨[],[]⟩
def ir55:Go.Rmp.Fn:=⟨14,2,[.t 4],
 sq (.ops [op 2 (.box (.r 0)),op 4 (.mov (.c (.bool false)))]) <|
 sq (.ops [op 5 (.ld 1 false (.r 2)),op 6 (.nilc (.r 5)),op 7 (.fad 0 (.r 6)),op 8 (.ld 2 true (.r 7)),op 9 (.mov (.r 1)),cl 10 99 [(.r 8),(.r 9)],op 11 (.mkf 105 [(.r 2)]),cl 12 104 [(.r 10),(.r 11)],op 13 (.un .not (.r 12)),op 4 (.mov (.r 13))]) <|
 .ret⟩
def an56:An:=⟨[],[]⟩
def ir56:Go.Rmp.Fn:=⟨11,1,[],
 sq (.ops [op 3 (.mov (.r 0)),op 4 (.len .sl (.r 3)),op 2 (.mov (.r 4))]) <|
 .ops [op 5 (.mov (.r 0)),op 6 (.mov (.r 2)),op 7 (.mov (.r 2)),op 8 (.cvi .u64 (.r 7)),cl 9 107 [(.r 8)],cl 10 106 [(.r 5),(.c (.int .i64 0)),(.r 6),(.r 9)]]⟩
def an57:An:=⟨[],[(6,[(0,true),(1,true),(2,true),(3,true),(4,true),(5,true),(6,true),(7,true),(8,true),(9,true)]),(11,[(0,true),(1,true),(2,true),(3,true),(4,true),(5,true),(6,true),(7,true),(8,true),(9,true)])]⟩
def ir57:Go.Rmp.Fn:=⟨61,1,[.t 2],
 sq (.ops [op 2 (.mov (.c (.sl .nil [])))]) <|
 sq (sq (.ops [op 6 (.mov (.r 0)),op 7 (.len .sl (.r 6)),op 8 (.bin .lss (.r 7) (.c (.int .i64 2)))]) <|
 .cond (.r 8)
  (sq (.ops [op 9 (.mov (.r 0)),op 2 (.mov (.r 9))]) <|
  .ret)
  (.skip)) <|
 sq (sq (.ops [op 3 (.mov (.c (.int .i64 1)))]) <|
 .block 0 (
  .loop (
   sq (sq (.ops [op 10 (.mov (.r 3)),op 11 (.mov (.r 0)),op 12 (.len .sl (.r 11)),op 13 (.bin .lss (.r 10) (.r 12))]) <|
   .cond (.r 13)
    (.skip)
    (.exit 0)) <|
   sq (.block 1 (
    sq (.ops [op 16 (.mov (.r 0)),op 17 (.mov (.r 3)),op 18 (.iad 1 (.r 16) (.r 17)),op 19 (.ld 1 false (.r 18)),op 20 (.mov (.r 0)),op 21 (.mov (.r 3)),op 22 (.bin .sub (.r 21) (.c (.int .i64 1))),op 23 (.iad 1 (.r 20) (.r 22)),op 24 (.ld 1 false (.r 23)),op 25 (.bin .eql (.r 19) (.r 24))]) <|
    .cond (.r 25)
     (sq (.ops [op 26 (.mov (.r 0)),op 27 (.mov (.r 3)),op 28 (.sll 1 (.r 26) (some (.r 27)) none none),op 4 (.mov (.r 28))]) <|
     sq (sq (.ops [op 5 (.mov (.c (.int .i64 1)))]) <|
     .block 2 (
      .loop (
       sq (sq (.ops [op 29 (.mov (.r 5)),op 30 (.mov (.r 4)),op 31 (.len .sl (.r 30)),op 32 (.bin .lss (.r 29) (.r 31))]) <|
       .cond (.r 32)
        (.skip)
        (.exit 2)) <|
       sq (.block 3 (
        sq (.ops [op 35 (.mov (.r 4)),op 36 (.mov (.r 5)),op 37 (.iad 1 (.r 35) (.r 36)),op 38 (.ld 1 false (.r 37)),op 39 (.mov (.r 4)),op 40 (.mov (.r 5)),op 41 (.bin .sub (.r 40) (.c (.int .i64 1))),op 42 (.iad 1 (.r 39) (.r 41)),op 43 (.ld 1 false (.r 42)),op 44 (.bin .neq (.r 38) (.r 43))]) <|
        .cond (.r 44)
         (sq (.ops [op 45 (.mov (.r 0)),op 46 (.mov (.r 3)),op 47 (.mov (.r 4)),op 48 (.mov (.r 5)),op 49 (.iad 1 (.r 47) (.r 48)),op 50 (.ld 1 false (.r 49)),op 51 (.iad 1 (.r 45) (.r 46)),ef (.st 1 (.r 51) (.r 50))]) <|
         .ops [op 52 (.mov (.r 3)),op 53 (.bin .add (.r 52) (.c (.int .i64 1))),op 3 (.mov (.r 53))])
         (.skip))) <|
       .ops [op 33 (.mov (.r 5)),op 34 (.bin .add (.r 33) (.c (.int .i64 1))),op 5 (.mov (.r 34))]))) <|
     sq (.ops [op 54 (.mov (.r 0)),op 55 (.mov (.r 3)),op 56 (.sll 1 (.r 54) (some (.r 55)) none none),ef (.clr 1 [.int .u64 0] (.r 56))]) <|
     sq (.ops [op 57 (.mov (.r 0)),op 58 (.mov (.r 3)),op 59 (.sll 1 (.r 57) none (some (.r 58)) none),op 2 (.mov (.r 59))]) <|
     .ret)
     (.skip))) <|
   .ops [op 14 (.mov (.r 3)),op 15 (.bin .add (.r 14) (.c (.int .i64 1))),op 3 (.mov (.r 15))]))) <|
 sq (.ops [op 60 (.mov (.r 0)),op 2 (.mov (.r 60))]) <|
 .ret⟩
def an62:An:=⟨[],[]⟩
def ir62:Go.Rmp.Fn:=⟨16,1,[.t 2],
 sq (.ops [op 2 (.mov (.c (.bool false)))]) <|
 sq (.ops [op 3 (.mov (.r 0)),op 4 (.len .sl (.r 3)),op 5 (.bin .geq (.r 4) (.c (.int .i64 1))),op 6 (.mov (.r 5)),⟨(some 7),.b (.mov (.r 0)),(some (6,true)),[]⟩,⟨(some 8),.b (.len .sl (.r 7)),(some (6,true)),[]⟩,⟨(some 9),.b (.bin .leq (.r 8) (.c (.int .i64 64))),(some (6,true)),[]⟩,op 10 (.pick (.r 6) (.r 9) (.c (.bool false))),op 11 (.mov (.r 10)),⟨(some 12),.b (.mov (.r 0)),(some (11,true)),[]⟩,⟨(some 13),.call 108 [(.r 12),(.c .nilp)],(some (11,true)),[]⟩,⟨(some 14),.b (.un .not (.r 13)),(some (11,true)),[]⟩,op 15 (.pick (.r 11) (.r 14) (.c (.bool false))),op 2 (.mov (.r 15))]) <|
 .ret⟩
def an63:An:=⟨[],[]⟩
def ir63:Go.Rmp.Fn:=⟨15,1,[.t 2],
 sq (.ops [op 1 (.box (.r 0)),op 2 (.mov (.c (.bool false)))]) <|
 sq (.ops [op 6 (.fad 0 (.r 1)),op 7 (.ld 1 false (.r 6)),op 8 (.fad 1 (.r 1)),op 9 (.ld 1 false (.r 8)),cl 10 44 [(.r 7),(.r 9)],op 5 (.mov (.r 10)),op 11 (.ext 0 (.r 5)),op 12 (.ext 1 (.r 5)),op 3 (.mov (.r 11)),op 4 (.mov (.r 12))]) <|
 sq (.ops [op 13 (.mov (.r 4)),op 14 (.bin .eql (.r 13) (.c (.int .i64 0))),op 2 (.mov (.r 14))]) <|
 .ret⟩
def an64:An:=⟨[],[]⟩
def ir64:Go.Rmp.Fn:=⟨27,1,[.t 2],
 sq (.ops [op 2 (.mov (.c (.bool false)))]) <|
 sq (sq (.ops [op 5 (.mov (.r 0)),op 6 (.len .sl (.r 5)),op 7 (.bin .lss (.r 6) (.c (.int .i64 1))),op 8 (.mov (.r 7)),⟨(some 9),.b (.mov (.r 0)),(some (8,false)),[]⟩,⟨(some 10),.b (.len .sl (.r 9)),(some (8,false)),[]⟩,⟨(some 11),.b (.bin .gtr (.r 10) (.c (.int .i64 1024))),(some (8,false)),[]⟩,op 12 (.pick (.r 8) (.c (.bool true)) (.r 11))]) <|
 .cond (.r 12)
  (sq (.ops [op 2 (.mov (.c (.bool false)))]) <|
  .ret)
  (.skip)) <|
 sq (sq (.ops [op 13 (.mov (.r 0)),op 14 (.len .sl (.r 13)),op 15 (.mov (.c (.int .i64 0)))]) <|
 .block 0 (
  .loop (
   sq (.ops [op 16 (.bin .lss (.r 15) (.r 14))]) <|
   sq (.cond (.r 16)
    (.skip)
    (.exit 0)) <|
   sq (.block 1 (
    sq (.ops [op 17 (.iad 1 (.r 13) (.r 15)),op 18 (.ld 1 false (.r 17)),op 4 (.mov (.r 18))]) <|
    sq (.ops [op 19 (.mov (.r 4)),op 20 (.len .str (.r 19)),op 21 (.bin .gtr (.r 20) (.c (.int .i64 65535)))]) <|
    .cond (.r 21)
     (sq (.ops [op 2 (.mov (.c (.bool false)))]) <|
     .ret)
     (.skip))) <|
   .ops [op 22 (.bin .add (.r 15) (.c (.int .i64 1))),op 15 (.mov (.r 22))]))) <|
 sq (.ops [op 23 (.mov (.r 0)),cl 24 111 [(.r 23)],cl 25 110 [(.r 24)],cl 26 109 [(.r 25)],op 2 (.mov (.r 26))]) <|
 .ret⟩
def an65:An:=⟨[],[]⟩
def ir65:Go.Rmp.Fn:=⟨18,2,[.t 4],
 sq (.ops [op 4 (.mov (.c .nilp))]) <|
 sq (.ops [op 8 (.mov (.r 1)),op 9 (.mov (.r 0)),op 10 (.len .sl (.r 9)),cl 11 25 [(.r 8),(.r 10)],op 7 (.mov (.r 11)),op 12 (.ext 0 (.r 7)),op 13 (.ext 1 (.r 7)),op 5 (.mov (.r 12)),op 6 (.mov (.r 13))]) <|
 sq (.ops [op 14 (.mov (.r 0)),op 15 (.mov (.r 5)),op 16 (.iad 1 (.r 14) (.r 15)),op 17 (.ld 1 false (.r 16)),op 4 (.mov (.r 17))]) <|
 .ret⟩
def an66:An:=⟨[],[]⟩
def ir66:Go.Rmp.Fn:=⟨25,2,[.cl 4 4 true],
 sq (.ops [op 4 (.alloc [.str ⟨#[]⟩,.int .u64 0,.str ⟨#[]⟩,.sl .nil []])]) <|
 sq (.ops [op 8 (.mov (.r 0)),op 9 (.nilc (.r 8)),op 10 (.fad 3 (.r 9)),op 11 (.ld 1 false (.r 10)),op 12 (.mov (.r 1)),op 13 (.lkp (.sc .str) (.int .u64 0) true (.r 11) (.r 12)),op 7 (.mov (.r 13)),op 14 (.ext 0 (.r 7)),op 15 (.ext 1 (.r 7)),op 5 (.mov (.r 14)),op 6 (.mov (.r 15))]) <|
 sq (sq (.ops [op 16 (.mov (.r 6)),op 17 (.un .not (.r 16))]) <|
 .cond (.r 17)
  (sq (.ops [op 18 (.mov (.r 1)),op 19 (.build [.str ⟨#[]⟩,.int .u64 0,.str ⟨#[]⟩,.sl .nil []] [(0,1,(.r 18))]),ef (.st 4 (.r 4) (.r 19))]) <|
  .ret)
  (.skip)) <|
 sq (.ops [op 20 (.mov (.r 0)),op 21 (.mov (.r 1)),op 22 (.mov (.r 5)),op 23 (.build [.str ⟨#[]⟩,.int .u64 0] [(0,1,(.r 21)),(1,1,(.r 22))]),cl 24 91 [(.r 20),(.r 23)],ef (.st 4 (.r 4) (.r 24))]) <|
 .ret⟩
def an67:An:=⟨[],[]⟩
def ir67:Go.Rmp.Fn:=⟨8,1,[.t 2],
 sq (.ops [op 2 (.mov (.c (.sl .nil [])))]) <|
 sq (sq (.ops [op 3 (.mov (.r 0)),op 4 (.eqr false .slice (.r 3) (.c (.sl .nil [])))]) <|
 .cond (.r 4)
  (sq (.ops [op 2 (.mov (.c (.sl .nil [])))]) <|
  .ret)
  (.skip)) <|
 sq (.ops [op 5 (.bsl 0 [.int .u8 0] []),op 6 (.mov (.r 0)),op 7 (.app 1 1 false (.r 5) (.r 6)),op 2 (.mov (.r 7))]) <|
 .ret⟩
def an68:An:=⟨[],[]⟩
def ir68:Go.Rmp.Fn:=⟨40,3,[.cl 6 4 true,.t 7],
 sq (.ops [op 6 (.alloc [.str ⟨#[]⟩,.int .u64 0,.str ⟨#[]⟩,.sl .nil []]),op 7 (.mov (.c (.int .i64 0)))]) <|
 sq (sq (.ops [op 13 (.mov (.r 0)),op 14 (.eqr false .ptr (.r 13) (.c .nilp))]) <|
 .cond (.r 14)
  (sq (.ops [op 15 (.build [.str ⟨#[]⟩,.int .u64 0,.str ⟨#[]⟩,.sl .nil []] []),ef (.st 4 (.r 6) (.r 15)),op 7 (.mov (.c (.int .i64 1)))]) <|
  .ret)
  (.skip)) <|
 sq (.ops [op 16 (.mov (.r 1)),op 17 (.build [.str ⟨#[]⟩,.int .u64 0,.str ⟨#[]⟩,.sl .nil []] [(0,1,(.r 16))]),op 8 (.alloc [.str ⟨#[]⟩,.int .u64 0,.str ⟨#[]⟩,.sl .nil []]),ef (.st 4 (.r 8) (.r 17))]) <|
 sq (sq (.ops [op 18 (.mov (.r 2)),op 19 (.len .sl (.r 18)),op 20 (.mov (.c (.int .i64 0)))]) <|
 .block 0 (
  .loop (
   sq (.ops [op 21 (.bin .lss (.r 20) (.r 19))]) <|
   sq (.cond (.r 21)
    (.skip)
    (.exit 0)) <|
   sq (.block 1 (
    sq (.ops [op 22 (.iad 1 (.r 18) (.r 20)),op 23 (.ld 1 false (.r 22)),op 10 (.mov (.r 23))]) <|
    sq (sq (.ops [op 24 (.mov (.r 10)),op 25 (.fad 1 (.r 8)),op 26 (.ld 1 false (.r 25)),op 27 (.bin .leq (.r 24) (.r 26))]) <|
    .cond (.r 27)
     (.exit 1)
     (.skip)) <|
    sq (.ops [op 29 (.mov (.r 0)),op 30 (.mov (.r 1)),op 31 (.mov (.r 10)),cl 32 80 [(.r 29),(.r 30),(.r 31)],op 28 (.mov (.r 32)),op 33 (.ext 0 (.r 28)),op 34 (.ext 1 (.r 28)),op 11 (.alloc [.str ⟨#[]⟩,.int .u64 0,.str ⟨#[]⟩,.sl .nil []]),ef (.st 4 (.r 11) (.r 33)),op 12 (.mov (.r 34))]) <|
    sq (.ops [op 35 (.mov (.r 12)),op 36 (.bin .eql (.r 35) (.c (.int .i64 0)))]) <|
    .cond (.r 36)
     (.ops [op 37 (.ld 4 true (.r 11)),ef (.st 4 (.r 8) (.r 37))])
     (.skip))) <|
   .ops [op 38 (.bin .add (.r 20) (.c (.int .i64 1))),op 20 (.mov (.r 38))]))) <|
 sq (.ops [op 39 (.ld 4 true (.r 8)),ef (.st 4 (.r 6) (.r 39)),op 7 (.mov (.c (.int .i64 0)))]) <|
 .ret⟩
def an69:An:=⟨[],[]⟩
def ir69:Go.Rmp.Fn:=⟨9,1,[.t 2],
 sq (.ops [op 2 (.mov (.c (.bool false)))]) <|
 sq (.ops [op 3 (.mov (.r 0)),op 4 (.bin .geq (.r 3) (.c (.int .i64 1))),op 5 (.mov (.r 4)),⟨(some 6),.b (.mov (.r 0)),(some (5,true)),[]⟩,⟨(some 7),.b (.bin .leq (.r 6) (.c (.int .i64 64))),(some (5,true)),[]⟩,op 8 (.pick (.r 5) (.r 7) (.c (.bool false))),op 2 (.mov (.r 8))]) <|
 .ret⟩
def an70:An:=⟨[],[]⟩
def ir70:Go.Rmp.Fn:=⟨11,2,[.t 4],
 sq (.ops [op 4 (.mov (.c (.int .i64 0)))]) <|
 sq (.ops [op 5 (.mov (.r 0)),cl 6 112 [(.r 5)],op 7 (.mov (.r 1)),op 8 (.cvi .u64 (.r 7)),op 9 (.bin .rem (.r 6) (.r 8)),op 10 (.cvi .i64 (.r 9)),op 4 (.mov (.r 10))]) <|
 .ret⟩
def an71:An:=⟨[],[]⟩
def ir71:Go.Rmp.Fn:=⟨3,0,[.t 0],
 sq (.ops [op 0 (.mov (.c .nilp))]) <|
 sq (.ops [op 1 (.build [.sl .nil [],.sl .nil []] []),op 2 (.box (.r 1)),op 0 (.mov (.r 2))]) <|
 .ret⟩
def an72:An:=⟨[],[]⟩
def ir72:Go.Rmp.Fn:=⟨18,2,[.t 4,.t 5],
 sq (.ops [op 4 (.mov (.c (.int .i64 0))),op 5 (.mov (.c (.int .i64 0)))]) <|
 sq (sq (.ops [op 6 (.mov (.r 1)),op 7 (.bin .lss (.r 6) (.c (.int .i64 1))),op 8 (.mov (.r 7)),⟨(some 9),.b (.mov (.r 1)),(some (8,false)),[]⟩,⟨(some 10),.b (.bin .gtr (.r 9) (.c (.int .i64 64))),(some (8,false)),[]⟩,op 11 (.pick (.r 8) (.c (.bool true)) (.r 10))]) <|
 .cond (.r 11)
  (sq (.ops [op 4 (.mov (.c (.int .i64 0))),op 5 (.mov (.c (.int .i64 1)))]) <|
  .ret)
  (.skip)) <|
 sq (.ops [op 12 (.mov (.r 0)),cl 13 113 [(.r 12)],op 14 (.mov (.r 1)),op 15 (.cvi .u64 (.r 14)),op 16 (.bin .rem (.r 13) (.r 15)),op 17 (.cvi .i64 (.r 16)),op 4 (.mov (.r 17)),op 5 (.mov (.c (.int .i64 0)))]) <|
 .ret⟩
def an73:An:=⟨[],[]⟩
def ir73:Go.Rmp.Fn:=⟨8,1,[.t 2],
 sq (.ops [op 1 (.box (.r 0)),op 2 (.mov (.c (.int .u64 0)))]) <|
 sq (.ops [op 3 (.fad 1 (.r 1)),op 4 (.ld 1 false (.r 3)),op 5 (.bin .and (.r 4) (.c (.int .u64 15))),op 6 (.bin .add (.c (.int .u64 1)) (.r 5)),op 7 (.bin .mul (.c (.int .u64 65536)) (.r 6)),op 2 (.mov (.r 7))]) <|
 .ret⟩
def an74:An:=⟨[(13,6),(14,3),(15,8)],[(10,[(0,true),(1,true),(2,true),(3,true),(4,true),(5,true),(6,true),(7,true),(8,true),(9,true),(10,true),(11,true),(15,true),(12,false),(13,true),(14,true),(16,false)])]⟩
def ir74:Go.Rmp.Fn:=⟨95,5,[.t 10,.t 11],
 sq (.ops [op 10 (.mov (.c (.bool false))),op 11 (.mov (.c (.int .i64 0)))]) <|
 sq (sq (.ops [op 18 (.mov (.r 1)),op 19 (.mov (.r 2)),op 20 (.mov (.r 3)),cl 21 114 [(.r 18),(.r 19),(.r 20)],op 22 (.un .not (.r 21)),op 23 (.mov (.r 22)),⟨(some 24),.b (.mov (.r 4)),(some (23,false)),[]⟩,⟨(some 25),.call 115 [(.r 24)],(some (23,false)),[]⟩,⟨(some 26),.b (.un .not (.r 25)),(some (23,false)),[]⟩,op 27 (.pick (.r 23) (.c (.bool true)) (.r 26))]) <|
 .cond (.r 27)
  (sq (.ops [op 10 (.mov (.c (.bool false))),op 11 (.mov (.c (.int .i64 1)))]) <|
  .ret)
  (.skip)) <|
 sq (.ops [op 12 (.mov (.c (.bool false)))]) <|
 sq (sq (.ops [op 13 (.mov (.c (.int .i64 0)))]) <|
 .block 0 (
  .loop (
   sq (sq (.ops [op 28 (.mov (.r 13)),op 29 (.mov (.r 2)),op 30 (.len .sl (.r 29)),op 31 (.bin .lss (.r 28) (.r 30))]) <|
   .cond (.r 31)
    (.skip)
    (.exit 0)) <|
   sq (.block 1 (
    sq (.ops [op 35 (.mov (.r 0)),op 36 (.mov (.r 2)),op 37 (.mov (.r 13)),op 38 (.iad 2 (.r 36) (.r 37)),op 39 (.fad 0 (.r 38)),op 40 (.ld 1 false (.r 39)),op 41 (.mov (.r 1)),cl 42 116 [(.r 35),(.r 40),(.r 41)],op 34 (.mov (.r 42)),op 43 (.ext 0 (.r 34)),op 44 (.ext 1 (.r 34)),op 14 (.mov (.r 43)),op 15 (.mov (.r 44))]) <|
    sq (sq (.ops [op 45 (.mov (.r 15))]) <|
    .cond (.r 45)
     (.exit 1)
     (.skip)) <|
    sq (.ops [op 12 (.mov (.c (.bool true)))]) <|
    sq (.ops [op 46 (.mov (.r 2)),op 47 (.mov (.r 13)),op 48 (.iad 2 (.r 46) (.r 47)),op 49 (.fad 0 (.r 48)),op 50 (.ld 1 false (.r 49)),op 51 (.mov (.r 1)),op 52 (.mov (.r 2)),op 53 (.mov (.r 13)),op 54 (.iad 2 (.r 52) (.r 53)),op 55 (.fad 1 (.r 54)),op 56 (.ld 1 false (.r 55)),op 57 (.mov (.r 3)),op 16 (.alloc [.str ⟨#[]⟩,.int .u64 0,.str ⟨#[]⟩,.sl .nil [],.int .i64 0]),⟨(some 58),.b (.app 1 16 false (.c (.sl .nil [])) (.r 57)),none,[⟨50,.ld 1 false (.r 49),none⟩,⟨56,.ld 1 false (.r 55),none⟩]⟩,op 59 (.build [.str ⟨#[]⟩,.int .u64 0,.str ⟨#[]⟩,.sl .nil []] [(0,1,(.r 50)),(1,1,(.r 51)),(2,1,(.r 56)),(3,1,(.r 58))]),op 60 (.build [.str ⟨#[]⟩,.int .u64 0,.str ⟨#[]⟩,.sl .nil [],.int .i64 0] [(0,4,(.r 59)),(4,1,(.c (.int .i64 (-1))))]),ef (.st 5 (.r 16) (.r 60))]) <|
    sq (sq (.ops [op 61 (.mov (.r 1)),op 62 (.mov (.r 0)),op 63 (.mov (.r 2)),op 64 (.mov (.r 13)),op 65 (.iad 2 (.r 63) (.r 64)),op 66 (.fad 0 (.r 65)),op 67 (.ld 1 false (.r 66)),cl 68 117 [(.r 62),(.r 67)],op 69 (.bin .lss (.r 61) (.r 68))]) <|
    .cond (.r 69)
     (.ops [op 70 (.mov (.r 4)),op 71 (.fad 4 (.r 16)),ef (.st 1 (.r 71) (.r 70))])
     (.skip)) <|
    sq (.ops [op 72 (.mov (.r 0)),op 73 (.nilc (.r 72)),op 74 (.fad 0 (.r 73)),op 75 (.ld 1 false (.r 74)),op 76 (.mov (.r 14)),op 77 (.sll 5 (.r 75) none (some (.r 76)) none),op 78 (.app 5 72 true (.c (.sl .nil [])) (.r 77)),op 17 (.mov (.r 78))]) <|
    sq (.ops [op 79 (.mov (.r 17)),op 80 (.ld 5 true (.r 16)),op 81 (.bsl 1 [.str ⟨#[]⟩,.int .u64 0,.str ⟨#[]⟩,.sl .nil [],.int .i64 0] [(0,(.r 80))]),op 82 (.app 5 72 true (.r 79) (.r 81)),op 17 (.mov (.r 82))]) <|
    .ops [op 83 (.mov (.r 0)),op 84 (.mov (.r 17)),op 85 (.mov (.r 0)),op 86 (.nilc (.r 85)),op 87 (.fad 0 (.r 86)),op 88 (.ld 1 false (.r 87)),op 89 (.mov (.r 14)),op 90 (.sll 5 (.r 88) (some (.r 89)) none none),op 91 (.app 5 72 true (.r 84) (.r 90)),op 92 (.nilc (.r 83)),op 93 (.fad 0 (.r 92)),ef (.st 1 (.r 93) (.r 91))])) <|
   .ops [op 32 (.mov (.r 13)),op 33 (.bin .add (.r 32) (.c (.int .i64 1))),op 13 (.mov (.r 33))]))) <|
 sq (.ops [op 94 (.mov (.r 12)),op 10 (.mov (.r 94)),op 11 (.mov (.c (.int .i64 0)))]) <|
 .ret⟩
def an75:An:=⟨[],[(15,[(0,true),(1,true),(2,true),(3,true),(4,true),(5,true),(6,true),(7,true),(8,true),(9,true),(10,true),(11,true),(12,true),(13,true),(14,true),(15,true),(16,true),(17,true),(18,true),(19,true),(20,true),(21,true),(22,true),(23,true),(24,true),(25,true),(26,true),(27,true),(28,true),(29,false),(30,true),(31,true)])]⟩
def ir75:Go.Rmp.Fn:=⟨104,3,[.t 6,.t 7],
 sq (.ops [op 6 (.mov (.c (.int .i64 0))),op 7 (.mov (.c (.int .i64 0)))]) <|
 sq (sq (.ops [op 12 (.mov (.r 1)),cl 13 118 [(.r 12)],op 14 (.un .not (.r 13)),op 15 (.mov (.r 14)),⟨(some 16),.b (.mov (.r 2)),(some (15,false)),[]⟩,⟨(some 17),.call 115 [(.r 16)],(some (15,false)),[]⟩,⟨(some 18),.b (.un .not (.r 17)),(some (15,false)),[]⟩,op 19 (.pick (.r 15) (.c (.bool true)) (.r 18))]) <|
 .cond (.r 19)
  (sq (.ops [op 6 (.mov (.c (.int .i64 0))),op 7 (.mov (.c (.int .i64 1)))]) <|
  .ret)
  (.skip)) <|
 sq (.ops [op 8 (.mov (.c (.int .i64 0)))]) <|
 sq (sq (.ops [op 9 (.mov (.c (.int .i64 0)))]) <|
 .block 0 (
  .loop (
   sq (sq (.ops [op 20 (.mov (.r 9)),op 21 (.mov (.r 0)),op 22 (.nilc (.r 21)),op 23 (.fad 0 (.r 22)),op 24 (.ld 1 false (.r 23)),op 25 (.len .sl (.r 24)),op 26 (.bin .lss (.r 20) (.r 25))]) <|
   .cond (.r 26)
    (.skip)
    (.exit 0)) <|
   sq (.block 1 (
    sq (.ops [op 29 (.mov (.r 0)),op 30 (.nilc (.r 29)),op 31 (.fad 0 (.r 30)),op 32 (.ld 1 false (.r 31)),op 33 (.mov (.r 9)),op 34 (.iad 5 (.r 32) (.r 33)),op 35 (.fad 0 (.r 34)),op 36 (.ld 4 true (.r 35)),op 10 (.alloc [.str ⟨#[]⟩,.int .u64 0,.str ⟨#[]⟩,.sl .nil []]),ef (.st 4 (.r 10) (.r 36))]) <|
    sq (sq (.ops [op 37 (.fad 1 (.r 10)),op 38 (.ld 1 false (.r 37)),op 39 (.mov (.r 1)),op 40 (.bin .neq (.r 38) (.r 39))]) <|
    .cond (.r 40)
     (.exit 1)
     (.skip)) <|
    sq (.ops [op 41 (.mov (.r 8)),op 42 (.bin .add (.r 41) (.c (.int .i64 1))),op 8 (.mov (.r 42))]) <|
    sq (.ops [op 43 (.mov (.r 0)),op 44 (.fad 0 (.r 10)),op 45 (.ld 1 false (.r 44)),cl 46 117 [(.r 43),(.r 45)],op 47 (.mov (.r 1)),op 48 (.bin .lss (.r 46) (.r 47))]) <|
    .cond (.r 48)
     (.ops [op 49 (.mov (.r 0)),op 50 (.fad 0 (.r 10)),op 51 (.ld 1 false (.r 50)),op 52 (.mov (.r 1)),cl 53 119 [(.r 49),(.r 51),(.r 52)]])
     (.skip))) <|
   .ops [op 27 (.mov (.r 9)),op 28 (.bin .add (.r 27) (.c (.int .i64 1))),op 9 (.mov (.r 28))]))) <|
 sq (sq (.ops [op 11 (.mov (.c (.int .i64 0)))]) <|
 .block 2 (
  .loop (
   sq (sq (.ops [op 54 (.mov (.r 11)),op 55 (.mov (.r 0)),op 56 (.nilc (.r 55)),op 57 (.fad 0 (.r 56)),op 58 (.ld 1 false (.r 57)),op 59 (.len .sl (.r 58)),op 60 (.bin .lss (.r 54) (.r 59))]) <|
   .cond (.r 60)
    (.skip)
    (.exit 2)) <|
   sq (.block 3 (
    sq (.ops [op 63 (.mov (.r 0)),op 64 (.nilc (.r 63)),op 65 (.fad 0 (.r 64)),op 66 (.ld 1 false (.r 65)),op 67 (.mov (.r 11)),op 68 (.iad 5 (.r 66) (.r 67)),op 69 (.fad 4 (.r 68)),op 70 (.ld 1 false (.r 69)),op 71 (.bin .eql (.r 70) (.c (.int .i64 (-1)))),op 72 (.mov (.r 71)),⟨(some 73),.b (.mov (.r 0)),(some (72,true)),[]⟩,⟨(some 74),.b (.nilc (.r 73)),(some (72,true)),[]⟩,⟨(some 75),.b (.fad 0 (.r 74)),(some (72,true)),[]⟩,⟨(some 76),.b (.ld 1 false (.r 75)),(some (72,true)),[]⟩,⟨(some 77),.b (.mov (.r 11)),(some (72,true)),[]⟩,⟨(some 78),.b (.iad 5 (.r 76) (.r 77)),(some (72,true)),[]⟩,⟨(some 79),.b (.fad 0 (.r 78)),(some (72,true)),[]⟩,⟨(some 80),.b (.fad 1 (.r 79)),(some (72,true)),[]⟩,⟨(some 81),.b (.ld 1 false (.r 80)),(some (72,true)),[]⟩,⟨(some 82),.b (.mov (.r 0)),(some (72,true)),[]⟩,⟨(some 83),.b (.mov (.r 0)),(some (72,true)),[]⟩,⟨(some 84),.b (.nilc (.r 83)),(some (72,true)),[]⟩,⟨(some 85),.b (.fad 0 (.r 84)),(some (72,true)),[]⟩,⟨(some 86),.b (.ld 1 false (.r 85)),(some (72,true)),[]⟩,⟨(some 87),.b (.mov (.r 11)),(some (72,true)),[]⟩,⟨(some 88),.b (.iad 5 (.r 86) (.r 87)),(some (72,true)),[]⟩,⟨(some 89),.b (.fad 0 (.r 88)),(some (72,true)),[]⟩,⟨(some 90),.b (.fad 0 (.r 89)),(some (72,true)),[]⟩,⟨(some 91),.b (.ld 1 false (.r 90)),(some (72,true)),[]⟩,⟨(some 92),.call 117 [(.r 82),(.r 91)],(some (72,true)),[⟨76,.ld 1 false (.r 75),(some (72,true))⟩,⟨81,.ld 1 false (.r 80),(some (72,true))⟩]⟩,⟨(some 93),.b (.bin .lss (.r 81) (.r 92)),(some (72,true)),[]⟩,op 94 (.pick (.r 72) (.r 93) (.c (.bool false)))]) <|
    .cond (.r 94)
     (.ops [op 95 (.mov (.r 0)),op 96 (.nilc (.r 95)),op 97 (.fad 0 (.r 96)),op 98 (.ld 1 false (.r 97)),op 99 (.mov (.r 11)),op 100 (.mov (.r 2)),op 101 (.iad 5 (.r 98) (.r 99)),op 102 (.fad 4 (.r 101)),ef (.st 1 (.r 102) (.r 100))])
     (.skip))) <|
   .ops [op 61 (.mov (.r 11)),op 62 (.bin .add (.r 61) (.c (.int .i64 1))),op 11 (.mov (.r 62))]))) <|
 sq (.ops [op 103 (.mov (.r 8)),op 6 (.mov (.r 103)),op 7 (.mov (.c (.int .i64 0)))]) <|
 .ret⟩
def an76:An:=⟨[],[(2,[(0,true),(1,true),(2,true),(3,true),(4,true),(5,true),(6,true),(7,true),(8,true),(9,true),(10,false),(11,true)]),(7,[(0,true),(1,true),(2,true),(3,true),(4,true),(5,false)]),(8,[(0,true),(1,true),(2,true),(3,true),(4,true),(5,true),(6,true),(7,true),(8,true),(9,true),(10,true),(11,true),(12,false),(13,false)]),(9,[(0,true),(1,true),(2,true),(3,true),(4,true),(5,true),(6,true),(7,true),(8,true),(9,true),(10,true),(11,true),(12,false),(13,false)])]⟩
def ir76:Go.Rmp.Fn:=⟨71,3,[.t 6],
 sq (.ops [op 6 (.mov (.c (.int .i64 0)))]) <|
 sq (.ops [op 10 (.mov (.r 1)),op 11 (.mov (.r 2)),op 12 (.build [.str ⟨#[]⟩,.int .u64 0] [(0,1,(.r 10)),(1,1,(.r 11))]),op 7 (.alloc [.str ⟨#[]⟩,.int .u64 0]),ef (.st 2 (.r 7) (.r 12))]) <|
 sq (.ops [op 14 (.mov (.r 0)),op 15 (.nilc (.r 14)),op 16 (.fad 0 (.r 15)),op 17 (.ld 1 false (.r 16)),op 18 (.ld 2 true (.r 7)),op 19 (.lkp (.st [.str,.int]) (.agg [.str ⟨#[]⟩,.sl .nil [],.int .i64 0]) true (.r 17) (.r 18)),op 13 (.mov (.r 19)),op 20 (.ext 0 (.r 13)),op 21 (.ext 1 (.r 13)),op 8 (.alloc [.str ⟨#[]⟩,.sl .nil [],.int .i64 0]),ef (.st 3 (.r 8) (.r 20)),op 9 (.mov (.r 21))]) <|
 sq (sq (.ops [op 22 (.mov (.r 9)),op 23 (.un .not (.r 22))]) <|
 .cond (.r 23)
  (sq (.ops [op 6 (.mov (.c (.int .i64 110)))]) <|
  .ret)
  (.skip)) <|
 sq (sq (.ops [op 24 (.fad 2 (.r 8)),op 25 (.ld 1 false (.r 24)),op 26 (.bin .eql (.r 25) (.c (.int .i64 (-1))))]) <|
 .cond (.r 26)
  (sq (.ops [op 6 (.mov (.c (.int .i64 1)))]) <|
  .ret)
  (.skip)) <|
 sq (.ops [op 27 (.mov (.r 0)),op 28 (.nilc (.r 27)),op 29 (.fad 0 (.r 28)),op 30 (.ld 1 false (.r 29)),op 31 (.ld 2 true (.r 7)),ef (.del (.st [.str,.int]) (.r 30) (.r 31))]) <|
 sq (.ops [op 32 (.mov (.r 0)),op 33 (.nilc (.r 32)),op 34 (.fad 1 (.r 33)),op 35 (.ld 1 false (.r 34)),op 36 (.mov (.r 1)),op 37 (.mov (.r 0)),op 38 (.nilc (.r 37)),op 39 (.fad 1 (.r 38)),op 40 (.ld 1 false (.r 39)),op 41 (.mov (.r 1)),op 42 (.lkp (.sc .str) (.sl .nil []) false (.r 40) (.r 41)),op 43 (.mov (.r 2)),⟨(some 44),.call 120 [(.r 42),(.r 43)],none,[⟨35,.ld 1 false (.r 34),none⟩]⟩,ef (.upm (.sc .str) (.r 35) (.r 36) (.r 44))]) <|
 sq (.ops [op 45 (.mov (.r 0)),op 46 (.nilc (.r 45)),op 47 (.fad 2 (.r 46)),op 48 (.ld 1 false (.r 47)),op 49 (.mov (.r 2)),op 50 (.mov (.r 0)),op 51 (.nilc (.r 50)),op 52 (.fad 2 (.r 51)),op 53 (.ld 1 false (.r 52)),op 54 (.mov (.r 2)),op 55 (.lkp (.sc .int) (.sl .nil []) false (.r 53) (.r 54)),op 56 (.mov (.r 1)),⟨(some 57),.call 121 [(.r 55),(.r 56)],none,[⟨48,.ld 1 false (.r 47),none⟩]⟩,ef (.upm (.sc .int) (.r 48) (.r 49) (.r 57))]) <|
 sq (sq (.ops [op 58 (.mov (.r 0)),op 59 (.nilc (.r 58)),op 60 (.fad 2 (.r 59)),op 61 (.ld 1 false (.r 60)),op 62 (.mov (.r 2)),op 63 (.lkp (.sc .int) (.sl .nil []) false (.r 61) (.r 62)),op 64 (.len .sl (.r 63)),op 65 (.bin .eql (.r 64) (.c (.int .i64 0)))]) <|
 .cond (.r 65)
  (.ops [op 66 (.mov (.r 0)),op 67 (.nilc (.r 66)),op 68 (.fad 2 (.r 67)),op 69 (.ld 1 false (.r 68)),op 70 (.mov (.r 2)),ef (.del (.sc .int) (.r 69) (.r 70))])
  (.skip)) <|
 sq (.ops [op 6 (.mov (.c (.int .i64 0)))]) <|
 .ret⟩
def an77:An:=⟨[(6,6),(7,9)],[]⟩
def ir77:Go.Rmp.Fn:=⟨43,3,[.t 6],
 sq (.ops [op 6 (.mov (.c (.int .i64 0)))]) <|
 sq (.ops [op 11 (.mov (.r 0)),op 12 (.mov (.r 1)),op 13 (.mov (.r 2)),cl 14 116 [(.r 11),(.r 12),(.r 13)],op 10 (.mov (.r 14)),op 15 (.ext 0 (.r 10)),op 16 (.ext 1 (.r 10)),op 7 (.mov (.r 15)),op 8 (.mov (.r 16))]) <|
 sq (sq (.ops [op 17 (.mov (.r 8)),op 18 (.un .not (.r 17))]) <|
 .cond (.r 18)
  (sq (.ops [op 6 (.mov (.c (.int .i64 110)))]) <|
  .ret)
  (.skip)) <|
 sq (sq (.ops [op 19 (.mov (.r 2)),op 20 (.mov (.r 0)),op 21 (.mov (.r 1)),cl 22 117 [(.r 20),(.r 21)],op 23 (.bin .geq (.r 19) (.r 22))]) <|
 .cond (.r 23)
  (sq (.ops [op 6 (.mov (.c (.int .i64 1)))]) <|
  .ret)
  (.skip)) <|
 sq (.ops [op 24 (.mov (.r 0)),op 25 (.nilc (.r 24)),op 26 (.fad 0 (.r 25)),op 27 (.ld 1 false (.r 26)),op 28 (.mov (.r 7)),op 29 (.sll 5 (.r 27) none (some (.r 28)) none),op 30 (.app 5 72 true (.c (.sl .nil [])) (.r 29)),op 9 (.mov (.r 30))]) <|
 sq (.ops [op 31 (.mov (.r 0)),op 32 (.mov (.r 9)),op 33 (.mov (.r 0)),op 34 (.nilc (.r 33)),op 35 (.fad 0 (.r 34)),op 36 (.ld 1 false (.r 35)),op 37 (.mov (.r 7)),op 38 (.bin .add (.r 37) (.c (.int .i64 1))),op 39 (.sll 5 (.r 36) (some (.r 38)) none none),op 40 (.app 5 72 true (.r 32) (.r 39)),op 41 (.nilc (.r 31)),op 42 (.fad 0 (.r 41)),ef (.st 1 (.r 42) (.r 40))]) <|
 sq (.ops [op 6 (.mov (.c (.int .i64 0)))]) <|
 .ret⟩
def an78:An:=⟨[],[(14,[(0,true),(1,true),(2,true),(3,true),(4,true),(5,true),(6,true),(7,false),(8,true)])]⟩
def ir78:Go.Rmp.Fn:=⟨64,1,[.t 2],
 sq (.ops [op 2 (.mov (.c (.bool false)))]) <|
 sq (sq (.ops [op 9 (.mov (.r 0)),op 10 (.len .sl (.r 9)),op 11 (.bin .lss (.r 10) (.c (.int .i64 1))),op 12 (.mov (.r 11)),⟨(some 13),.b (.mov (.r 0)),(some (12,false)),[]⟩,⟨(some 14),.b (.len .sl (.r 13)),(some (12,false)),[]⟩,⟨(some 15),.b (.bin .gtr (.r 14) (.c (.int .i64 1024))),(some (12,false)),[]⟩,op 16 (.pick (.r 12) (.c (.bool true)) (.r 15))]) <|
 .cond (.r 16)
  (sq (.ops [op 2 (.mov (.c (.bool false)))]) <|
  .ret)
  (.skip)) <|
 sq (.ops [op 17 (.mkm),op 3 (.mov (.r 17))]) <|
 sq (.ops [op 18 (.mkm),op 4 (.mov (.r 18))]) <|
 sq (sq (.ops [op 19 (.mov (.r 0)),op 20 (.len .sl (.r 19)),op 21 (.mov (.c (.int .i64 0)))]) <|
 .block 0 (
  .loop (
   sq (.ops [op 22 (.bin .lss (.r 21) (.r 20))]) <|
   sq (.cond (.r 22)
    (.skip)
    (.exit 0)) <|
   sq (.block 1 (
    sq (.ops [op 23 (.mov (.r 21)),op 24 (.iad 4 (.r 19) (.r 21)),op 25 (.ld 4 true (.r 24)),op 6 (.alloc [.str ⟨#[]⟩,.int .u64 0,.str ⟨#[]⟩,.sl .nil []]),op 5 (.mov (.r 23)),ef (.st 4 (.r 6) (.r 25))]) <|
    sq (.ops [op 26 (.mov (.r 3)),op 27 (.fad 0 (.r 6)),op 28 (.ld 1 false (.r 27)),op 29 (.lkp (.sc .str) (.int .i64 0) false (.r 26) (.r 28)),op 30 (.bin .add (.r 29) (.c (.int .i64 1))),ef (.upm (.sc .str) (.r 26) (.r 28) (.r 30))]) <|
    sq (sq (.ops [op 31 (.ld 4 true (.r 6)),cl 32 122 [(.r 31)],op 33 (.un .not (.r 32)),op 34 (.mov (.r 33)),⟨(some 35),.b (.mov (.r 3)),(some (34,false)),[]⟩,⟨(some 36),.b (.fad 0 (.r 6)),(some (34,false)),[]⟩,⟨(some 37),.b (.ld 1 false (.r 36)),(some (34,false)),[]⟩,⟨(some 38),.b (.lkp (.sc .str) (.int .i64 0) false (.r 35) (.r 37)),(some (34,false)),[]⟩,⟨(some 39),.b (.bin .gtr (.r 38) (.c (.int .i64 1))),(some (34,false)),[]⟩,op 40 (.pick (.r 34) (.c (.bool true)) (.r 39))]) <|
    .cond (.r 40)
     (sq (.ops [op 2 (.mov (.c (.bool false)))]) <|
     .ret)
     (.skip)) <|
    sq (.ops [op 42 (.mov (.r 4)),op 43 (.fad 1 (.r 6)),op 44 (.ld 1 false (.r 43)),op 45 (.lkp (.sc .int) (.int .i64 0) true (.r 42) (.r 44)),op 41 (.mov (.r 45)),op 46 (.ext 0 (.r 41)),op 47 (.ext 1 (.r 41)),op 7 (.mov (.r 46)),op 8 (.mov (.r 47))]) <|
    sq (.ops [op 48 (.mov (.r 8)),op 49 (.un .not (.r 48))]) <|
    .cond (.r 49)
     (.ops [op 50 (.mov (.r 4)),op 51 (.fad 1 (.r 6)),op 52 (.ld 1 false (.r 51)),op 53 (.mov (.r 5)),ef (.upm (.sc .int) (.r 50) (.r 52) (.r 53))])
     (sq (.ops [op 54 (.mov (.r 0)),op 55 (.mov (.r 7)),op 56 (.iad 4 (.r 54) (.r 55)),op 57 (.fad 3 (.r 56)),op 58 (.ld 1 false (.r 57)),op 59 (.fad 3 (.r 6)),op 60 (.ld 1 false (.r 59)),cl 61 123 [(.r 58),(.r 60)],op 62 (.un .not (.r 61))]) <|
     .cond (.r 62)
      (sq (.ops [op 2 (.mov (.c (.bool false)))]) <|
      .ret)
      (.skip)))) <|
   .ops [op 63 (.bin .add (.r 21) (.c (.int .i64 1))),op 21 (.mov (.r 63))]))) <|
 sq (.ops [op 2 (.mov (.c (.bool true)))]) <|
 .ret⟩
def an79:An:=⟨[(7,2)],[(19,[(0,true),(1,true),(2,true),(3,true),(4,true),(5,true),(6,true),(7,true),(8,true),(9,true),(10,false)])]⟩
def ir79:Go.Rmp.Fn:=⟨74,1,[.t 2],
 sq (.ops [op 2 (.mov (.c (.sl .nil [])))]) <|
 sq (.ops [op 14 (.mkm),op 3 (.mov (.r 14))]) <|
 sq (sq (.ops [op 15 (.mov (.r 0)),op 16 (.len .sl (.r 15)),op 17 (.mov (.c (.int .i64 0)))]) <|
 .block 0 (
  .loop (
   sq (.ops [op 18 (.bin .lss (.r 17) (.r 16))]) <|
   sq (.cond (.r 18)
    (.skip)
    (.exit 0)) <|
   sq (.block 1 (
    sq (.ops [op 19 (.mov (.r 17)),op 20 (.iad 4 (.r 15) (.r 17)),op 21 (.ld 4 true (.r 20)),op 5 (.alloc [.str ⟨#[]⟩,.int .u64 0,.str ⟨#[]⟩,.sl .nil []]),op 4 (.mov (.r 19)),ef (.st 4 (.r 5) (.r 21))]) <|
    .ops [op 22 (.mov (.r 3)),op 23 (.fad 0 (.r 5)),op 24 (.ld 1 false (.r 23)),op 25 (.mov (.r 4)),ef (.upm (.sc .str) (.r 22) (.r 24) (.r 25))])) <|
   .ops [op 26 (.bin .add (.r 17) (.c (.int .i64 1))),op 17 (.mov (.r 26))]))) <|
 sq (.ops [op 27 (.mov (.r 0)),op 28 (.len .sl (.r 27)),op 29 (.mks true 8 [.int .u64 0] (.r 28) (.r 28)),op 6 (.mov (.r 29))]) <|
 sq (.ops [op 30 (.mkm),op 7 (.mov (.r 30))]) <|
 sq (sq (.ops [op 31 (.mov (.r 0)),op 32 (.len .sl (.r 31)),op 33 (.mov (.c (.int .i64 0)))]) <|
 .block 2 (
  .loop (
   sq (.ops [op 34 (.bin .lss (.r 33) (.r 32))]) <|
   sq (.cond (.r 34)
    (.skip)
    (.exit 2)) <|
   sq (.block 3 (
    sq (.ops [op 35 (.iad 4 (.r 31) (.r 33)),op 36 (.ld 4 true (.r 35)),op 9 (.alloc [.str ⟨#[]⟩,.int .u64 0,.str ⟨#[]⟩,.sl .nil []]),ef (.st 4 (.r 9) (.r 36))]) <|
    sq (sq (.ops [op 37 (.mov (.r 7)),op 38 (.fad 1 (.r 9)),op 39 (.ld 1 false (.r 38)),op 40 (.lkp (.sc .int) (.int .i64 0) false (.r 37) (.r 39)),op 41 (.bin .add (.r 40) (.c (.int .i64 1))),ef (.upm (.sc .int) (.r 37) (.r 39) (.r 41))]) <|
    sq (.ops [op 42 (.mov (.r 7)),op 43 (.fad 1 (.r 9)),op 44 (.ld 1 false (.r 43)),op 45 (.lkp (.sc .int) (.int .i64 0) false (.r 42) (.r 44)),op 46 (.bin .gtr (.r 45) (.c (.int .i64 1)))]) <|
    .cond (.r 46)
     (.exit 3)
     (.skip)) <|
    sq (.ops [op 47 (.fad 3 (.r 9)),op 48 (.ld 1 false (.r 47)),op 49 (.len .sl (.r 48)),op 50 (.mov (.c (.int .i64 0)))]) <|
    .block 4 (
     .loop (
      sq (.ops [op 51 (.bin .lss (.r 50) (.r 49))]) <|
      sq (.cond (.r 51)
       (.skip)
       (.exit 4)) <|
      sq (.block 5 (
       sq (.ops [op 52 (.iad 1 (.r 48) (.r 50)),op 53 (.ld 1 false (.r 52)),op 11 (.mov (.r 53))]) <|
       sq (.ops [op 55 (.mov (.r 3)),op 56 (.mov (.r 11)),op 57 (.lkp (.sc .str) (.int .i64 0) true (.r 55) (.r 56)),op 54 (.mov (.r 57)),op 58 (.ext 0 (.r 54)),op 59 (.ext 1 (.r 54)),op 12 (.mov (.r 58)),op 13 (.mov (.r 59))]) <|
       sq (.ops [op 60 (.mov (.r 13))]) <|
       .cond (.r 60)
        (.ops [op 61 (.mov (.r 6)),op 62 (.mov (.r 12)),op 63 (.mov (.r 6)),op 64 (.mov (.r 12)),op 65 (.iad 1 (.r 63) (.r 64)),op 66 (.ld 1 false (.r 65)),op 67 (.fad 1 (.r 9)),op 68 (.ld 1 false (.r 67)),op 69 (.mx (.r 66) (.r 68)),op 70 (.iad 1 (.r 61) (.r 62)),ef (.st 1 (.r 70) (.r 69))])
        (.skip))) <|
      .ops [op 71 (.bin .add (.r 50) (.c (.int .i64 1))),op 50 (.mov (.r 71))])))) <|
   .ops [op 72 (.bin .add (.r 33) (.c (.int .i64 1))),op 33 (.mov (.r 72))]))) <|
 sq (.ops [op 73 (.mov (.r 6)),op 2 (.mov (.r 73))]) <|
 .ret⟩
def an80:An:=⟨[],[(2,[(0,true),(1,true),(2,true),(3,true),(4,true),(5,true),(6,true),(7,true),(8,true),(9,true),(10,false),(11,true)])]⟩
def ir80:Go.Rmp.Fn:=⟨29,3,[.cl 6 4 true,.t 7],
 sq (.ops [op 6 (.alloc [.str ⟨#[]⟩,.int .u64 0,.str ⟨#[]⟩,.sl .nil []]),op 7 (.mov (.c (.int .i64 0)))]) <|
 sq (.ops [op 11 (.mov (.r 1)),op 12 (.mov (.r 2)),op 13 (.build [.str ⟨#[]⟩,.int .u64 0] [(0,1,(.r 11)),(1,1,(.r 12))]),op 8 (.alloc [.str ⟨#[]⟩,.int .u64 0]),ef (.st 2 (.r 8) (.r 13))]) <|
 sq (sq (.ops [op 15 (.mov (.r 0)),op 16 (.nilc (.r 15)),op 17 (.fad 0 (.r 16)),op 18 (.ld 1 false (.r 17)),op 19 (.ld 2 true (.r 8)),op 20 (.lkp (.st [.str,.int]) (.agg [.str ⟨#[]⟩,.sl .nil [],.int .i64 0]) true (.r 18) (.r 19)),op 14 (.mov (.r 20)),op 21 (.ext 0 (.r 14)),op 22 (.ext 1 (.r 14)),op 9 (.alloc [.str ⟨#[]⟩,.sl .nil [],.int .i64 0]),ef (.st 3 (.r 9) (.r 21)),op 10 (.mov (.r 22))]) <|
 sq (.ops [op 23 (.mov (.r 10)),op 24 (.un .not (.r 23))]) <|
 .cond (.r 24)
  (sq (.ops [op 25 (.build [.str ⟨#[]⟩,.int .u64 0,.str ⟨#[]⟩,.sl .nil []] []),ef (.st 4 (.r 6) (.r 25)),op 7 (.mov (.c (.int .i64 110)))]) <|
  .ret)
  (.skip)) <|
 sq (.ops [op 26 (.mov (.r 0)),op 27 (.ld 2 true (.r 8)),cl 28 91 [(.r 26),(.r 27)],ef (.st 4 (.r 6) (.r 28)),op 7 (.mov (.c (.int .i64 0)))]) <|
 .ret⟩
def an81:An:=⟨[],[]⟩
def ir81:Go.Rmp.Fn:=⟨4,1,[.t 2],
 sq (.ops [op 1 (.box (.r 0)),op 2 (.mov (.c .nilf))]) <|
 sq (.ops [op 3 (.mkf 124 [(.r 1)]),op 2 (.mov (.r 3))]) <|
 .ret⟩
def an82:An:=⟨[],[]⟩
def ir82:Go.Rmp.Fn:=⟨8,1,[.t 2],
 sq (.ops [op 2 (.mov (.c (.sl .nil [])))]) <|
 sq (sq (.ops [op 3 (.mov (.r 0)),op 4 (.eqr false .slice (.r 3) (.c (.sl .nil [])))]) <|
 .cond (.r 4)
  (sq (.ops [op 2 (.mov (.c (.sl .nil [])))]) <|
  .ret)
  (.skip)) <|
 sq (.ops [op 5 (.bsl 0 [.str ⟨#[]⟩] []),op 6 (.mov (.r 0)),op 7 (.app 1 16 false (.r 5) (.r 6)),op 2 (.mov (.r 7))]) <|
 .ret⟩
def an91:An:=⟨[],[(1,[(0,true),(1,true),(2,true),(3,true),(4,true),(5,true),(6,true),(7,false)]),(2,[(0,true),(1,true),(2,true),(3,true),(4,true),(5,true),(6,true),(7,true),(8,false),(9,true),(10,false)])]⟩
def ir91:Go.Rmp.Fn:=⟨22,2,[.cl 4 4 true],
 sq (.ops [op 3 (.box (.r 1)),op 4 (.alloc [.str ⟨#[]⟩,.int .u64 0,.str ⟨#[]⟩,.sl .nil []])]) <|
 sq (.ops [op 6 (.mov (.r 0)),op 7 (.nilc (.r 6)),op 8 (.fad 0 (.r 7)),op 9 (.ld 1 false (.r 8)),op 10 (.ld 2 true (.r 3)),op 11 (.lkp (.st [.str,.int]) (.agg [.str ⟨#[]⟩,.sl .nil [],.int .i64 0]) false (.r 9) (.r 10)),op 5 (.alloc [.str ⟨#[]⟩,.sl .nil [],.int .i64 0]),ef (.st 3 (.r 5) (.r 11))]) <|
 sq (.ops [op 12 (.fad 0 (.r 3)),op 13 (.ld 1 false (.r 12)),op 14 (.fad 1 (.r 3)),op 15 (.ld 1 false (.r 14)),op 16 (.fad 0 (.r 5)),op 17 (.ld 1 false (.r 16)),op 18 (.fad 1 (.r 5)),op 19 (.ld 1 false (.r 18)),⟨(some 20),.call 82 [(.r 19)],none,[⟨13,.ld 1 false (.r 12),none⟩,⟨15,.ld 1 false (.r 14),none⟩,⟨17,.ld 1 false (.r 16),none⟩]⟩,op 21 (.build [.str ⟨#[]⟩,.int .u64 0,.str ⟨#[]⟩,.sl .nil []] [(0,1,(.r 13)),(1,1,(.r 15)),(2,1,(.r 17)),(3,1,(.r 20))]),ef (.st 4 (.r 4) (.r 21))]) <|
 .ret⟩
def an93:An:=⟨[],[(6,[(0,true),(1,true),(2,true),(3,true),(4,true),(5,true),(6,true),(7,true),(8,true),(9,true),(10,true),(11,true),(12,true),(13,true),(14,true),(15,true),(16,true),(17,false),(18,true),(19,true),(20,true),(21,true),(22,true),(23,true),(24,true),(25,true)])]⟩
def ir93:Go.Rmp.Fn:=⟨55,3,[.t 6],
 sq (.ops [op 6 (.mov (.c (.bool false)))]) <|
 sq (sq (.ops [op 9 (.mov (.r 0)),op 10 (.bin .lss (.r 9) (.c (.int .u64 65536))),op 11 (.mov (.r 10)),⟨(some 12),.b (.mov (.r 2)),(some (11,false)),[]⟩,⟨(some 13),.call 133 [(.r 12)],(some (11,false)),[]⟩,⟨(some 14),.b (.un .not (.r 13)),(some (11,false)),[]⟩,op 15 (.pick (.r 11) (.c (.bool true)) (.r 14)),op 16 (.mov (.r 15)),⟨(some 17),.b (.mov (.r 1)),(some (16,false)),[]⟩,⟨(some 18),.b (.len .sl (.r 17)),(some (16,false)),[]⟩,⟨(some 19),.b (.bin .lss (.r 18) (.c (.int .i64 1))),(some (16,false)),[]⟩,op 20 (.pick (.r 16) (.c (.bool true)) (.r 19))]) <|
 .cond (.r 20)
  (sq (.ops [op 6 (.mov (.c (.bool false)))]) <|
  .ret)
  (.skip)) <|
 sq (sq (.ops [op 21 (.mov (.r 1)),op 22 (.len .sl (.r 21)),op 23 (.mov (.c (.int .i64 0)))]) <|
 .block 0 (
  .loop (
   sq (.ops [op 24 (.bin .lss (.r 23) (.r 22))]) <|
   sq (.cond (.r 24)
    (.skip)
    (.exit 0)) <|
   sq (.block 1 (
    sq (.ops [op 25 (.mov (.r 23)),op 26 (.iad 2 (.r 21) (.r 23)),op 27 (.ld 2 true (.r 26)),op 8 (.alloc [.str ⟨#[]⟩,.str ⟨#[]⟩]),op 7 (.mov (.r 25)),ef (.st 2 (.r 8) (.r 27))]) <|
    sq (.ops [op 28 (.mov (.r 7)),op 29 (.bin .gtr (.r 28) (.c (.int .i64 0))),op 30 (.mov (.r 29)),⟨(some 31),.b (.fad 0 (.r 8)),(some (30,true)),[]⟩,⟨(some 32),.b (.ld 1 false (.r 31)),(some (30,true)),[]⟩,⟨(some 33),.b (.mov (.r 1)),(some (30,true)),[]⟩,⟨(some 34),.b (.mov (.r 7)),(some (30,true)),[]⟩,⟨(some 35),.b (.bin .sub (.r 34) (.c (.int .i64 1))),(some (30,true)),[]⟩,⟨(some 36),.b (.iad 2 (.r 33) (.r 35)),(some (30,true)),[]⟩,⟨(some 37),.b (.fad 0 (.r 36)),(some (30,true)),[]⟩,⟨(some 38),.b (.ld 1 false (.r 37)),(some (30,true)),[]⟩,⟨(some 39),.b (.bin .leq (.r 32) (.r 38)),(some (30,true)),[]⟩,op 40 (.pick (.r 30) (.r 39) (.c (.bool false))),op 41 (.mov (.r 40)),⟨(some 42),.b (.mov (.r 2)),(some (41,false)),[]⟩,⟨(some 43),.b (.fad 0 (.r 8)),(some (41,false)),[]⟩,⟨(some 44),.b (.ld 1 false (.r 43)),(some (41,false)),[]⟩,⟨(some 45),.call 134 [(.r 42),(.r 44)],(some (41,false)),[]⟩,⟨(some 46),.b (.un .not (.r 45)),(some (41,false)),[]⟩,op 47 (.pick (.r 41) (.c (.bool true)) (.r 46)),op 48 (.mov (.r 47)),⟨(some 49),.b (.fad 1 (.r 8)),(some (48,false)),[]⟩,⟨(some 50),.b (.ld 1 false (.r 49)),(some (48,false)),[]⟩,⟨(some 51),.b (.len .str (.r 50)),(some (48,false)),[]⟩,⟨(some 52),.b (.bin .gtr (.r 51) (.c (.int .i64 65535))),(some (48,false)),[]⟩,op 53 (.pick (.r 48) (.c (.bool true)) (.r 52))]) <|
    .cond (.r 53)
     (sq (.ops [op 6 (.mov (.c (.bool false)))]) <|
     .ret)
     (.skip))) <|
   .ops [op 54 (.bin .add (.r 23) (.c (.int .i64 1))),op 23 (.mov (.r 54))]))) <|
 sq (.ops [op 6 (.mov (.c (.bool true)))]) <|
 .ret⟩
def an94:An:=⟨[],[]⟩
def ir94:Go.Rmp.Fn:=⟨9,1,[.t 2],
 sq (.ops [op 2 (.mov (.c (.bool false)))]) <|
 sq (.ops [op 3 (.mov (.r 0)),op 4 (.bin .geq (.r 3) (.c (.int .i64 0))),op 5 (.mov (.r 4)),⟨(some 6),.b (.mov (.r 0)),(some (5,true)),[]⟩,⟨(some 7),.b (.bin .leq (.r 6) (.c (.int .i64 1099511627776))),(some (5,true)),[]⟩,op 8 (.pick (.r 5) (.r 7) (.c (.bool false))),op 2 (.mov (.r 8))]) <|
 .ret⟩
def an95:An:=⟨[(3,16),(4,16)],[(1,[(0,true),(1,true),(2,true),(3,true),(4,true),(5,true),(6,false)]),(2,[(0,true),(1,true),(2,true),(3,true),(4,true),(5,true),(6,true),(7,true),(8,true),(9,false),(10,true),(11,true),(12,true),(13,true),(14,true)]),(3,[(0,true),(1,true),(2,true),(3,true),(4,true),(5,true),(6,true),(7,true),(8,true),(9,true),(10,true),(11,true),(12,true),(13,true),(14,true),(15,true),(16,false),(17,false),(18,false)]),(4,[(0,true),(1,true),(2,true),(3,true),(4,true),(5,true),(6,true),(7,true),(8,true),(9,true),(10,true),(11,true),(12,true),(13,true),(14,true),(15,true),(16,false),(17,false)])]⟩
def ir95:Go.Rmp.Fn:=⟨62,3,[],
 sq (.ops [op 4 (.box (.r 1)),op 5 (.box (.r 2))]) <|
 sq (.ops [op 8 (.mov (.r 0)),op 9 (.nilc (.r 8)),op 10 (.fad 0 (.r 9)),op 11 (.ld 1 false (.r 10)),op 12 (.ld 2 true (.r 4)),op 13 (.ld 3 true (.r 5)),ef (.upm (.st [.str,.int]) (.r 11) (.r 12) (.r 13))]) <|
 sq (.ops [op 15 (.mov (.r 0)),op 16 (.nilc (.r 15)),op 17 (.fad 1 (.r 16)),op 18 (.ld 1 false (.r 17)),op 19 (.fad 0 (.r 4)),op 20 (.ld 1 false (.r 19)),op 21 (.lkp (.sc .str) (.sl .nil []) false (.r 18) (.r 20)),op 22 (.fad 1 (.r 4)),op 23 (.ld 1 false (.r 22)),cl 24 135 [(.r 21),(.r 23)],op 14 (.mov (.r 24)),op 25 (.ext 0 (.r 14)),op 26 (.ext 1 (.r 14)),op 6 (.mov (.r 25)),op 7 (.mov (.r 26))]) <|
 sq (.ops [op 27 (.mov (.r 0)),op 28 (.nilc (.r 27)),op 29 (.fad 1 (.r 28)),op 30 (.ld 1 false (.r 29)),op 31 (.fad 0 (.r 4)),op 32 (.ld 1 false (.r 31)),op 33 (.mov (.r 0)),op 34 (.nilc (.r 33)),op 35 (.fad 1 (.r 34)),op 36 (.ld 1 false (.r 35)),op 37 (.fad 0 (.r 4)),op 38 (.ld 1 false (.r 37)),op 39 (.lkp (.sc .str) (.sl .nil []) false (.r 36) (.r 38)),op 40 (.mov (.r 6)),op 41 (.fad 1 (.r 4)),op 42 (.ld 1 false (.r 41)),⟨(some 43),.b (.bsm 1 [.int .u64 0] [(0,(.r 42))]),none,[⟨30,.ld 1 false (.r 29),none⟩,⟨32,.ld 1 false (.r 31),none⟩,⟨36,.ld 1 false (.r 35),none⟩,⟨38,.ld 1 false (.r 37),none⟩,⟨39,.lkp (.sc .str) (.sl .nil []) false (.r 36) (.r 38),none⟩]⟩,⟨(some 44),.call 136 [(.r 39),(.r 40),(.r 43)],none,[⟨30,.ld 1 false (.r 29),none⟩,⟨32,.ld 1 false (.r 31),none⟩]⟩,ef (.upm (.sc .str) (.r 30) (.r 32) (.r 44))]) <|
 .ops [op 45 (.mov (.r 0)),op 46 (.nilc (.r 45)),op 47 (.fad 2 (.r 46)),op 48 (.ld 1 false (.r 47)),op 49 (.fad 1 (.r 4)),op 50 (.ld 1 false (.r 49)),op 51 (.mov (.r 0)),op 52 (.nilc (.r 51)),op 53 (.fad 2 (.r 52)),op 54 (.ld 1 false (.r 53)),op 55 (.fad 1 (.r 4)),op 56 (.ld 1 false (.r 55)),op 57 (.lkp (.sc .int) (.sl .nil []) false (.r 54) (.r 56)),op 58 (.fad 0 (.r 4)),op 59 (.ld 1 false (.r 58)),op 60 (.bsl 1 [.str ⟨#[]⟩] [(0,(.r 59))]),⟨(some 61),.b (.app 1 16 true (.r 57) (.r 60)),none,[⟨48,.ld 1 false (.r 47),none⟩,⟨50,.ld 1 false (.r 49),none⟩]⟩,ef (.upm (.sc .int) (.r 48) (.r 50) (.r 61))]⟩
def an96:An:=⟨[],[]⟩
def ir96:Go.Rmp.Fn:=⟨21,1,[.t 2],
 sq (.ops [op 1 (.box (.r 0)),op 2 (.mov (.c (.bool false)))]) <|
 sq (.ops [op 3 (.fad 0 (.r 1)),op 4 (.ld 1 false (.r 3)),op 5 (.bin .geq (.r 4) (.c (.int .i64 1))),op 6 (.mov (.r 5)),⟨(some 7),.b (.fad 0 (.r 1)),(some (6,true)),[]⟩,⟨(some 8),.b (.ld 1 false (.r 7)),(some (6,true)),[]⟩,⟨(some 9),.b (.bin .leq (.r 8) (.c (.int .i64 65536))),(some (6,true)),[]⟩,op 10 (.pick (.r 6) (.r 9) (.c (.bool false))),op 11 (.mov (.r 10)),⟨(some 12),.b (.fad 1 (.r 1)),(some (11,true)),[]⟩,⟨(some 13),.b (.ld 1 false (.r 12)),(some (11,true)),[]⟩,⟨(some 14),.b (.bin .geq (.r 13) (.c (.int .i64 1))),(some (11,true)),[]⟩,op 15 (.pick (.r 11) (.r 14) (.c (.bool false))),op 16 (.mov (.r 15)),⟨(some 17),.b (.fad 1 (.r 1)),(some (16,true)),[]⟩,⟨(some 18),.b (.ld 1 false (.r 17)),(some (16,true)),[]⟩,⟨(some 19),.b (.bin .leq (.r 18) (.c (.int .i64 16))),(some (16,true)),[]⟩,op 20 (.pick (.r 16) (.r 19) (.c (.bool false))),op 2 (.mov (.r 20))]) <|
 .ret⟩
def an97:An:=⟨[],[]⟩
def ir97:Go.Rmp.Fn:=⟨7,1,[.t 2],
 sq (.ops [op 1 (.box (.r 0)),op 2 (.mov (.c (.int .i64 0)))]) <|
 sq (.ops [op 3 (.fad 0 (.r 1)),op 4 (.ld 1 false (.r 3)),op 5 (.bin .add (.r 4) (.c (.int .i64 7))),op 6 (.bin .quo (.r 5) (.c (.int .i64 8))),op 2 (.mov (.r 6))]) <|
 .ret⟩
def an98:An:=⟨[],[]⟩
def ir98:Go.Rmp.Fn:=⟨19,2,[.t 4],
 sq (.ops [op 4 (.mov (.c (.int .i64 0)))]) <|
 sq (sq (.ops [op 6 (.mov (.r 0)),op 7 (.len .sl (.r 6)),op 8 (.mov (.c (.int .i64 0)))]) <|
 .block 0 (
  .loop (
   sq (.ops [op 9 (.bin .lss (.r 8) (.r 7))]) <|
   sq (.cond (.r 9)
    (.skip)
    (.exit 0)) <|
   sq (.block 1 (
    sq (.ops [op 10 (.mov (.r 8)),op 5 (.mov (.r 10))]) <|
    sq (.ops [op 11 (.mov (.r 1)),op 12 (.mov (.r 0)),op 13 (.mov (.r 5)),op 14 (.iad 1 (.r 12) (.r 13)),op 15 (.ld 1 false (.r 14)),op 16 (.bin .eql (.r 11) (.r 15))]) <|
    .cond (.r 16)
     (sq (.ops [op 17 (.mov (.r 5)),op 4 (.mov (.r 17))]) <|
     .ret)
     (.skip))) <|
   .ops [op 18 (.bin .add (.r 8) (.c (.int .i64 1))),op 8 (.mov (.r 18))]))) <|
 sq (.ops [op 4 (.mov (.c (.int .i64 (-1))))]) <|
 .ret⟩
def an99:An:=⟨[],[]⟩
def ir99:Go.Rmp.Fn:=⟨33,2,[.t 4],
 sq (.ops [op 2 (.box (.r 0)),op 4 (.mov (.c (.sl .nil [])))]) <|
 sq (.ops [op 9 (.mov (.r 1)),cl 10 112 [(.r 9)],op 5 (.mov (.r 10))]) <|
 sq (.ops [op 11 (.mov (.r 5)),op 12 (.bin .shr (.r 11) (.c (.int .u64 32))),op 13 (.mov (.r 5)),op 14 (.bin .and (.r 13) (.c (.int .u64 4294967295))),op 6 (.mov (.r 12)),op 7 (.mov (.r 14))]) <|
 sq (.ops [op 8 (.mov (.c (.sl .nil [])))]) <|
 sq (sq (.ops [op 15 (.fad 1 (.r 2)),op 16 (.ld 1 false (.r 15)),op 17 (.mov (.c (.int .i64 0)))]) <|
 .block 0 (
  .loop (
   sq (.ops [op 18 (.bin .lss (.r 17) (.r 16))]) <|
   sq (.cond (.r 18)
    (.skip)
    (.exit 0)) <|
   sq (.block 1 (
    sq (.ops [op 19 (.mov (.r 8)),op 20 (.mov (.r 6)),op 21 (.fad 0 (.r 2)),op 22 (.ld 1 false (.r 21)),op 23 (.cvi .u64 (.r 22)),op 24 (.bin .rem (.r 20) (.r 23)),op 25 (.cvi .i64 (.r 24)),op 26 (.bsl 1 [.int .i64 0] [(0,(.r 25))]),op 27 (.app 1 8 false (.r 19) (.r 26)),op 8 (.mov (.r 27))]) <|
    .ops [op 28 (.mov (.r 6)),op 29 (.mov (.r 7)),op 30 (.bin .add (.r 28) (.r 29)),op 6 (.mov (.r 30))])) <|
   .ops [op 31 (.bin .add (.r 17) (.c (.int .i64 1))),op 17 (.mov (.r 31))]))) <|
 sq (.ops [op 32 (.mov (.r 8)),op 4 (.mov (.r 32))]) <|
 .ret⟩
def an103:An:=⟨[],[(2,[(0,true),(1,true),(2,true),(3,true),(4,true),(5,true),(6,true),(7,true),(8,true),(9,true),(10,true)])]⟩
def ir103:Go.Rmp.Fn:=⟨39,1,[.t 2,.t 3],
 sq (.ops [op 1 (.box (.r 0)),op 2 (.mov (.c .nilp)),op 3 (.mov (.c (.bool false)))]) <|
 sq (sq (.ops [op 6 (.fad 1 (.r 1)),op 7 (.ld 1 false (.r 6)),op 8 (.bin .eql (.r 7) (.c (.int .u64 0)))]) <|
 .cond (.r 8)
  (sq (.ops [op 9 (.fad 2 (.r 1)),op 10 (.ld 1 false (.r 9)),op 11 (.bin .eql (.r 10) (.c (.str ⟨#[]⟩))),op 12 (.mov (.r 11)),⟨(some 13),.b (.fad 3 (.r 1)),(some (12,true)),[]⟩,⟨(some 14),.b (.ld 1 false (.r 13)),(some (12,true)),[]⟩,⟨(some 15),.b (.len .sl (.r 14)),(some (12,true)),[]⟩,⟨(some 16),.b (.bin .eql (.r 15) (.c (.int .i64 0))),(some (12,true)),[]⟩,op 17 (.pick (.r 12) (.r 16) (.c (.bool false))),op 2 (.mov (.c .nilp)),op 3 (.mov (.r 17))]) <|
  .ret)
  (.skip)) <|
 sq (.ops [op 19 (.fad 3 (.r 1)),op 20 (.ld 1 false (.r 19)),cl 21 137 [(.r 20)],op 18 (.mov (.r 21)),op 22 (.ext 0 (.r 18)),op 23 (.ext 1 (.r 18)),op 4 (.mov (.r 22)),op 5 (.mov (.r 23))]) <|
 sq (sq (.ops [op 24 (.fad 1 (.r 1)),op 25 (.ld 1 false (.r 24)),op 26 (.bin .lss (.r 25) (.c (.int .u64 65536))),op 27 (.mov (.r 26)),⟨(some 28),.b (.mov (.r 5)),(some (27,false)),[]⟩,⟨(some 29),.b (.bin .neq (.r 28) (.c (.int .i64 0))),(some (27,false)),[]⟩,op 30 (.pick (.r 27) (.c (.bool true)) (.r 29)),op 31 (.mov (.r 30)),⟨(some 32),.b (.mov (.r 4)),(some (31,false)),[]⟩,⟨(some 33),.b (.fad 0 (.r 1)),(some (31,false)),[]⟩,⟨(some 34),.b (.ld 1 false (.r 33)),(some (31,false)),[]⟩,⟨(some 35),.call 55 [(.r 32),(.r 34)],(some (31,false)),[]⟩,⟨(some 36),.b (.un .not (.r 35)),(some (31,false)),[]⟩,op 37 (.pick (.r 31) (.c (.bool true)) (.r 36))]) <|
 .cond (.r 37)
  (sq (.ops [op 2 (.mov (.c .nilp)),op 3 (.mov (.c (.bool false)))]) <|
  .ret)
  (.skip)) <|
 sq (.ops [op 38 (.mov (.r 4)),op 2 (.mov (.r 38)),op 3 (.mov (.c (.bool true)))]) <|
 .ret⟩
def an104:An:=⟨[],[]⟩
def ir104:Go.Rmp.Fn:=⟨9,2,[.t 4],
 sq (.ops [op 4 (.mov (.c (.bool false)))]) <|
 sq (.ops [op 5 (.mov (.r 0)),op 6 (.mov (.r 1)),cl 7 138 [(.r 5),(.r 6)],op 8 (.bin .geq (.r 7) (.c (.int .i64 0))),op 4 (.mov (.r 8))]) <|
 .ret⟩
def an105:An:=⟨[],[]⟩
def ir105:Go.Rmp.Fn:=⟨17,2,[.t 3],
 sq (.ops [op 3 (.mov (.c (.bool false)))]) <|
 sq (.ops [op 4 (.ld 1 false (.r 1)),op 5 (.nilc (.r 4)),op 6 (.fad 2 (.r 5)),op 7 (.ld 1 false (.r 6)),op 8 (.mov (.r 0)),op 9 (.bin .quo (.r 8) (.c (.int .i64 8))),op 10 (.iad 1 (.r 7) (.r 9)),op 11 (.ld 1 false (.r 10)),op 12 (.mov (.r 0)),op 13 (.bin .rem (.r 12) (.c (.int .i64 8))),op 14 (.bin .shr (.r 11) (.r 13)),op 15 (.bin .and (.r 14) (.c (.int .u8 1))),op 16 (.bin .eql (.r 15) (.c (.int .u8 0))),op 3 (.mov (.r 16))]) <|
 .ret⟩
def an106:An:=⟨[],[(17,[(0,true),(1,true),(2,true),(3,true),(4,true),(5,true),(6,true),(7,true),(8,true),(9,true),(10,true),(11,true),(12,false),(13,true),(14,true)])]⟩
def ir106:Go.Rmp.Fn:=⟨134,4,[],
 sq (.ops [op 8 (.mov (.c (.bool true)))]) <|
 sq (.ops [op 9 (.mov (.c (.bool true)))]) <|
 .block 0 (
  .loop (
   .block 1 (
    sq (.ops [op 19 (.mov (.r 2)),op 20 (.mov (.r 1)),op 21 (.bin .sub (.r 19) (.r 20)),op 10 (.mov (.r 21))]) <|
    sq (sq (.ops [op 22 (.mov (.r 10)),op 23 (.bin .leq (.r 22) (.c (.int .i64 12)))]) <|
    .cond (.r 23)
     (sq (.ops [op 24 (.mov (.r 0)),op 25 (.mov (.r 1)),op 26 (.mov (.r 2)),cl 27 139 [(.r 24),(.r 25),(.r 26)]]) <|
     .ret)
     (.skip)) <|
    sq (sq (.ops [op 28 (.mov (.r 3)),op 29 (.bin .eql (.r 28) (.c (.int .i64 0)))]) <|
    .cond (.r 29)
     (sq (.ops [op 30 (.mov (.r 0)),op 31 (.mov (.r 1)),op 32 (.mov (.r 2)),cl 33 140 [(.r 30),(.r 31),(.r 32)]]) <|
     .ret)
     (.skip)) <|
    sq (sq (.ops [op 34 (.mov (.r 8)),op 35 (.un .not (.r 34))]) <|
    .cond (.r 35)
     (sq (.ops [op 36 (.mov (.r 0)),op 37 (.mov (.r 1)),op 38 (.mov (.r 2)),cl 39 141 [(.r 36),(.r 37),(.r 38)]]) <|
     .ops [op 40 (.mov (.r 3)),op 41 (.bin .sub (.r 40) (.c (.int .i64 1))),op 3 (.mov (.r 41))])
     (.skip)) <|
    sq (.ops [op 43 (.mov (.r 0)),op 44 (.mov (.r 1)),op 45 (.mov (.r 2)),cl 46 142 [(.r 43),(.r 44),(.r 45)],op 42 (.mov (.r 46)),op 47 (.ext 0 (.r 42)),op 48 (.ext 1 (.r 42)),op 11 (.mov (.r 47)),op 12 (.mov (.r 48))]) <|
    sq (sq (.ops [op 49 (.mov (.r 12)),op 50 (.bin .eql (.r 49) (.c (.int .i64 2)))]) <|
    .cond (.r 50)
     (sq (.ops [op 51 (.mov (.r 0)),op 52 (.mov (.r 1)),op 53 (.mov (.r 2)),cl 54 143 [(.r 51),(.r 52),(.r 53)]]) <|
     sq (.ops [op 55 (.mov (.r 2)),op 56 (.bin .sub (.r 55) (.c (.int .i64 1))),op 57 (.mov (.r 11)),op 58 (.mov (.r 1)),op 59 (.bin .sub (.r 57) (.r 58)),op 60 (.bin .sub (.r 56) (.r 59)),op 11 (.mov (.r 60))]) <|
     .ops [op 12 (.mov (.c (.int .i64 1)))])
     (.skip)) <|
    sq (sq (.ops [op 61 (.mov (.r 8)),op 62 (.mov (.r 61)),⟨(some 63),.b (.mov (.r 9)),(some (62,true)),[]⟩,op 64 (.pick (.r 62) (.r 63) (.c (.bool false))),op 65 (.mov (.r 64)),⟨(some 66),.b (.mov (.r 12)),(some (65,true)),[]⟩,⟨(some 67),.b (.bin .eql (.r 66) (.c (.int .i64 1))),(some (65,true)),[]⟩,op 68 (.pick (.r 65) (.r 67) (.c (.bool false)))]) <|
    .cond (.r 68)
     (sq (.ops [op 69 (.mov (.r 0)),op 70 (.mov (.r 1)),op 71 (.mov (.r 2)),cl 72 144 [(.r 69),(.r 70),(.r 71)]]) <|
     .cond (.r 72)
      (.ret)
      (.skip))
     (.skip)) <|
    sq (sq (.ops [op 73 (.mov (.r 1)),op 74 (.bin .gtr (.r 73) (.c (.int .i64 0))),op 75 (.mov (.r 74)),⟨(some 76),.b (.mov (.r 0)),(some (75,true)),[]⟩,⟨(some 77),.b (.mov (.r 1)),(some (75,true)),[]⟩,⟨(some 78),.b (.bin .sub (.r 77) (.c (.int .i64 1))),(some (75,true)),[]⟩,⟨(some 79),.b (.iad 1 (.r 76) (.r 78)),(some (75,true)),[]⟩,⟨(some 80),.b (.ld 1 false (.r 79)),(some (75,true)),[]⟩,⟨(some 81),.b (.mov (.r 0)),(some (75,true)),[]⟩,⟨(some 82),.b (.mov (.r 11)),(some (75,true)),[]⟩,⟨(some 83),.b (.iad 1 (.r 81) (.r 82)),(some (75,true)),[]⟩,⟨(some 84),.b (.ld 1 false (.r 83)),(some (75,true)),[]⟩,⟨(some 85),.call 145 [(.r 80),(.r 84)],(some (75,true)),[]⟩,⟨(some 86),.b (.un .not (.r 85)),(some (75,true)),[]⟩,op 87 (.pick (.r 75) (.r 86) (.c (.bool false)))]) <|
    .cond (.r 87)
     (sq (.ops [op 88 (.mov (.r 0)),op 89 (.mov (.r 1)),op 90 (.mov (.r 2)),op 91 (.mov (.r 11)),cl 92 146 [(.r 88),(.r 89),(.r 90),(.r 91)],op 13 (.mov (.r 92))]) <|
     sq (.ops [op 93 (.mov (.r 13)),op 1 (.mov (.r 93))]) <|
     .exit 1)
     (.skip)) <|
    sq (.ops [op 95 (.mov (.r 0)),op 96 (.mov (.r 1)),op 97 (.mov (.r 2)),op 98 (.mov (.r 11)),cl 99 147 [(.r 95),(.r 96),(.r 97),(.r 98)],op 94 (.mov (.r 99)),op 100 (.ext 0 (.r 94)),op 101 (.ext 1 (.r 94)),op 14 (.mov (.r 100)),op 15 (.mov (.r 101))]) <|
    sq (.ops [op 102 (.mov (.r 15)),op 9 (.mov (.r 102))]) <|
    sq (.ops [op 103 (.mov (.r 14)),op 104 (.mov (.r 1)),op 105 (.bin .sub (.r 103) (.r 104)),op 106 (.mov (.r 2)),op 107 (.mov (.r 14)),op 108 (.bin .sub (.r 106) (.r 107)),op 16 (.mov (.r 105)),op 17 (.mov (.r 108))]) <|
    sq (.ops [op 109 (.mov (.r 10)),op 110 (.bin .quo (.r 109) (.c (.int .i64 8))),op 18 (.mov (.r 110))]) <|
    sq (.ops [op 111 (.mov (.r 16)),op 112 (.mov (.r 17)),op 113 (.bin .lss (.r 111) (.r 112))]) <|
    .cond (.r 113)
     (sq (.ops [op 114 (.mov (.r 16)),op 115 (.mov (.r 18)),op 116 (.bin .geq (.r 114) (.r 115)),op 8 (.mov (.r 116))]) <|
     sq (.ops [op 117 (.mov (.r 0)),op 118 (.mov (.r 1)),op 119 (.mov (.r 14)),op 120 (.mov (.r 3)),cl 121 106 [(.r 117),(.r 118),(.r 119),(.r 120)]]) <|
     .ops [op 122 (.mov (.r 14)),op 123 (.bin .add (.r 122) (.c (.int .i64 1))),op 1 (.mov (.r 123))])
     (sq (.ops [op 124 (.mov (.r 17)),op 125 (.mov (.r 18)),op 126 (.bin .geq (.r 124) (.r 125)),op 8 (.mov (.r 126))]) <|
     sq (.ops [op 127 (.mov (.r 0)),op 128 (.mov (.r 14)),op 129 (.bin .add (.r 128) (.c (.int .i64 1))),op 130 (.mov (.r 2)),op 131 (.mov (.r 3)),cl 132 106 [(.r 127),(.r 129),(.r 130),(.r 131)]]) <|
     .ops [op 133 (.mov (.r 14)),op 2 (.mov (.r 133))]))))⟩
def an107:An:=⟨[],[]⟩
def ir107:Go.Rmp.Fn:=⟨8,1,[.t 2],
 sq (.ops [op 2 (.mov (.c (.int .i64 0)))]) <|
 sq (.cond (.c (.bool false))
  (sq (.ops [op 3 (.mov (.r 0)),op 4 (.cvi .u32 (.r 3)),cl 5 148 [(.r 4)],op 2 (.mov (.r 5))]) <|
  .ret)
  (.skip)) <|
 sq (.ops [op 6 (.mov (.r 0)),cl 7 149 [(.r 6)],op 2 (.mov (.r 7))]) <|
 .ret⟩
def an108:An:=⟨[],[]⟩
def ir108:Go.Rmp.Fn:=⟨9,2,[.t 4],
 sq (.ops [op 4 (.mov (.c (.bool false)))]) <|
 sq (.ops [op 5 (.mov (.r 0)),op 6 (.mov (.r 1)),cl 7 150 [(.r 5),(.r 6)],op 8 (.bin .geq (.r 7) (.c (.int .i64 0))),op 4 (.mov (.r 8))]) <|
 .ret⟩
def an109:An:=⟨[],[(4,[(0,true),(1,true),(2,true),(3,true),(4,true),(5,true),(6,true),(7,true),(8,true),(9,true)])]⟩
def ir109:Go.Rmp.Fn:=⟨20,1,[.t 2],
 sq (.ops [op 2 (.mov (.c (.bool false)))]) <|
 sq (sq (.ops [op 3 (.mov (.c (.int .i64 1)))]) <|
 .block 0 (
  .loop (
   sq (sq (.ops [op 4 (.mov (.r 3)),op 5 (.mov (.r 0)),op 6 (.len .sl (.r 5)),op 7 (.bin .lss (.r 4) (.r 6))]) <|
   .cond (.r 7)
    (.skip)
    (.exit 0)) <|
   sq (.block 1 (
    sq (.ops [op 10 (.mov (.r 0)),op 11 (.mov (.r 3)),op 12 (.bin .sub (.r 11) (.c (.int .i64 1))),op 13 (.iad 1 (.r 10) (.r 12)),op 14 (.ld 1 false (.r 13)),op 15 (.mov (.r 0)),op 16 (.mov (.r 3)),op 17 (.iad 1 (.r 15) (.r 16)),op 18 (.ld 1 false (.r 17)),op 19 (.bin .geq (.r 14) (.r 18))]) <|
    .cond (.r 19)
     (sq (.ops [op 2 (.mov (.c (.bool false)))]) <|
     .ret)
     (.skip))) <|
   .ops [op 8 (.mov (.r 3)),op 9 (.bin .add (.r 8) (.c (.int .i64 1))),op 3 (.mov (.r 9))]))) <|
 sq (.ops [op 2 (.mov (.c (.bool true)))]) <|
 .ret⟩
def an110:An:=⟨[],[]⟩
def ir110:Go.Rmp.Fn:=⟨9,1,[.t 2],
 sq (.ops [op 2 (.mov (.c (.sl .nil [])))]) <|
 sq (.ops [op 4 (.mov (.r 0)),cl 5 151 [(.r 4)],op 3 (.mov (.r 5))]) <|
 sq (.ops [op 6 (.mov (.r 3)),cl 7 152 [(.r 6)]]) <|
 sq (.ops [op 8 (.mov (.r 3)),op 2 (.mov (.r 8))]) <|
 .ret⟩
def an111:An:=⟨[],[]⟩
def ir111:Go.Rmp.Fn:=⟨4,1,[.t 2],
 sq (.ops [op 1 (.box (.r 0)),op 2 (.mov (.c .nilf))]) <|
 sq (.ops [op 3 (.mkf 153 [(.r 1)]),op 2 (.mov (.r 3))]) <|
 .ret⟩
def an112:An:=⟨[],[]⟩
def ir112:Go.Rmp.Fn:=⟨6,1,[.t 2],
 sq (.ops [op 2 (.mov (.c (.int .u64 0)))]) <|
 sq (.ops [cl 3 155 [],op 4 (.mov (.r 0)),cl 5 154 [(.r 3),(.r 4)],op 2 (.mov (.r 5))]) <|
 .ret⟩
def an113:An:=⟨[],[]⟩
def ir113:Go.Rmp.Fn:=⟨5,1,[.t 2],
 sq (.ops [op 2 (.mov (.c (.int .u64 0)))]) <|
 sq (.ops [op 3 (.mov (.r 0)),cl 4 156 [(.c (.int .u64 14695981039346656037)),(.r 3)],op 2 (.mov (.r 4))]) <|
 .ret⟩
def an114:An:=⟨[],[(7,[(0,true),(1,true),(2,true),(3,false),(4,true),(5,true),(6,true),(7,true),(8,true),(9,true),(10,true),(11,true),(12,true),(13,true),(14,true),(15,true),(16,true),(17,true),(18,true),(19,true),(20,true),(21,true),(22,true),(23,true),(24,true),(25,true)])]⟩
def ir114:Go.Rmp.Fn:=⟨58,3,[.t 6],
 sq (.ops [op 6 (.mov (.c (.bool false)))]) <|
 sq (sq (.ops [op 9 (.mov (.r 0)),cl 10 118 [(.r 9)],op 11 (.un .not (.r 10)),op 12 (.mov (.r 11)),⟨(some 13),.b (.mov (.r 2)),(some (12,false)),[]⟩,⟨(some 14),.call 157 [(.r 13)],(some (12,false)),[]⟩,⟨(some 15),.b (.un .not (.r 14)),(some (12,false)),[]⟩,op 16 (.pick (.r 12) (.c (.bool true)) (.r 15)),op 17 (.mov (.r 16)),⟨(some 18),.b (.mov (.r 1)),(some (17,false)),[]⟩,⟨(some 19),.b (.len .sl (.r 18)),(some (17,false)),[]⟩,⟨(some 20),.b (.bin .lss (.r 19) (.c (.int .i64 1))),(some (17,false)),[]⟩,op 21 (.pick (.r 17) (.c (.bool true)) (.r 20))]) <|
 .cond (.r 21)
  (sq (.ops [op 6 (.mov (.c (.bool false)))]) <|
  .ret)
  (.skip)) <|
 sq (sq (.ops [op 7 (.mov (.c (.int .i64 0)))]) <|
 .block 0 (
  .loop (
   sq (sq (.ops [op 22 (.mov (.r 7)),op 23 (.mov (.r 1)),op 24 (.len .sl (.r 23)),op 25 (.bin .lss (.r 22) (.r 24))]) <|
   .cond (.r 25)
    (.skip)
    (.exit 0)) <|
   sq (.block 1 (
    sq (.ops [op 28 (.mov (.r 1)),op 29 (.mov (.r 7)),op 30 (.iad 2 (.r 28) (.r 29)),op 31 (.ld 2 true (.r 30)),op 8 (.alloc [.str ⟨#[]⟩,.str ⟨#[]⟩]),ef (.st 2 (.r 8) (.r 31))]) <|
    sq (.ops [op 32 (.mov (.r 2)),op 33 (.fad 0 (.r 8)),op 34 (.ld 1 false (.r 33)),cl 35 158 [(.r 32),(.r 34)],op 36 (.un .not (.r 35)),op 37 (.mov (.r 36)),⟨(some 38),.b (.fad 1 (.r 8)),(some (37,false)),[]⟩,⟨(some 39),.b (.ld 1 false (.r 38)),(some (37,false)),[]⟩,⟨(some 40),.b (.len .str (.r 39)),(some (37,false)),[]⟩,⟨(some 41),.b (.bin .gtr (.r 40) (.c (.int .i64 65535))),(some (37,false)),[]⟩,op 42 (.pick (.r 37) (.c (.bool true)) (.r 41)),op 43 (.mov (.r 42)),⟨(some 44),.b (.mov (.r 7)),(some (43,false)),[]⟩,⟨(some 45),.b (.bin .gtr (.r 44) (.c (.int .i64 0))),(some (43,false)),[]⟩,⟨(some 46),.b (.mov (.r 45)),(some (43,false)),[]⟩,⟨(some 47),.b (.mov (.r 1)),(some (46,true)),[]⟩,⟨(some 48),.b (.mov (.r 7)),(some (46,true)),[]⟩,⟨(some 49),.b (.bin .sub (.r 48) (.c (.int .i64 1))),(some (46,true)),[]⟩,⟨(some 50),.b (.iad 2 (.r 47) (.r 49)),(some (46,true)),[]⟩,⟨(some 51),.b (.fad 0 (.r 50)),(some (46,true)),[]⟩,⟨(some 52),.b (.ld 1 false (.r 51)),(some (46,true)),[]⟩,⟨(some 53),.b (.fad 0 (.r 8)),(some (46,true)),[]⟩,⟨(some 54),.b (.ld 1 false (.r 53)),(some (46,true)),[]⟩,⟨(some 55),.b (.bin .geq (.r 52) (.r 54)),(some (46,true)),[]⟩,⟨(some 56),.b (.pick (.r 46) (.r 55) (.c (.bool false))),(some (43,false)),[]⟩,op 57 (.pick (.r 43) (.c (.bool true)) (.r 56))]) <|
    .cond (.r 57)
     (sq (.ops [op 6 (.mov (.c (.bool false)))]) <|
     .ret)
     (.skip))) <|
   .ops [op 26 (.mov (.r 7)),op 27 (.bin .add (.r 26) (.c (.int .i64 1))),op 7 (.mov (.r 27))]))) <|
 sq (.ops [op 6 (.mov (.c (.bool true)))]) <|
 .ret⟩
def an115:An:=⟨[],[]⟩
def ir115:Go.Rmp.Fn:=⟨9,1,[.t 2],
 sq (.ops [op 2 (.mov (.c (.bool false)))]) <|
 sq (.ops [op 3 (.mov (.r 0)),op 4 (.bin .geq (.r 3) (.c (.int .i64 0))),op 5 (.mov (.r 4)),⟨(some 6),.b (.mov (.r 0)),(some (5,true)),[]⟩,⟨(some 7),.b (.bin .leq (.r 6) (.c (.int .i64 1099511627776))),(some (5,true)),[]⟩,op 8 (.pick (.r 5) (.r 7) (.c (.bool false))),op 2 (.mov (.r 8))]) <|
 .ret⟩
def an116:An:=⟨[],[(4,[(0,true),(1,true),(2,true),(3,true),(4,true),(5,true),(6,true),(7,true),(8,true),(9,true),(10,true),(11,true),(12,true),(13,true),(14,true),(15,true),(16,true),(17,true),(18,true),(19,true),(20,true),(21,true),(22,true),(23,true),(24,true),(25,true),(26,true),(27,true),(28,true),(29,true),(30,true),(31,true),(32,true),(33,true),(34,true),(35,true)])]⟩
def ir116:Go.Rmp.Fn:=⟨66,3,[.t 6,.t 7],
 sq (.ops [op 6 (.mov (.c (.int .i64 0))),op 7 (.mov (.c (.bool false)))]) <|
 sq (.ops [op 8 (.mov (.c (.int .i64 0)))]) <|
 sq (.block 0 (
  .loop (
   sq (sq (.ops [op 9 (.mov (.r 8)),op 10 (.mov (.r 0)),op 11 (.nilc (.r 10)),op 12 (.fad 0 (.r 11)),op 13 (.ld 1 false (.r 12)),op 14 (.len .sl (.r 13)),op 15 (.bin .lss (.r 9) (.r 14)),op 16 (.mov (.r 15)),⟨(some 17),.b (.mov (.r 0)),(some (16,true)),[]⟩,⟨(some 18),.b (.nilc (.r 17)),(some (16,true)),[]⟩,⟨(some 19),.b (.fad 0 (.r 18)),(some (16,true)),[]⟩,⟨(some 20),.b (.ld 1 false (.r 19)),(some (16,true)),[]⟩,⟨(some 21),.b (.mov (.r 8)),(some (16,true)),[]⟩,⟨(some 22),.b (.iad 5 (.r 20) (.r 21)),(some (16,true)),[]⟩,⟨(some 23),.b (.fad 0 (.r 22)),(some (16,true)),[]⟩,⟨(some 24),.b (.ld 4 true (.r 23)),(some (16,true)),[]⟩,⟨(some 25),.b (.mov (.r 1)),(some (16,true)),[]⟩,⟨(some 26),.b (.mov (.r 2)),(some (16,true)),[]⟩,⟨(some 27),.b (.build [.str ⟨#[]⟩,.int .u64 0,.str ⟨#[]⟩,.sl .nil []] [(0,1,(.r 25)),(1,1,(.r 26))]),(some (16,true)),[]⟩,⟨(some 28),.call 159 [(.r 24),(.r 27)],(some (16,true)),[]⟩,op 29 (.pick (.r 16) (.r 28) (.c (.bool false)))]) <|
   .cond (.r 29)
    (.skip)
    (.exit 0)) <|
   .block 1 (
    .ops [op 30 (.mov (.r 8)),op 31 (.bin .add (.r 30) (.c (.int .i64 1))),op 8 (.mov (.r 31))])))) <|
 sq (.ops [op 32 (.mov (.r 8)),op 33 (.mov (.r 8)),op 34 (.mov (.r 0)),op 35 (.nilc (.r 34)),op 36 (.fad 0 (.r 35)),op 37 (.ld 1 false (.r 36)),op 38 (.len .sl (.r 37)),op 39 (.bin .lss (.r 33) (.r 38)),op 40 (.mov (.r 39)),⟨(some 41),.b (.mov (.r 0)),(some (40,true)),[]⟩,⟨(some 42),.b (.nilc (.r 41)),(some (40,true)),[]⟩,⟨(some 43),.b (.fad 0 (.r 42)),(some (40,true)),[]⟩,⟨(some 44),.b (.ld 1 false (.r 43)),(some (40,true)),[]⟩,⟨(some 45),.b (.mov (.r 8)),(some (40,true)),[]⟩,⟨(some 46),.b (.iad 5 (.r 44) (.r 45)),(some (40,true)),[]⟩,⟨(some 47),.b (.fad 0 (.r 46)),(some (40,true)),[]⟩,⟨(some 48),.b (.fad 0 (.r 47)),(some (40,true)),[]⟩,⟨(some 49),.b (.ld 1 false (.r 48)),(some (40,true)),[]⟩,⟨(some 50),.b (.mov (.r 1)),(some (40,true)),[]⟩,⟨(some 51),.b (.bin .eql (.r 49) (.r 50)),(some (40,true)),[]⟩,op 52 (.pick (.r 40) (.r 51) (.c (.bool false))),op 53 (.mov (.r 52)),⟨(some 54),.b (.mov (.r 0)),(some (53,true)),[]⟩,⟨(some 55),.b (.nilc (.r 54)),(some (53,true)),[]⟩,⟨(some 56),.b (.fad 0 (.r 55)),(some (53,true)),[]⟩,⟨(some 57),.b (.ld 1 false (.r 56)),(some (53,true)),[]⟩,⟨(some 58),.b (.mov (.r 8)),(some (53,true)),[]⟩,⟨(some 59),.b (.iad 5 (.r 57) (.r 58)),(some (53,true)),[]⟩,⟨(some 60),.b (.fad 0 (.r 59)),(some (53,true)),[]⟩,⟨(some 61),.b (.fad 1 (.r 60)),(some (53,true)),[]⟩,⟨(some 62),.b (.ld 1 false (.r 61)),(some (53,true)),[]⟩,⟨(some 63),.b (.mov (.r 2)),(some (53,true)),[]⟩,⟨(some 64),.b (.bin .eql (.r 62) (.r 63)),(some (53,true)),[]⟩,op 65 (.pick (.r 53) (.r 64) (.c (.bool false))),op 6 (.mov (.r 32)),op 7 (.mov (.r 65))]) <|
 .ret⟩
def an117:An:=⟨[],[]⟩
def ir117:Go.Rmp.Fn:=⟨33,2,[.t 4],
 sq (.ops [op 4 (.mov (.c (.int .u64 0)))]) <|
 sq (sq (.ops [op 5 (.mov (.c (.int .i64 0)))]) <|
 .block 0 (
  .loop (
   sq (sq (.ops [op 6 (.mov (.r 5)),op 7 (.mov (.r 0)),op 8 (.nilc (.r 7)),op 9 (.fad 1 (.r 8)),op 10 (.ld 1 false (.r 9)),op 11 (.len .sl (.r 10)),op 12 (.bin .lss (.r 6) (.r 11))]) <|
   .cond (.r 12)
    (.skip)
    (.exit 0)) <|
   sq (.block 1 (
    sq (.ops [op 15 (.mov (.r 0)),op 16 (.nilc (.r 15)),op 17 (.fad 1 (.r 16)),op 18 (.ld 1 false (.r 17)),op 19 (.mov (.r 5)),op 20 (.iad 2 (.r 18) (.r 19)),op 21 (.fad 0 (.r 20)),op 22 (.ld 1 false (.r 21)),op 23 (.mov (.r 1)),op 24 (.bin .eql (.r 22) (.r 23))]) <|
    .cond (.r 24)
     (sq (.ops [op 25 (.mov (.r 0)),op 26 (.nilc (.r 25)),op 27 (.fad 1 (.r 26)),op 28 (.ld 1 false (.r 27)),op 29 (.mov (.r 5)),op 30 (.iad 2 (.r 28) (.r 29)),op 31 (.fad 1 (.r 30)),op 32 (.ld 1 false (.r 31)),op 4 (.mov (.r 32))]) <|
     .ret)
     (.skip))) <|
   .ops [op 13 (.mov (.r 5)),op 14 (.bin .add (.r 13) (.c (.int .i64 1))),op 5 (.mov (.r 14))]))) <|
 sq (.ops [op 4 (.mov (.c (.int .u64 0)))]) <|
 .ret⟩
def an118:An:=⟨[],[]⟩
def ir118:Go.Rmp.Fn:=⟨5,1,[.t 2],
 sq (.ops [op 2 (.mov (.c (.bool false)))]) <|
 sq (.ops [op 3 (.mov (.r 0)),op 4 (.bin .geq (.r 3) (.c (.int .u64 65536))),op 2 (.mov (.r 4))]) <|
 .ret⟩
def an119:An:=⟨[(5,6),(6,5),(7,8)],[]⟩
def ir119:Go.Rmp.Fn:=⟨80,3,[],
 sq (.ops [op 6 (.mov (.c (.int .i64 0)))]) <|
 sq (.block 0 (
  .loop (
   sq (sq (.ops [op 8 (.mov (.r 6)),op 9 (.mov (.r 0)),op 10 (.nilc (.r 9)),op 11 (.fad 1 (.r 10)),op 12 (.ld 1 false (.r 11)),op 13 (.len .sl (.r 12)),op 14 (.bin .lss (.r 8) (.r 13)),op 15 (.mov (.r 14)),⟨(some 16),.b (.mov (.r 0)),(some (15,true)),[]⟩,⟨(some 17),.b (.nilc (.r 16)),(some (15,true)),[]⟩,⟨(some 18),.b (.fad 1 (.r 17)),(some (15,true)),[]⟩,⟨(some 19),.b (.ld 1 false (.r 18)),(some (15,true)),[]⟩,⟨(some 20),.b (.mov (.r 6)),(some (15,true)),[]⟩,⟨(some 21),.b (.iad 2 (.r 19) (.r 20)),(some (15,true)),[]⟩,⟨(some 22),.b (.fad 0 (.r 21)),(some (15,true)),[]⟩,⟨(some 23),.b (.ld 1 false (.r 22)),(some (15,true)),[]⟩,⟨(some 24),.b (.mov (.r 1)),(some (15,true)),[]⟩,⟨(some 25),.b (.bin .lss (.r 23) (.r 24)),(some (15,true)),[]⟩,op 26 (.pick (.r 15) (.r 25) (.c (.bool false)))]) <|
   .cond (.r 26)
    (.skip)
    (.exit 0)) <|
   .block 1 (
    .ops [op 27 (.mov (.r 6)),op 28 (.bin .add (.r 27) (.c (.int .i64 1))),op 6 (.mov (.r 28))])))) <|
 sq (sq (.ops [op 29 (.mov (.r 6)),op 30 (.mov (.r 0)),op 31 (.nilc (.r 30)),op 32 (.fad 1 (.r 31)),op 33 (.ld 1 false (.r 32)),op 34 (.len .sl (.r 33)),op 35 (.bin .lss (.r 29) (.r 34)),op 36 (.mov (.r 35)),⟨(some 37),.b (.mov (.r 0)),(some (36,true)),[]⟩,⟨(some 38),.b (.nilc (.r 37)),(some (36,true)),[]⟩,⟨(some 39),.b (.fad 1 (.r 38)),(some (36,true)),[]⟩,⟨(some 40),.b (.ld 1 false (.r 39)),(some (36,true)),[]⟩,⟨(some 41),.b (.mov (.r 6)),(some (36,true)),[]⟩,⟨(some 42),.b (.iad 2 (.r 40) (.r 41)),(some (36,true)),[]⟩,⟨(some 43),.b (.fad 0 (.r 42)),(some (36,true)),[]⟩,⟨(some 44),.b (.ld 1 false (.r 43)),(some (36,true)),[]⟩,⟨(some 45),.b (.mov (.r 1)),(some (36,true)),[]⟩,⟨(some 46),.b (.bin .eql (.r 44) (.r 45)),(some (36,true)),[]⟩,op 47 (.pick (.r 36) (.r 46) (.c (.bool false)))]) <|
 .cond (.r 47)
  (sq (.ops [op 48 (.mov (.r 0)),op 49 (.nilc (.r 48)),op 50 (.fad 1 (.r 49)),op 51 (.ld 1 false (.r 50)),op 52 (.mov (.r 6)),op 53 (.mov (.r 2)),op 54 (.iad 2 (.r 51) (.r 52)),op 55 (.fad 1 (.r 54)),ef (.st 1 (.r 55) (.r 53))]) <|
  .ret)
  (.skip)) <|
 sq (.ops [op 56 (.mov (.r 0)),op 57 (.nilc (.r 56)),op 58 (.fad 1 (.r 57)),op 59 (.ld 1 false (.r 58)),op 60 (.mov (.r 6)),op 61 (.sll 2 (.r 59) none (some (.r 60)) none),op 62 (.app 2 24 true (.c (.sl .nil [])) (.r 61)),op 7 (.mov (.r 62))]) <|
 sq (.ops [op 63 (.mov (.r 7)),op 64 (.mov (.r 1)),op 65 (.mov (.r 2)),op 66 (.build [.str ⟨#[]⟩,.int .u64 0] [(0,1,(.r 64)),(1,1,(.r 65))]),op 67 (.bsl 1 [.str ⟨#[]⟩,.int .u64 0] [(0,(.r 66))]),op 68 (.app 2 24 true (.r 63) (.r 67)),op 7 (.mov (.r 68))]) <|
 .ops [op 69 (.mov (.r 0)),op 70 (.mov (.r 7)),op 71 (.mov (.r 0)),op 72 (.nilc (.r 71)),op 73 (.fad 1 (.r 72)),op 74 (.ld 1 false (.r 73)),op 75 (.mov (.r 6)),op 76 (.sll 2 (.r 74) (some (.r 75)) none none),op 77 (.app 2 24 true (.r 70) (.r 76)),op 78 (.nilc (.r 69)),op 79 (.fad 1 (.r 78)),ef (.st 1 (.r 79) (.r 77))]⟩
def an120:An:=⟨[],[]⟩
def ir120:Go.Rmp.Fn:=⟨8,2,[.t 4],
 sq (.ops [op 3 (.box (.r 1)),op 4 (.mov (.c (.sl .nil [])))]) <|
 sq (.ops [op 5 (.mov (.r 0)),op 6 (.mkf 161 [(.r 3)]),cl 7 160 [(.r 5),(.r 6)],op 4 (.mov (.r 7))]) <|
 .ret⟩
def an121:An:=⟨[],[]⟩
def ir121:Go.Rmp.Fn:=⟨8,2,[.t 4],
 sq (.ops [op 3 (.box (.r 1)),op 4 (.mov (.c (.sl .nil [])))]) <|
 sq (.ops [op 5 (.mov (.r 0)),op 6 (.mkf 163 [(.r 3)]),cl 7 162 [(.r 5),(.r 6)],op 4 (.mov (.r 7))]) <|
 .ret⟩
def an122:An:=⟨[],[]⟩
def ir122:Go.Rmp.Fn:=⟨30,1,[.t 2],
 sq (.ops [op 1 (.box (.r 0)),op 2 (.mov (.c (.bool false)))]) <|
 sq (sq (.ops [op 3 (.fad 1 (.r 1)),op 4 (.ld 1 false (.r 3)),op 5 (.bin .eql (.r 4) (.c (.int .u64 0)))]) <|
 .cond (.r 5)
  (sq (.ops [op 6 (.fad 2 (.r 1)),op 7 (.ld 1 false (.r 6)),op 8 (.bin .eql (.r 7) (.c (.str ⟨#[]⟩))),op 9 (.mov (.r 8)),⟨(some 10),.b (.fad 3 (.r 1)),(some (9,true)),[]⟩,⟨(some 11),.b (.ld 1 false (.r 10)),(some (9,true)),[]⟩,⟨(some 12),.b (.len .sl (.r 11)),(some (9,true)),[]⟩,⟨(some 13),.b (.bin .eql (.r 12) (.c (.int .i64 0))),(some (9,true)),[]⟩,op 14 (.pick (.r 9) (.r 13) (.c (.bool false))),op 2 (.mov (.r 14))]) <|
  .ret)
  (.skip)) <|
 sq (.ops [op 15 (.fad 1 (.r 1)),op 16 (.ld 1 false (.r 15)),op 17 (.bin .geq (.r 16) (.c (.int .u64 65536))),op 18 (.mov (.r 17)),⟨(some 19),.b (.fad 3 (.r 1)),(some (18,true)),[]⟩,⟨(some 20),.b (.ld 1 false (.r 19)),(some (18,true)),[]⟩,⟨(some 21),.call 164 [(.r 20)],(some (18,true)),[]⟩,op 22 (.pick (.r 18) (.r 21) (.c (.bool false))),op 23 (.mov (.r 22)),⟨(some 24),.b (.fad 3 (.r 1)),(some (23,true)),[]⟩,⟨(some 25),.b (.ld 1 false (.r 24)),(some (23,true)),[]⟩,⟨(some 26),.b (.fad 0 (.r 1)),(some (23,true)),[]⟩,⟨(some 27),.b (.ld 1 false (.r 26)),(some (23,true)),[]⟩,⟨(some 28),.call 165 [(.r 25),(.r 27)],(some (23,true)),[]⟩,op 29 (.pick (.r 23) (.r 28) (.c (.bool false))),op 2 (.mov (.r 29))]) <|
 .ret⟩
def an123:An:=⟨[],[(6,[(0,true),(1,true),(2,true),(3,true),(4,true),(5,true),(6,true),(7,true),(8,true)])]⟩
def ir123:Go.Rmp.Fn:=⟨26,2,[.t 4],
 sq (.ops [op 4 (.mov (.c (.bool false)))]) <|
 sq (sq (.ops [op 6 (.mov (.r 0)),op 7 (.len .sl (.r 6)),op 8 (.mov (.r 1)),op 9 (.len .sl (.r 8)),op 10 (.bin .neq (.r 7) (.r 9))]) <|
 .cond (.r 10)
  (sq (.ops [op 4 (.mov (.c (.bool false)))]) <|
  .ret)
  (.skip)) <|
 sq (sq (.ops [op 11 (.mov (.r 0)),op 12 (.len .sl (.r 11)),op 13 (.mov (.c (.int .i64 0)))]) <|
 .block 0 (
  .loop (
   sq (.ops [op 14 (.bin .lss (.r 13) (.r 12))]) <|
   sq (.cond (.r 14)
    (.skip)
    (.exit 0)) <|
   sq (.block 1 (
    sq (.ops [op 15 (.mov (.r 13)),op 5 (.mov (.r 15))]) <|
    sq (.ops [op 16 (.mov (.r 0)),op 17 (.mov (.r 5)),op 18 (.iad 1 (.r 16) (.r 17)),op 19 (.ld 1 false (.r 18)),op 20 (.mov (.r 1)),op 21 (.mov (.r 5)),op 22 (.iad 1 (.r 20) (.r 21)),op 23 (.ld 1 false (.r 22)),op 24 (.bin .neq (.r 19) (.r 23))]) <|
    .cond (.r 24)
     (sq (.ops [op 4 (.mov (.c (.bool false)))]) <|
     .ret)
     (.skip))) <|
   .ops [op 25 (.bin .add (.r 13) (.c (.int .i64 1))),op 13 (.mov (.r 25))]))) <|
 sq (.ops [op 4 (.mov (.c (.bool true)))]) <|
 .ret⟩
def an124:An:=⟨[],[]⟩
def ir124:Go.Rmp.Fn:=⟨19,2,[],
 sq (.ops [op 4 (.ld 1 false (.r 1)),op 5 (.len .sl (.r 4)),op 6 (.bin .sub (.r 5) (.c (.int .i64 1))),op 3 (.mov (.r 6))]) <|
 .block 0 (
  .loop (
   sq (sq (.ops [op 7 (.mov (.r 3)),op 8 (.bin .geq (.r 7) (.c (.int .i64 0)))]) <|
   .cond (.r 8)
    (.skip)
    (.exit 0)) <|
   sq (.block 1 (
    sq (.ops [op 11 (.mov (.r 0)),op 12 (.mov (.r 3)),op 13 (.ld 1 false (.r 1)),op 14 (.mov (.r 3)),op 15 (.iad 4 (.r 13) (.r 14)),op 16 (.ld 4 true (.r 15)),⟨(some 17),.callv (.r 11) [(.r 12),(.r 16)],none,[]⟩,op 18 (.un .not (.r 17))]) <|
    .cond (.r 18)
     (.ret)
     (.skip))) <|
   .ops [op 9 (.mov (.r 3)),op 10 (.bin .sub (.r 9) (.c (.int .i64 1))),op 3 (.mov (.r 10))]))⟩
def an133:An:=⟨[],[]⟩
def ir133:Go.Rmp.Fn:=⟨37,1,[.t 2],
 sq (.ops [op 2 (.mov (.c (.bool false)))]) <|
 sq (sq (.ops [op 5 (.mov (.r 0)),op 6 (.len .sl (.r 5)),op 7 (.mov (.c (.int .i64 0)))]) <|
 .block 0 (
  .loop (
   sq (.ops [op 8 (.bin .lss (.r 7) (.r 6))]) <|
   sq (.cond (.r 8)
    (.skip)
    (.exit 0)) <|
   sq (.block 1 (
    sq (.ops [op 9 (.mov (.r 7)),op 10 (.iad 1 (.r 5) (.r 7)),op 11 (.ld 1 false (.r 10)),op 3 (.mov (.r 9)),op 4 (.mov (.r 11))]) <|
    sq (.ops [op 12 (.mov (.r 4)),op 13 (.len .str (.r 12)),op 14 (.bin .gtr (.r 13) (.c (.int .i64 65535))),op 15 (.mov (.r 14)),⟨(some 16),.b (.mov (.r 3)),(some (15,false)),[]⟩,⟨(some 17),.b (.bin .gtr (.r 16) (.c (.int .i64 0))),(some (15,false)),[]⟩,⟨(some 18),.b (.mov (.r 17)),(some (15,false)),[]⟩,⟨(some 19),.b (.mov (.r 4)),(some (18,true)),[]⟩,⟨(some 20),.b (.mov (.r 0)),(some (18,true)),[]⟩,⟨(some 21),.b (.mov (.r 3)),(some (18,true)),[]⟩,⟨(some 22),.b (.bin .sub (.r 21) (.c (.int .i64 1))),(some (18,true)),[]⟩,⟨(some 23),.b (.iad 1 (.r 20) (.r 22)),(some (18,true)),[]⟩,⟨(some 24),.b (.ld 1 false (.r 23)),(some (18,true)),[]⟩,⟨(some 25),.b (.bin .leq (.r 19) (.r 24)),(some (18,true)),[]⟩,⟨(some 26),.b (.pick (.r 18) (.r 25) (.c (.bool false))),(some (15,false)),[]⟩,op 27 (.pick (.r 15) (.c (.bool true)) (.r 26))]) <|
    .cond (.r 27)
     (sq (.ops [op 2 (.mov (.c (.bool false)))]) <|
     .ret)
     (.skip))) <|
   .ops [op 28 (.bin .add (.r 7) (.c (.int .i64 1))),op 7 (.mov (.r 28))]))) <|
 sq (.ops [op 29 (.mov (.r 0)),op 30 (.len .sl (.r 29)),op 31 (.bin .geq (.r 30) (.c (.int .i64 1))),op 32 (.mov (.r 31)),⟨(some 33),.b (.mov (.r 0)),(some (32,true)),[]⟩,⟨(some 34),.b (.len .sl (.r 33)),(some (32,true)),[]⟩,⟨(some 35),.b (.bin .leq (.r 34) (.c (.int .i64 1024))),(some (32,true)),[]⟩,op 36 (.pick (.r 32) (.r 35) (.c (.bool false))),op 2 (.mov (.r 36))]) <|
 .ret⟩
def an134:An:=⟨[],[]⟩
def ir134:Go.Rmp.Fn:=⟨14,2,[.t 4],
 sq (.ops [op 4 (.mov (.c (.bool false)))]) <|
 sq (.ops [op 8 (.mov (.r 0)),op 9 (.mov (.r 1)),cl 10 171 [(.r 8),(.r 9)],op 7 (.mov (.r 10)),op 11 (.ext 0 (.r 7)),op 12 (.ext 1 (.r 7)),op 5 (.mov (.r 11)),op 6 (.mov (.r 12))]) <|
 sq (.ops [op 13 (.mov (.r 6)),op 4 (.mov (.r 13))]) <|
 .ret⟩
def an135:An:=⟨[],[]⟩
def ir135:Go.Rmp.Fn:=⟨54,2,[.t 4,.t 5],
 sq (.ops [op 4 (.mov (.c (.int .i64 0))),op 5 (.mov (.c (.bool false)))]) <|
 sq (.ops [op 10 (.mov (.r 0)),op 11 (.len .sl (.r 10)),op 6 (.mov (.r 11))]) <|
 sq (.ops [op 12 (.mov (.r 6)),op 7 (.mov (.c (.int .i64 0))),op 8 (.mov (.r 12))]) <|
 sq (.block 0 (
  .loop (
   sq (sq (.ops [op 13 (.mov (.r 7)),op 14 (.mov (.r 8)),op 15 (.bin .lss (.r 13) (.r 14))]) <|
   .cond (.r 15)
    (.skip)
    (.exit 0)) <|
   .block 1 (
    sq (.ops [op 16 (.mov (.r 7)),op 17 (.mov (.r 8)),op 18 (.bin .add (.r 16) (.r 17)),op 19 (.cvi .u64 (.r 18)),op 20 (.bin .shr (.r 19) (.c (.int .u64 1))),op 21 (.cvi .i64 (.r 20)),op 9 (.mov (.r 21))]) <|
    sq (.ops [op 22 (.mov (.r 0)),op 23 (.mov (.r 9)),op 24 (.iad 1 (.r 22) (.r 23)),op 25 (.ld 1 false (.r 24)),op 26 (.mov (.r 1)),cl 27 145 [(.r 25),(.r 26)]]) <|
    .cond (.r 27)
     (.ops [op 28 (.mov (.r 9)),op 29 (.bin .add (.r 28) (.c (.int .i64 1))),op 7 (.mov (.r 29))])
     (.ops [op 30 (.mov (.r 9)),op 8 (.mov (.r 30))]))))) <|
 sq (.ops [op 31 (.mov (.r 7)),op 32 (.mov (.r 7)),op 33 (.mov (.r 6)),op 34 (.bin .lss (.r 32) (.r 33)),op 35 (.mov (.r 34)),⟨(some 36),.b (.mov (.r 0)),(some (35,true)),[]⟩,⟨(some 37),.b (.mov (.r 7)),(some (35,true)),[]⟩,⟨(some 38),.b (.iad 1 (.r 36) (.r 37)),(some (35,true)),[]⟩,⟨(some 39),.b (.ld 1 false (.r 38)),(some (35,true)),[]⟩,⟨(some 40),.b (.mov (.r 1)),(some (35,true)),[]⟩,⟨(some 41),.b (.bin .eql (.r 39) (.r 40)),(some (35,true)),[]⟩,⟨(some 42),.b (.mov (.r 41)),(some (35,true)),[]⟩,⟨(some 43),.b (.mov (.r 0)),(some (42,false)),[]⟩,⟨(some 44),.b (.mov (.r 7)),(some (42,false)),[]⟩,⟨(some 45),.b (.iad 1 (.r 43) (.r 44)),(some (42,false)),[]⟩,⟨(some 46),.b (.ld 1 false (.r 45)),(some (42,false)),[]⟩,⟨(some 47),.call 172 [(.r 46)],(some (42,false)),[]⟩,⟨(some 48),.b (.mov (.r 47)),(some (42,false)),[]⟩,⟨(some 49),.b (.mov (.r 1)),(some (48,true)),[]⟩,⟨(some 50),.call 172 [(.r 49)],(some (48,true)),[]⟩,⟨(some 51),.b (.pick (.r 48) (.r 50) (.c (.bool false))),(some (42,false)),[]⟩,⟨(some 52),.b (.pick (.r 42) (.c (.bool true)) (.r 51)),(some (35,true)),[]⟩,op 53 (.pick (.r 35) (.r 52) (.c (.bool false))),op 4 (.mov (.r 31)),op 5 (.mov (.r 53))]) <|
 .ret⟩
def an136:An:=⟨[(7,2)],[(11,[(0,true),(1,true),(2,true),(3,true),(4,true),(5,true),(6,true),(7,true),(8,false)]),(15,[(0,true),(1,true),(2,true),(3,true),(4,true),(5,true),(6,true),(7,true),(8,false)])]⟩
def ir136:Go.Rmp.Fn:=⟨95,3,[.t 6],
 sq (.ops [op 6 (.mov (.c (.sl .nil [])))]) <|
 sq (.ops [op 10 (.mov (.r 0)),op 11 (.mov (.r 1)),op 12 (.sll 1 (.r 10) (some (.r 11)) none none)]) <|
 sq (.ops [op 13 (.mov (.r 2)),op 14 (.len .sl (.r 13)),op 7 (.mov (.r 14))]) <|
 sq (sq (.ops [op 15 (.mov (.r 7)),op 16 (.bin .eql (.r 15) (.c (.int .i64 0)))]) <|
 .cond (.r 16)
  (sq (.ops [op 17 (.mov (.r 0)),op 6 (.mov (.r 17))]) <|
  .ret)
  (.skip)) <|
 sq (.ops [op 18 (.mov (.r 0)),op 19 (.len .sl (.r 18)),op 8 (.mov (.r 19))]) <|
 sq (sq (.ops [op 20 (.mov (.r 1)),op 21 (.mov (.r 8)),op 22 (.bin .eql (.r 20) (.r 21))]) <|
 .cond (.r 22)
  (sq (.ops [op 23 (.mov (.r 0)),op 24 (.mov (.r 2)),op 25 (.app 1 8 true (.r 23) (.r 24)),op 6 (.mov (.r 25))]) <|
  .ret)
  (.skip)) <|
 sq (sq (.ops [op 26 (.mov (.r 8)),op 27 (.mov (.r 7)),op 28 (.bin .add (.r 26) (.r 27)),op 29 (.mov (.r 0)),op 30 (.cap (.r 29)),op 31 (.bin .gtr (.r 28) (.r 30))]) <|
 .cond (.r 31)
  (sq (.ops [op 32 (.mov (.r 0)),op 33 (.mov (.r 1)),op 34 (.sll 1 (.r 32) none (some (.r 33)) none),op 35 (.mov (.r 8)),op 36 (.mov (.r 7)),op 37 (.bin .add (.r 35) (.r 36)),op 38 (.mov (.r 1)),op 39 (.bin .sub (.r 37) (.r 38)),op 40 (.apz 1 8 [.int .u64 0] (.r 34) (.r 39)),op 9 (.mov (.r 40))]) <|
  sq (.ops [op 41 (.mov (.r 9)),op 42 (.mov (.r 1)),op 43 (.sll 1 (.r 41) (some (.r 42)) none none),op 44 (.mov (.r 2)),op 45 (.cpy 1 (.r 43) (.r 44))]) <|
  sq (.ops [op 46 (.mov (.r 9)),op 47 (.mov (.r 1)),op 48 (.mov (.r 7)),op 49 (.bin .add (.r 47) (.r 48)),op 50 (.sll 1 (.r 46) (some (.r 49)) none none),op 51 (.mov (.r 0)),op 52 (.mov (.r 1)),op 53 (.sll 1 (.r 51) (some (.r 52)) none none),op 54 (.cpy 1 (.r 50) (.r 53))]) <|
  sq (.ops [op 55 (.mov (.r 9)),op 6 (.mov (.r 55))]) <|
  .ret)
  (.skip)) <|
 sq (.ops [op 56 (.mov (.r 0)),op 57 (.mov (.r 8)),op 58 (.mov (.r 7)),op 59 (.bin .add (.r 57) (.r 58)),op 60 (.sll 1 (.r 56) none (some (.r 59)) none),op 0 (.mov (.r 60))]) <|
 sq (sq (.ops [op 61 (.mov (.r 2)),op 62 (.mov (.r 0)),op 63 (.mov (.r 1)),op 64 (.mov (.r 7)),op 65 (.bin .add (.r 63) (.r 64)),op 66 (.sll 1 (.r 62) (some (.r 65)) none none),op 67 (.ovl 1 (.r 61) (.r 66)),op 68 (.un .not (.r 67))]) <|
 .cond (.r 68)
  (sq (.ops [op 69 (.mov (.r 0)),op 70 (.mov (.r 1)),op 71 (.mov (.r 7)),op 72 (.bin .add (.r 70) (.r 71)),op 73 (.sll 1 (.r 69) (some (.r 72)) none none),op 74 (.mov (.r 0)),op 75 (.mov (.r 1)),op 76 (.sll 1 (.r 74) (some (.r 75)) none none),op 77 (.cpy 1 (.r 73) (.r 76))]) <|
  sq (.ops [op 78 (.mov (.r 0)),op 79 (.mov (.r 1)),op 80 (.sll 1 (.r 78) (some (.r 79)) none none),op 81 (.mov (.r 2)),op 82 (.cpy 1 (.r 80) (.r 81))]) <|
  sq (.ops [op 83 (.mov (.r 0)),op 6 (.mov (.r 83))]) <|
  .ret)
  (.skip)) <|
 sq (.ops [op 84 (.mov (.r 0)),op 85 (.mov (.r 8)),op 86 (.sll 1 (.r 84) (some (.r 85)) none none),op 87 (.mov (.r 2)),op 88 (.cpy 1 (.r 86) (.r 87))]) <|
 sq (.ops [op 89 (.mov (.r 0)),op 90 (.mov (.r 1)),op 91 (.sll 1 (.r 89) (some (.r 90)) none none),op 92 (.mov (.r 7)),cl 93 174 [(.r 91),(.r 92)]]) <|
 sq (.ops [op 94 (.mov (.r 0)),op 6 (.mov (.r 94))]) <|
 .ret⟩
def an137:An:=⟨[],[(3,[(0,true),(1,true),(2,true),(3,true),(4,true),(5,true),(6,true),(7,true),(8,true),(9,true),(10,true),(11,true),(12,true),(13,true),(14,true),(15,true),(16,true),(17,true),(18,true),(19,true),(20,true),(21,true),(22,true),(23,true),(24,true),(25,true),(26,true),(27,true),(28,false)]),(9,[(0,true),(1,true),(2,true),(3,false),(4,true),(5,false),(6,true),(7,true)])]⟩
def ir137:Go.Rmp.Fn:=⟨69,1,[.t 2,.t 3],
 sq (.ops [op 2 (.mov (.c .nilp)),op 3 (.mov (.c (.int .i64 0)))]) <|
 sq (sq (.ops [op 6 (.mov (.r 0)),op 7 (.len .sl (.r 6)),op 8 (.bin .lss (.r 7) (.c (.int .i64 5)))]) <|
 .cond (.r 8)
  (sq (.ops [op 2 (.mov (.c .nilp)),op 3 (.mov (.c (.int .i64 2)))]) <|
  .ret)
  (.skip)) <|
 sq (.ops [op 9 (.mov (.r 0)),op 10 (.iad 1 (.r 9) (.c (.int .i64 0))),op 11 (.ld 1 false (.r 10)),op 12 (.cvi .i64 (.r 11)),op 13 (.bin .shl (.r 12) (.c (.int .u64 24))),op 14 (.mov (.r 0)),op 15 (.iad 1 (.r 14) (.c (.int .i64 1))),op 16 (.ld 1 false (.r 15)),op 17 (.cvi .i64 (.r 16)),op 18 (.bin .shl (.r 17) (.c (.int .u64 16))),op 19 (.bin .or (.r 13) (.r 18)),op 20 (.mov (.r 0)),op 21 (.iad 1 (.r 20) (.c (.int .i64 2))),op 22 (.ld 1 false (.r 21)),op 23 (.cvi .i64 (.r 22)),op 24 (.bin .shl (.r 23) (.c (.int .u64 8))),op 25 (.bin .or (.r 19) (.r 24)),op 26 (.mov (.r 0)),op 27 (.iad 1 (.r 26) (.c (.int .i64 3))),op 28 (.ld 1 false (.r 27)),op 29 (.cvi .i64 (.r 28)),op 30 (.bin .or (.r 25) (.r 29)),op 31 (.mov (.r 0)),op 32 (.iad 1 (.r 31) (.c (.int .i64 4))),op 33 (.ld 1 false (.r 32)),op 34 (.cvi .i64 (.r 33)),op 35 (.build [.int .i64 0,.int .i64 0] [(0,1,(.r 30)),(1,1,(.r 34))]),op 4 (.alloc [.int .i64 0,.int .i64 0]),ef (.st 2 (.r 4) (.r 35))]) <|
 sq (sq (.ops [op 36 (.ld 2 true (.r 4)),cl 37 96 [(.r 36)],op 38 (.un .not (.r 37)),op 39 (.mov (.r 38)),⟨(some 40),.b (.mov (.r 0)),(some (39,false)),[]⟩,⟨(some 41),.b (.len .sl (.r 40)),(some (39,false)),[]⟩,⟨(some 42),.b (.ld 2 true (.r 4)),(some (39,false)),[]⟩,⟨(some 43),.call 97 [(.r 42)],(some (39,false)),[]⟩,⟨(some 44),.b (.bin .add (.c (.int .i64 5)) (.r 43)),(some (39,false)),[]⟩,⟨(some 45),.b (.bin .neq (.r 41) (.r 44)),(some (39,false)),[]⟩,op 46 (.pick (.r 39) (.c (.bool true)) (.r 45))]) <|
 .cond (.r 46)
  (sq (.ops [op 2 (.mov (.c .nilp)),op 3 (.mov (.c (.int .i64 2)))]) <|
  .ret)
  (.skip)) <|
 sq (sq (.ops [op 47 (.fad 0 (.r 4)),op 48 (.ld 1 false (.r 47)),op 49 (.bin .rem (.r 48) (.c (.int .i64 8))),op 5 (.mov (.r 49))]) <|
 sq (.ops [op 50 (.mov (.r 5)),op 51 (.bin .gtr (.r 50) (.c (.int .i64 0))),op 52 (.mov (.r 51)),⟨(some 53),.b (.mov (.r 0)),(some (52,true)),[]⟩,⟨(some 54),.b (.mov (.r 0)),(some (52,true)),[]⟩,⟨(some 55),.b (.len .sl (.r 54)),(some (52,true)),[]⟩,⟨(some 56),.b (.bin .sub (.r 55) (.c (.int .i64 1))),(some (52,true)),[]⟩,⟨(some 57),.b (.iad 1 (.r 53) (.r 56)),(some (52,true)),[]⟩,⟨(some 58),.b (.ld 1 false (.r 57)),(some (52,true)),[]⟩,⟨(some 59),.b (.mov (.r 5)),(some (52,true)),[]⟩,⟨(some 60),.b (.bin .shr (.r 58) (.r 59)),(some (52,true)),[]⟩,⟨(some 61),.b (.bin .neq (.r 60) (.c (.int .u8 0))),(some (52,true)),[]⟩,op 62 (.pick (.r 52) (.r 61) (.c (.bool false)))]) <|
 .cond (.r 62)
  (sq (.ops [op 2 (.mov (.c .nilp)),op 3 (.mov (.c (.int .i64 2)))]) <|
  .ret)
  (.skip)) <|
 sq (.ops [op 63 (.ld 2 true (.r 4)),op 64 (.mov (.r 0)),op 65 (.sll 1 (.r 64) (some (.c (.int .i64 5))) none none),⟨(some 66),.call 67 [(.r 65)],none,[⟨63,.ld 2 true (.r 4),none⟩]⟩,op 67 (.build [.int .i64 0,.int .i64 0,.sl .nil []] [(0,2,(.r 63)),(2,1,(.r 66))]),op 68 (.box (.r 67)),op 2 (.mov (.r 68)),op 3 (.mov (.c (.int .i64 0)))]) <|
 .ret⟩
def an138:An:=⟨[],[]⟩
def ir138:Go.Rmp.Fn:=⟨19,2,[.t 4],
 sq (.ops [op 4 (.mov (.c (.int .i64 0)))]) <|
 sq (sq (.ops [op 6 (.mov (.r 0)),op 7 (.len .sl (.r 6)),op 8 (.mov (.c (.int .i64 0)))]) <|
 .block 0 (
  .loop (
   sq (.ops [op 9 (.bin .lss (.r 8) (.r 7))]) <|
   sq (.cond (.r 9)
    (.skip)
    (.exit 0)) <|
   sq (.block 1 (
    sq (.ops [op 10 (.mov (.r 8)),op 5 (.mov (.r 10))]) <|
    sq (.ops [op 11 (.mov (.r 1)),op 12 (.mov (.r 0)),op 13 (.mov (.r 5)),op 14 (.iad 1 (.r 12) (.r 13)),op 15 (.ld 1 false (.r 14)),⟨(some 16),.callv (.r 11) [(.r 15)],none,[]⟩]) <|
    .cond (.r 16)
     (sq (.ops [op 17 (.mov (.r 5)),op 4 (.mov (.r 17))]) <|
     .ret)
     (.skip))) <|
   .ops [op 18 (.bin .add (.r 8) (.c (.int .i64 1))),op 8 (.mov (.r 18))]))) <|
 sq (.ops [op 4 (.mov (.c (.int .i64 (-1))))]) <|
 .ret⟩
def an139:An:=⟨[],[(4,[(0,true),(1,true),(2,true),(3,true),(4,true),(5,true),(6,true),(7,true),(8,true),(9,true),(10,true),(11,true),(12,true),(13,false),(14,true)]),(6,[(0,true),(1,true),(2,true),(3,true),(4,true),(5,true),(6,true),(7,true),(8,true),(9,true),(10,true),(11,true),(12,true),(13,true),(14,true),(15,false),(16,true),(17,false)])]⟩
def ir139:Go.Rmp.Fn:=⟨49,3,[],
 sq (.ops [op 8 (.mov (.r 1)),op 9 (.bin .add (.r 8) (.c (.int .i64 1))),op 6 (.mov (.r 9))]) <|
 .block 0 (
  .loop (
   sq (sq (.ops [op 10 (.mov (.r 6)),op 11 (.mov (.r 2)),op 12 (.bin .lss (.r 10) (.r 11))]) <|
   .cond (.r 12)
    (.skip)
    (.exit 0)) <|
   sq (.block 1 (
    sq (.ops [op 15 (.mov (.r 6)),op 7 (.mov (.r 15))]) <|
    .block 2 (
     .loop (
      sq (sq (.ops [op 16 (.mov (.r 7)),op 17 (.mov (.r 1)),op 18 (.bin .gtr (.r 16) (.r 17)),op 19 (.mov (.r 18)),⟨(some 20),.b (.mov (.r 0)),(some (19,true)),[]⟩,⟨(some 21),.b (.mov (.r 7)),(some (19,true)),[]⟩,⟨(some 22),.b (.iad 1 (.r 20) (.r 21)),(some (19,true)),[]⟩,⟨(some 23),.b (.ld 1 false (.r 22)),(some (19,true)),[]⟩,⟨(some 24),.b (.mov (.r 0)),(some (19,true)),[]⟩,⟨(some 25),.b (.mov (.r 7)),(some (19,true)),[]⟩,⟨(some 26),.b (.bin .sub (.r 25) (.c (.int .i64 1))),(some (19,true)),[]⟩,⟨(some 27),.b (.iad 1 (.r 24) (.r 26)),(some (19,true)),[]⟩,⟨(some 28),.b (.ld 1 false (.r 27)),(some (19,true)),[]⟩,⟨(some 29),.call 145 [(.r 23),(.r 28)],(some (19,true)),[]⟩,op 30 (.pick (.r 19) (.r 29) (.c (.bool false)))]) <|
      .cond (.r 30)
       (.skip)
       (.exit 2)) <|
      sq (.block 3 (
       .ops [op 33 (.mov (.r 0)),op 34 (.mov (.r 7)),op 35 (.mov (.r 0)),op 36 (.mov (.r 7)),op 37 (.bin .sub (.r 36) (.c (.int .i64 1))),op 38 (.mov (.r 0)),op 39 (.mov (.r 7)),op 40 (.bin .sub (.r 39) (.c (.int .i64 1))),op 41 (.iad 1 (.r 38) (.r 40)),op 42 (.ld 1 false (.r 41)),op 43 (.mov (.r 0)),op 44 (.mov (.r 7)),op 45 (.iad 1 (.r 43) (.r 44)),op 46 (.ld 1 false (.r 45)),op 47 (.iad 1 (.r 33) (.r 34)),ef (.st 1 (.r 47) (.r 42)),op 48 (.iad 1 (.r 35) (.r 37)),ef (.st 1 (.r 48) (.r 46))])) <|
      .ops [op 31 (.mov (.r 7)),op 32 (.bin .sub (.r 31) (.c (.int .i64 1))),op 7 (.mov (.r 32))])))) <|
   .ops [op 13 (.mov (.r 6)),op 14 (.bin .add (.r 13) (.c (.int .i64 1))),op 6 (.mov (.r 14))]))⟩
def an145:An:=⟨[],[]⟩
def ir145:Go.Rmp.Fn:=⟨17,2,[.t 4],
 sq (.ops [op 4 (.mov (.c (.bool false)))]) <|
 sq (.ops [op 5 (.mov (.r 0)),cl 6 170 [(.r 5)],op 7 (.mov (.r 6)),⟨(some 8),.b (.mov (.r 1)),(some (7,true)),[]⟩,⟨(some 9),.call 170 [(.r 8)],(some (7,true)),[]⟩,⟨(some 10),.b (.un .not (.r 9)),(some (7,true)),[]⟩,op 11 (.pick (.r 7) (.r 10) (.c (.bool false))),op 12 (.mov (.r 11)),⟨(some 13),.b (.mov (.r 0)),(some (12,false)),[]⟩,⟨(some 14),.b (.mov (.r 1)),(some (12,false)),[]⟩,⟨(some 15),.b (.bin .lss (.r 13) (.r 14)),(some (12,false)),[]⟩,op 16 (.pick (.r 12) (.c (.bool true)) (.r 15)),op 4 (.mov (.r 16))]) <|
 .ret⟩
def an149:An:=⟨[],[]⟩
def ir149:Go.Rmp.Fn:=⟨25,1,[.t 2],
 sq (.ops [op 2 (.mov (.c (.int .i64 0)))]) <|
 sq (sq (.ops [op 3 (.mov (.r 0)),op 4 (.bin .geq (.r 3) (.c (.int .u64 4294967296)))]) <|
 .cond (.r 4)
  (sq (.ops [op 5 (.mov (.r 0)),op 6 (.bin .shr (.r 5) (.c (.int .u64 32))),op 0 (.mov (.r 6))]) <|
  .ops [op 2 (.mov (.c (.int .i64 32)))])
  (.skip)) <|
 sq (sq (.ops [op 7 (.mov (.r 0)),op 8 (.bin .geq (.r 7) (.c (.int .u64 65536)))]) <|
 .cond (.r 8)
  (sq (.ops [op 9 (.mov (.r 0)),op 10 (.bin .shr (.r 9) (.c (.int .u64 16))),op 0 (.mov (.r 10))]) <|
  .ops [op 11 (.mov (.r 2)),op 12 (.bin .add (.r 11) (.c (.int .i64 16))),op 2 (.mov (.r 12))])
  (.skip)) <|
 sq (sq (.ops [op 13 (.mov (.r 0)),op 14 (.bin .geq (.r 13) (.c (.int .u64 256)))]) <|
 .cond (.r 14)
  (sq (.ops [op 15 (.mov (.r 0)),op 16 (.bin .shr (.r 15) (.c (.int .u64 8))),op 0 (.mov (.r 16))]) <|
  .ops [op 17 (.mov (.r 2)),op 18 (.bin .add (.r 17) (.c (.int .i64 8))),op 2 (.mov (.r 18))])
  (.skip)) <|
 sq (.ops [op 19 (.mov (.r 2)),op 20 (.mov (.r 0)),op 21 (.cvi .u8 (.r 20)),op 22 (.ixs (.c (.str ⟨#[0,1,2,2,3,3,3,3,4,4,4,4,4,4,4,4,5,5,5,5,5,5,5,5,5,5,5,5,5,5,5,5,6,6,6,6,6,6,6,6,6,6,6,6,6,6,6,6,6,6,6,6,6,6,6,6,6,6,6,6,6,6,6,6,7,7,7,7,7,7,7,7,7,7,7,7,7,7,7,7,7,7,7,7,7,7,7,7,7,7,7,7,7,7,7,7,7,7,7,7,7,7,7,7,7,7,7,7,7,7,7,7,7,7,7,7,7,7,7,7,7,7,7,7,7,7,7,7,8,8,8,8,8,8,8,8,8,8,8,8,8,8,8,8,8,8,8,8,8,8,8,8,8,8,8,8,8,8,8,8,8,8,8,8,8,8,8,8,8,8,8,8,8,8,8,8,8,8,8,8,8,8,8,8,8,8,8,8,8,8,8,8,8,8,8,8,8,8,8,8,8,8,8,8,8,8,8,8,8,8,8,8,8,8,8,8,8,8,8,8,8,8,8,8,8,8,8,8,8,8,8,8,8,8,8,8,8,8,8,8,8,8,8,8,8,8,8,8,8,8,8,8,8,8,8,8]⟩)) (.r 21)),op 23 (.cvi .i64 (.r 22)),op 24 (.bin .add (.r 19) (.r 23)),op 2 (.mov (.r 24))]) <|
 .ret⟩
def an150:An:=⟨[],[]⟩
def ir150:Go.Rmp.Fn:=⟨19,2,[.t 4],
 sq (.ops [op 4 (.mov (.c (.int .i64 0)))]) <|
 sq (sq (.ops [op 6 (.mov (.r 0)),op 7 (.len .sl (.r 6)),op 8 (.mov (.c (.int .i64 0)))]) <|
 .block 0 (
  .loop (
   sq (.ops [op 9 (.bin .lss (.r 8) (.r 7))]) <|
   sq (.cond (.r 9)
    (.skip)
    (.exit 0)) <|
   sq (.block 1 (
    sq (.ops [op 10 (.mov (.r 8)),op 5 (.mov (.r 10))]) <|
    sq (.ops [op 11 (.mov (.r 1)),op 12 (.mov (.r 0)),op 13 (.mov (.r 5)),op 14 (.iad 1 (.r 12) (.r 13)),op 15 (.ld 1 false (.r 14)),op 16 (.eqr false .ptr (.r 11) (.r 15))]) <|
    .cond (.r 16)
     (sq (.ops [op 17 (.mov (.r 5)),op 4 (.mov (.r 17))]) <|
     .ret)
     (.skip))) <|
   .ops [op 18 (.bin .add (.r 8) (.c (.int .i64 1))),op 8 (.mov (.r 18))]))) <|
 sq (.ops [op 4 (.mov (.c (.int .i64 (-1))))]) <|
 .ret⟩
def an151:An:=⟨[],[]⟩
def ir151:Go.Rmp.Fn:=⟨5,1,[.t 2],
 sq (.ops [op 2 (.mov (.c (.sl .nil [])))]) <|
 sq (.ops [op 3 (.mov (.r 0)),cl 4 180 [(.c (.sl .nil [])),(.r 3)],op 2 (.mov (.r 4))]) <|
 .ret⟩
def an152:An:=⟨[],[]⟩
def ir152:Go.Rmp.Fn:=⟨11,1,[],
 sq (.ops [op 3 (.mov (.r 0)),op 4 (.len .sl (.r 3)),op 2 (.mov (.r 4))]) <|
 .ops [op 5 (.mov (.r 0)),op 6 (.mov (.r 2)),op 7 (.mov (.r 2)),op 8 (.cvi .u64 (.r 7)),cl 9 107 [(.r 8)],cl 10 181 [(.r 5),(.c (.int .i64 0)),(.r 6),(.r 9)]]⟩
def an153:An:=⟨[],[]⟩
def ir153:Go.Rmp.Fn:=⟨16,2,[],
 sq (.ops [op 5 (.ld 1 false (.r 1)),op 6 (.len .sl (.r 5)),op 7 (.mov (.c (.int .i64 0)))]) <|
 .block 0 (
  .loop (
   sq (.ops [op 8 (.bin .lss (.r 7) (.r 6))]) <|
   sq (.cond (.r 8)
    (.skip)
    (.exit 0)) <|
   sq (.block 1 (
    sq (.ops [op 9 (.iad 1 (.r 5) (.r 7)),op 10 (.ld 1 false (.r 9)),op 4 (.mov (.r 10))]) <|
    sq (.ops [op 11 (.mov (.r 0)),op 12 (.mov (.r 4)),⟨(some 13),.callv (.r 11) [(.r 12)],none,[]⟩,op 14 (.un .not (.r 13))]) <|
    .cond (.r 14)
     (.ret)
     (.skip))) <|
   .ops [op 15 (.bin .add (.r 7) (.c (.int .i64 1))),op 7 (.mov (.r 15))]))⟩
def an154:An:=⟨[],[]⟩
def ir154:Go.Rmp.Fn:=⟨21,2,[.t 4],
 sq (.ops [op 4 (.mov (.c (.int .u64 0)))]) <|
 sq (sq (.ops [op 6 (.mov (.r 1)),op 7 (.len .str (.r 6)),op 8 (.mov (.c (.int .i64 0)))]) <|
 .block 0 (
  .loop (
   sq (.ops [op 9 (.bin .lss (.r 8) (.r 7))]) <|
   sq (.cond (.r 9)
    (.skip)
    (.exit 0)) <|
   sq (.block 1 (
    sq (.ops [op 10 (.mov (.r 8)),op 5 (.mov (.r 10))]) <|
    sq (.ops [op 11 (.mov (.r 0)),op 12 (.mov (.r 1)),op 13 (.mov (.r 5)),op 14 (.ixs (.r 12) (.r 13)),op 15 (.cvi .u64 (.r 14)),op 16 (.bin .xor (.r 11) (.r 15)),op 0 (.mov (.r 16))]) <|
    .ops [op 17 (.mov (.r 0)),op 18 (.bin .mul (.r 17) (.c (.int .u64 1099511628211))),op 0 (.mov (.r 18))])) <|
   .ops [op 19 (.bin .add (.r 8) (.c (.int .i64 1))),op 8 (.mov (.r 19))]))) <|
 sq (.ops [op 20 (.mov (.r 0)),op 4 (.mov (.r 20))]) <|
 .ret⟩
def an155:An:=⟨[],[]⟩
def ir155:Go.Rmp.Fn:=⟨1,0,[.t 0],
 sq (.ops [op 0 (.mov (.c (.int .u64 0)))]) <|
 sq (.ops [op 0 (.mov (.c (.int .u64 14695981039346656037)))]) <|
 .ret⟩
def an156:An:=⟨[],[]⟩
def ir156:Go.Rmp.Fn:=⟨20,2,[.t 4],
 sq (.ops [op 4 (.mov (.c (.int .u64 0)))]) <|
 sq (sq (.ops [op 5 (.mov (.c (.int .i64 0)))]) <|
 .block 0 (
  .loop (
   sq (sq (.ops [op 6 (.mov (.r 5)),op 7 (.mov (.r 1)),op 8 (.len .str (.r 7)),op 9 (.bin .lss (.r 6) (.r 8))]) <|
   .cond (.r 9)
    (.skip)
    (.exit 0)) <|
   sq (.block 1 (
    .ops [op 12 (.mov (.r 0)),op 13 (.mov (.r 1)),op 14 (.mov (.r 5)),op 15 (.ixs (.r 13) (.r 14)),op 16 (.cvi .u64 (.r 15)),op 17 (.bin .xor (.r 12) (.r 16)),op 18 (.bin .mul (.r 17) (.c (.int .u64 1099511628211))),op 0 (.mov (.r 18))])) <|
   .ops [op 10 (.mov (.r 5)),op 11 (.bin .add (.r 10) (.c (.int .i64 1))),op 5 (.mov (.r 11))]))) <|
 sq (.ops [op 19 (.mov (.r 0)),op 4 (.mov (.r 19))]) <|
 .ret⟩
def an157:An:=⟨[],[]⟩
def ir157:Go.Rmp.Fn:=⟨9,1,[.t 2],
 sq (.ops [op 2 (.mov (.c (.bool false)))]) <|
 sq (.ops [op 3 (.mov (.r 0)),cl 4 182 [(.r 3)],op 5 (.mov (.r 4)),⟨(some 6),.b (.mov (.r 0)),(some (5,true)),[]⟩,⟨(some 7),.call 183 [(.r 6)],(some (5,true)),[]⟩,op 8 (.pick (.r 5) (.r 7) (.c (.bool false))),op 2 (.mov (.r 8))]) <|
 .ret⟩
def an158:An:=⟨[],[]⟩
def ir158:Go.Rmp.Fn:=⟨18,2,[.t 4],
 sq (.ops [op 4 (.mov (.c (.bool false)))]) <|
 sq (sq (.ops [op 5 (.mov (.c (.int .i64 0)))]) <|
 .block 0 (
  .loop (
   sq (sq (.ops [op 6 (.mov (.r 5)),op 7 (.mov (.r 0)),op 8 (.len .sl (.r 7)),op 9 (.bin .lss (.r 6) (.r 8))]) <|
   .cond (.r 9)
    (.skip)
    (.exit 0)) <|
   sq (.block 1 (
    sq (.ops [op 12 (.mov (.r 0)),op 13 (.mov (.r 5)),op 14 (.iad 1 (.r 12) (.r 13)),op 15 (.ld 1 false (.r 14)),op 16 (.mov (.r 1)),op 17 (.bin .eql (.r 15) (.r 16))]) <|
    .cond (.r 17)
     (sq (.ops [op 4 (.mov (.c (.bool true)))]) <|
     .ret)
     (.skip))) <|
   .ops [op 10 (.mov (.r 5)),op 11 (.bin .add (.r 10) (.c (.int .i64 1))),op 5 (.mov (.r 11))]))) <|
 sq (.ops [op 4 (.mov (.c (.bool false)))]) <|
 .ret⟩
def an159:An:=⟨[],[]⟩
def ir159:Go.Rmp.Fn:=⟨24,2,[.t 4],
 sq (.ops [op 2 (.box (.r 0)),op 3 (.box (.r 1)),op 4 (.mov (.c (.bool false)))]) <|
 sq (.ops [op 5 (.fad 0 (.r 2)),op 6 (.ld 1 false (.r 5)),op 7 (.fad 0 (.r 3)),op 8 (.ld 1 false (.r 7)),op 9 (.bin .lss (.r 6) (.r 8)),op 10 (.mov (.r 9)),⟨(some 11),.b (.fad 0 (.r 2)),(some (10,false)),[]⟩,⟨(some 12),.b (.ld 1 false (.r 11)),(some (10,false)),[]⟩,⟨(some 13),.b (.fad 0 (.r 3)),(some (10,false)),[]⟩,⟨(some 14),.b (.ld 1 false (.r 13)),(some (10,false)),[]⟩,⟨(some 15),.b (.bin .eql (.r 12) (.r 14)),(some (10,false)),[]⟩,⟨(some 16),.b (.mov (.r 15)),(some (10,false)),[]⟩,⟨(some 17),.b (.fad 1 (.r 2)),(some (16,true)),[]⟩,⟨(some 18),.b (.ld 1 false (.r 17)),(some (16,true)),[]⟩,⟨(some 19),.b (.fad 1 (.r 3)),(some (16,true)),[]⟩,⟨(some 20),.b (.ld 1 false (.r 19)),(some (16,true)),[]⟩,⟨(some 21),.b (.bin .lss (.r 18) (.r 20)),(some (16,true)),[]⟩,⟨(some 22),.b (.pick (.r 16) (.r 21) (.c (.bool false))),(some (10,false)),[]⟩,op 23 (.pick (.r 10) (.c (.bool true)) (.r 22)),op 4 (.mov (.r 23))]) <|
 .ret⟩
def an160:An:=⟨[],[]⟩
def ir160:Go.Rmp.Fn:=⟨42,2,[.t 4],
 sq (.ops [op 4 (.mov (.c (.sl .nil [])))]) <|
 sq (.ops [op 8 (.mov (.r 0)),op 9 (.mov (.r 1)),cl 10 184 [(.r 8),(.r 9)],op 5 (.mov (.r 10))]) <|
 sq (sq (.ops [op 11 (.mov (.r 5)),op 12 (.bin .eql (.r 11) (.c (.int .i64 (-1))))]) <|
 .cond (.r 12)
  (sq (.ops [op 13 (.mov (.r 0)),op 4 (.mov (.r 13))]) <|
  .ret)
  (.skip)) <|
 sq (sq (.ops [op 14 (.mov (.r 5)),op 15 (.bin .add (.r 14) (.c (.int .i64 1))),op 6 (.mov (.r 15))]) <|
 .block 0 (
  .loop (
   sq (sq (.ops [op 16 (.mov (.r 6)),op 17 (.mov (.r 0)),op 18 (.len .sl (.r 17)),op 19 (.bin .lss (.r 16) (.r 18))]) <|
   .cond (.r 19)
    (.skip)
    (.exit 0)) <|
   sq (.block 1 (
    sq (.ops [op 22 (.mov (.r 0)),op 23 (.mov (.r 6)),op 24 (.iad 1 (.r 22) (.r 23)),op 25 (.ld 1 false (.r 24)),op 7 (.mov (.r 25))]) <|
    sq (.ops [op 26 (.mov (.r 1)),op 27 (.mov (.r 7)),⟨(some 28),.callv (.r 26) [(.r 27)],none,[]⟩,op 29 (.un .not (.r 28))]) <|
    .cond (.r 29)
     (sq (.ops [op 30 (.mov (.r 0)),op 31 (.mov (.r 5)),op 32 (.mov (.r 7)),op 33 (.iad 1 (.r 30) (.r 31)),ef (.st 1 (.r 33) (.r 32))]) <|
     .ops [op 34 (.mov (.r 5)),op 35 (.bin .add (.r 34) (.c (.int .i64 1))),op 5 (.mov (.r 35))])
     (.skip))) <|
   .ops [op 20 (.mov (.r 6)),op 21 (.bin .add (.r 20) (.c (.int .i64 1))),op 6 (.mov (.r 21))]))) <|
 sq (.ops [op 36 (.mov (.r 0)),op 37 (.mov (.r 5)),op 38 (.sll 1 (.r 36) (some (.r 37)) none none),ef (.clr 1 [.int .u64 0] (.r 38))]) <|
 sq (.ops [op 39 (.mov (.r 0)),op 40 (.mov (.r 5)),op 41 (.sll 1 (.r 39) none (some (.r 40)) none),op 4 (.mov (.r 41))]) <|
 .ret⟩
def an161:An:=⟨[],[]⟩
def ir161:Go.Rmp.Fn:=⟨7,2,[.t 3],
 sq (.ops [op 3 (.mov (.c (.bool false)))]) <|
 sq (.ops [op 4 (.mov (.r 0)),op 5 (.ld 1 false (.r 1)),op 6 (.bin .eql (.r 4) (.r 5)),op 3 (.mov (.r 6))]) <|
 .ret⟩
def an162:An:=⟨[],[]⟩
def ir162:Go.Rmp.Fn:=⟨42,2,[.t 4],
 sq (.ops [op 4 (.mov (.c (.sl .nil [])))]) <|
 sq (.ops [op 8 (.mov (.r 0)),op 9 (.mov (.r 1)),cl 10 185 [(.r 8),(.r 9)],op 5 (.mov (.r 10))]) <|
 sq (sq (.ops [op 11 (.mov (.r 5)),op 12 (.bin .eql (.r 11) (.c (.int .i64 (-1))))]) <|
 .cond (.r 12)
  (sq (.ops [op 13 (.mov (.r 0)),op 4 (.mov (.r 13))]) <|
  .ret)
  (.skip)) <|
 sq (sq (.ops [op 14 (.mov (.r 5)),op 15 (.bin .add (.r 14) (.c (.int .i64 1))),op 6 (.mov (.r 15))]) <|
 .block 0 (
  .loop (
   sq (sq (.ops [op 16 (.mov (.r 6)),op 17 (.mov (.r 0)),op 18 (.len .sl (.r 17)),op 19 (.bin .lss (.r 16) (.r 18))]) <|
   .cond (.r 19)
    (.skip)
    (.exit 0)) <|
   sq (.block 1 (
    sq (.ops [op 22 (.mov (.r 0)),op 23 (.mov (.r 6)),op 24 (.iad 1 (.r 22) (.r 23)),op 25 (.ld 1 false (.r 24)),op 7 (.mov (.r 25))]) <|
    sq (.ops [op 26 (.mov (.r 1)),op 27 (.mov (.r 7)),⟨(some 28),.callv (.r 26) [(.r 27)],none,[]⟩,op 29 (.un .not (.r 28))]) <|
    .cond (.r 29)
     (sq (.ops [op 30 (.mov (.r 0)),op 31 (.mov (.r 5)),op 32 (.mov (.r 7)),op 33 (.iad 1 (.r 30) (.r 31)),ef (.st 1 (.r 33) (.r 32))]) <|
     .ops [op 34 (.mov (.r 5)),op 35 (.bin .add (.r 34) (.c (.int .i64 1))),op 5 (.mov (.r 35))])
     (.skip))) <|
   .ops [op 20 (.mov (.r 6)),op 21 (.bin .add (.r 20) (.c (.int .i64 1))),op 6 (.mov (.r 21))]))) <|
 sq (.ops [op 36 (.mov (.r 0)),op 37 (.mov (.r 5)),op 38 (.sll 1 (.r 36) (some (.r 37)) none none),ef (.clr 1 [.str ⟨#[]⟩] (.r 38))]) <|
 sq (.ops [op 39 (.mov (.r 0)),op 40 (.mov (.r 5)),op 41 (.sll 1 (.r 39) none (some (.r 40)) none),op 4 (.mov (.r 41))]) <|
 .ret⟩
def an163:An:=⟨[],[]⟩
def ir163:Go.Rmp.Fn:=⟨7,2,[.t 3],
 sq (.ops [op 3 (.mov (.c (.bool false)))]) <|
 sq (.ops [op 4 (.mov (.r 0)),op 5 (.ld 1 false (.r 1)),op 6 (.bin .eql (.r 4) (.r 5)),op 3 (.mov (.r 6))]) <|
 .ret⟩
def an164:An:=⟨[],[(4,[(0,true),(1,true),(2,true),(3,true),(4,true),(5,true),(6,true),(7,true),(8,true),(9,true)])]⟩
def ir164:Go.Rmp.Fn:=⟨23,1,[.t 2],
 sq (.ops [op 2 (.mov (.c (.bool false)))]) <|
 sq (sq (.ops [op 3 (.mov (.c (.int .i64 1)))]) <|
 .block 0 (
  .loop (
   sq (sq (.ops [op 4 (.mov (.r 3)),op 5 (.mov (.r 0)),op 6 (.len .sl (.r 5)),op 7 (.bin .lss (.r 4) (.r 6))]) <|
   .cond (.r 7)
    (.skip)
    (.exit 0)) <|
   sq (.block 1 (
    sq (.ops [op 10 (.mov (.r 0)),op 11 (.mov (.r 3)),op 12 (.iad 1 (.r 10) (.r 11)),op 13 (.ld 1 false (.r 12)),op 14 (.mov (.r 0)),op 15 (.mov (.r 3)),op 16 (.bin .sub (.r 15) (.c (.int .i64 1))),op 17 (.iad 1 (.r 14) (.r 16)),op 18 (.ld 1 false (.r 17)),op 19 (.bin .leq (.r 13) (.r 18))]) <|
    .cond (.r 19)
     (sq (.ops [op 2 (.mov (.c (.bool false)))]) <|
     .ret)
     (.skip))) <|
   .ops [op 8 (.mov (.r 3)),op 9 (.bin .add (.r 8) (.c (.int .i64 1))),op 3 (.mov (.r 9))]))) <|
 sq (.ops [op 20 (.mov (.r 0)),op 21 (.len .sl (.r 20)),op 22 (.bin .leq (.r 21) (.c (.int .i64 1024))),op 2 (.mov (.r 22))]) <|
 .ret⟩
def an165:An:=⟨[],[]⟩
def ir165:Go.Rmp.Fn:=⟨14,2,[.t 4],
 sq (.ops [op 4 (.mov (.c (.bool false)))]) <|
 sq (.ops [op 8 (.mov (.r 0)),op 9 (.mov (.r 1)),cl 10 171 [(.r 8),(.r 9)],op 7 (.mov (.r 10)),op 11 (.ext 0 (.r 7)),op 12 (.ext 1 (.r 7)),op 5 (.mov (.r 11)),op 6 (.mov (.r 12))]) <|
 sq (.ops [op 13 (.mov (.r 6)),op 4 (.mov (.r 13))]) <|
 .ret⟩
def an169:An:=⟨[],[]⟩
def ir169:Go.Rmp.Fn:=⟨6,1,[.t 2],
 sq (.ops [op 2 (.mov (.c (.bool false)))]) <|
 sq (.ops [op 3 (.mov (.r 0)),op 4 (.mov (.r 0)),op 5 (.bin .neq (.r 3) (.r 4)),op 2 (.mov (.r 5))]) <|
 .ret⟩
def an170:An:=⟨[],[]⟩
def ir170:Go.Rmp.Fn:=⟨6,1,[.t 2],
 sq (.ops [op 2 (.mov (.c (.bool false)))]) <|
 sq (.ops [op 3 (.mov (.r 0)),op 4 (.mov (.r 0)),op 5 (.bin .neq (.r 3) (.r 4)),op 2 (.mov (.r 5))]) <|
 .ret⟩
def an171:An:=⟨[],[]⟩
def ir171:Go.Rmp.Fn:=⟨54,2,[.t 4,.t 5],
 sq (.ops [op 4 (.mov (.c (.int .i64 0))),op 5 (.mov (.c (.bool false)))]) <|
 sq (.ops [op 10 (.mov (.r 0)),op 11 (.len .sl (.r 10)),op 6 (.mov (.r 11))]) <|
 sq (.ops [op 12 (.mov (.r 6)),op 7 (.mov (.c (.int .i64 0))),op 8 (.mov (.r 12))]) <|
 sq (.block 0 (
  .loop (
   sq (sq (.ops [op 13 (.mov (.r 7)),op 14 (.mov (.r 8)),op 15 (.bin .lss (.r 13) (.r 14))]) <|
   .cond (.r 15)
    (.skip)
    (.exit 0)) <|
   .block 1 (
    sq (.ops [op 16 (.mov (.r 7)),op 17 (.mov (.r 8)),op 18 (.bin .add (.r 16) (.r 17)),op 19 (.cvi .u64 (.r 18)),op 20 (.bin .shr (.r 19) (.c (.int .u64 1))),op 21 (.cvi .i64 (.r 20)),op 9 (.mov (.r 21))]) <|
    sq (.ops [op 22 (.mov (.r 0)),op 23 (.mov (.r 9)),op 24 (.iad 1 (.r 22) (.r 23)),op 25 (.ld 1 false (.r 24)),op 26 (.mov (.r 1)),cl 27 194 [(.r 25),(.r 26)]]) <|
    .cond (.r 27)
     (.ops [op 28 (.mov (.r 9)),op 29 (.bin .add (.r 28) (.c (.int .i64 1))),op 7 (.mov (.r 29))])
     (.ops [op 30 (.mov (.r 9)),op 8 (.mov (.r 30))]))))) <|
 sq (.ops [op 31 (.mov (.r 7)),op 32 (.mov (.r 7)),op 33 (.mov (.r 6)),op 34 (.bin .lss (.r 32) (.r 33)),op 35 (.mov (.r 34)),⟨(some 36),.b (.mov (.r 0)),(some (35,true)),[]⟩,⟨(some 37),.b (.mov (.r 7)),(some (35,true)),[]⟩,⟨(some 38),.b (.iad 1 (.r 36) (.r 37)),(some (35,true)),[]⟩,⟨(some 39),.b (.ld 1 false (.r 38)),(some (35,true)),[]⟩,⟨(some 40),.b (.mov (.r 1)),(some (35,true)),[]⟩,⟨(some 41),.b (.bin .eql (.r 39) (.r 40)),(some (35,true)),[]⟩,⟨(some 42),.b (.mov (.r 41)),(some (35,true)),[]⟩,⟨(some 43),.b (.mov (.r 0)),(some (42,false)),[]⟩,⟨(some 44),.b (.mov (.r 7)),(some (42,false)),[]⟩,⟨(some 45),.b (.iad 1 (.r 43) (.r 44)),(some (42,false)),[]⟩,⟨(some 46),.b (.ld 1 false (.r 45)),(some (42,false)),[]⟩,⟨(some 47),.call 195 [(.r 46)],(some (42,false)),[]⟩,⟨(some 48),.b (.mov (.r 47)),(some (42,false)),[]⟩,⟨(some 49),.b (.mov (.r 1)),(some (48,true)),[]⟩,⟨(some 50),.call 195 [(.r 49)],(some (48,true)),[]⟩,⟨(some 51),.b (.pick (.r 48) (.r 50) (.c (.bool false))),(some (42,false)),[]⟩,⟨(some 52),.b (.pick (.r 42) (.c (.bool true)) (.r 51)),(some (35,true)),[]⟩,op 53 (.pick (.r 35) (.r 52) (.c (.bool false))),op 4 (.mov (.r 31)),op 5 (.mov (.r 53))]) <|
 .ret⟩
def an172:An:=⟨[],[]⟩
def ir172:Go.Rmp.Fn:=⟨6,1,[.t 2],
 sq (.ops [op 2 (.mov (.c (.bool false)))]) <|
 sq (.ops [op 3 (.mov (.r 0)),op 4 (.mov (.r 0)),op 5 (.bin .neq (.r 3) (.r 4)),op 2 (.mov (.r 5))]) <|
 .ret⟩
def an180:An:=⟨[(3,3)],[]⟩
def ir180:Go.Rmp.Fn:=⟨13,2,[.t 4],
 sq (.ops [op 2 (.box (.r 0)),op 4 (.mov (.c (.sl .nil [])))]) <|
 sq (sq (.ops [op 6 (.mov (.r 1))]) <|
 .block 0 (
  .rangeF 13 (.r 6) [7]
   (.ops [op 5 (.mov (.r 7))])
   (.block 1 (
    .ops [op 8 (.ld 1 false (.r 2)),op 9 (.mov (.r 5)),op 10 (.bsl 1 [.str ⟨#[]⟩] [(0,(.r 9))]),op 11 (.app 1 16 true (.r 8) (.r 10)),ef (.st 1 (.r 2) (.r 11))])))) <|
 sq (.ops [op 12 (.ld 1 false (.r 2)),op 4 (.mov (.r 12))]) <|
 .ret⟩
def an181:An:=⟨[],[(17,[(0,true),(1,true),(2,true),(3,true),(4,true),(5,true),(6,true),(7,true),(8,true),(9,true),(10,true),(11,true),(12,false),(13,true),(14,true)])]⟩
def ir181:Go.Rmp.Fn:=⟨134,4,[],
 sq (.ops [op 8 (.mov (.c (.bool true)))]) <|
 sq (.ops [op 9 (.mov (.c (.bool true)))]) <|
 .block 0 (
  .loop (
   .block 1 (
    sq (.ops [op 19 (.mov (.r 2)),op 20 (.mov (.r 1)),op 21 (.bin .sub (.r 19) (.r 20)),op 10 (.mov (.r 21))]) <|
    sq (sq (.ops [op 22 (.mov (.r 10)),op 23 (.bin .leq (.r 22) (.c (.int .i64 12)))]) <|
    .cond (.r 23)
     (sq (.ops [op 24 (.mov (.r 0)),op 25 (.mov (.r 1)),op 26 (.mov (.r 2)),cl 27 198 [(.r 24),(.r 25),(.r 26)]]) <|
     .ret)
     (.skip)) <|
    sq (sq (.ops [op 28 (.mov (.r 3)),op 29 (.bin .eql (.r 28) (.c (.int .i64 0)))]) <|
    .cond (.r 29)
     (sq (.ops [op 30 (.mov (.r 0)),op 31 (.mov (.r 1)),op 32 (.mov (.r 2)),cl 33 199 [(.r 30),(.r 31),(.r 32)]]) <|
     .ret)
     (.skip)) <|
    sq (sq (.ops [op 34 (.mov (.r 8)),op 35 (.un .not (.r 34))]) <|
    .cond (.r 35)
     (sq (.ops [op 36 (.mov (.r 0)),op 37 (.mov (.r 1)),op 38 (.mov (.r 2)),cl 39 200 [(.r 36),(.r 37),(.r 38)]]) <|
     .ops [op 40 (.mov (.r 3)),op 41 (.bin .sub (.r 40) (.c (.int .i64 1))),op 3 (.mov (.r 41))])
     (.skip)) <|
    sq (.ops [op 43 (.mov (.r 0)),op 44 (.mov (.r 1)),op 45 (.mov (.r 2)),cl 46 201 [(.r 43),(.r 44),(.r 45)],op 42 (.mov (.r 46)),op 47 (.ext 0 (.r 42)),op 48 (.ext 1 (.r 42)),op 11 (.mov (.r 47)),op 12 (.mov (.r 48))]) <|
    sq (sq (.ops [op 49 (.mov (.r 12)),op 50 (.bin .eql (.r 49) (.c (.int .i64 2)))]) <|
    .cond (.r 50)
     (sq (.ops [op 51 (.mov (.r 0)),op 52 (.mov (.r 1)),op 53 (.mov (.r 2)),cl 54 202 [(.r 51),(.r 52),(.r 53)]]) <|
     sq (.ops [op 55 (.mov (.r 2)),op 56 (.bin .sub (.r 55) (.c (.int .i64 1))),op 57 (.mov (.r 11)),op 58 (.mov (.r 1)),op 59 (.bin .sub (.r 57) (.r 58)),op 60 (.bin .sub (.r 56) (.r 59)),op 11 (.mov (.r 60))]) <|
     .ops [op 12 (.mov (.c (.int .i64 1)))])
     (.skip)) <|
    sq (sq (.ops [op 61 (.mov (.r 8)),op 62 (.mov (.r 61)),⟨(some 63),.b (.mov (.r 9)),(some (62,true)),[]⟩,op 64 (.pick (.r 62) (.r 63) (.c (.bool false))),op 65 (.mov (.r 64)),⟨(some 66),.b (.mov (.r 12)),(some (65,true)),[]⟩,⟨(some 67),.b (.bin .eql (.r 66) (.c (.int .i64 1))),(some (65,true)),[]⟩,op 68 (.pick (.r 65) (.r 67) (.c (.bool false)))]) <|
    .cond (.r 68)
     (sq (.ops [op 69 (.mov (.r 0)),op 70 (.mov (.r 1)),op 71 (.mov (.r 2)),cl 72 203 [(.r 69),(.r 70),(.r 71)]]) <|
     .cond (.r 72)
      (.ret)
      (.skip))
     (.skip)) <|
    sq (sq (.ops [op 73 (.mov (.r 1)),op 74 (.bin .gtr (.r 73) (.c (.int .i64 0))),op 75 (.mov (.r 74)),⟨(some 76),.b (.mov (.r 0)),(some (75,true)),[]⟩,⟨(some 77),.b (.mov (.r 1)),(some (75,true)),[]⟩,⟨(some 78),.b (.bin .sub (.r 77) (.c (.int .i64 1))),(some (75,true)),[]⟩,⟨(some 79),.b (.iad 1 (.r 76) (.r 78)),(some (75,true)),[]⟩,⟨(some 80),.b (.ld 1 false (.r 79)),(some (75,true)),[]⟩,⟨(some 81),.b (.mov (.r 0)),(some (75,true)),[]⟩,⟨(some 82),.b (.mov (.r 11)),(some (75,true)),[]⟩,⟨(some 83),.b (.iad 1 (.r 81) (.r 82)),(some (75,true)),[]⟩,⟨(some 84),.b (.ld 1 false (.r 83)),(some (75,true)),[]⟩,⟨(some 85),.call 194 [(.r 80),(.r 84)],(some (75,true)),[]⟩,⟨(some 86),.b (.un .not (.r 85)),(some (75,true)),[]⟩,op 87 (.pick (.r 75) (.r 86) (.c (.bool false)))]) <|
    .cond (.r 87)
     (sq (.ops [op 88 (.mov (.r 0)),op 89 (.mov (.r 1)),op 90 (.mov (.r 2)),op 91 (.mov (.r 11)),cl 92 204 [(.r 88),(.r 89),(.r 90),(.r 91)],op 13 (.mov (.r 92))]) <|
     sq (.ops [op 93 (.mov (.r 13)),op 1 (.mov (.r 93))]) <|
     .exit 1)
     (.skip)) <|
    sq (.ops [op 95 (.mov (.r 0)),op 96 (.mov (.r 1)),op 97 (.mov (.r 2)),op 98 (.mov (.r 11)),cl 99 205 [(.r 95),(.r 96),(.r 97),(.r 98)],op 94 (.mov (.r 99)),op 100 (.ext 0 (.r 94)),op 101 (.ext 1 (.r 94)),op 14 (.mov (.r 100)),op 15 (.mov (.r 101))]) <|
    sq (.ops [op 102 (.mov (.r 15)),op 9 (.mov (.r 102))]) <|
    sq (.ops [op 103 (.mov (.r 14)),op 104 (.mov (.r 1)),op 105 (.bin .sub (.r 103) (.r 104)),op 106 (.mov (.r 2)),op 107 (.mov (.r 14)),op 108 (.bin .sub (.r 106) (.r 107)),op 16 (.mov (.r 105)),op 17 (.mov (.r 108))]) <|
    sq (.ops [op 109 (.mov (.r 10)),op 110 (.bin .quo (.r 109) (.c (.int .i64 8))),op 18 (.mov (.r 110))]) <|
    sq (.ops [op 111 (.mov (.r 16)),op 112 (.mov (.r 17)),op 113 (.bin .lss (.r 111) (.r 112))]) <|
    .cond (.r 113)
     (sq (.ops [op 114 (.mov (.r 16)),op 115 (.mov (.r 18)),op 116 (.bin .geq (.r 114) (.r 115)),op 8 (.mov (.r 116))]) <|
     sq (.ops [op 117 (.mov (.r 0)),op 118 (.mov (.r 1)),op 119 (.mov (.r 14)),op 120 (.mov (.r 3)),cl 121 181 [(.r 117),(.r 118),(.r 119),(.r 120)]]) <|
     .ops [op 122 (.mov (.r 14)),op 123 (.bin .add (.r 122) (.c (.int .i64 1))),op 1 (.mov (.r 123))])
     (sq (.ops [op 124 (.mov (.r 17)),op 125 (.mov (.r 18)),op 126 (.bin .geq (.r 124) (.r 125)),op 8 (.mov (.r 126))]) <|
     sq (.ops [op 127 (.mov (.r 0)),op 128 (.mov (.r 14)),op 129 (.bin .add (.r 128) (.c (.int .i64 1))),op 130 (.mov (.r 2)),op 131 (.mov (.r 3)),cl 132 181 [(.r 127),(.r 129),(.r 130),(.r 131)]]) <|
     .ops [op 133 (.mov (.r 14)),op 2 (.mov (.r 133))]))))⟩
def an182:An:=⟨[],[]⟩
def ir182:Go.Rmp.Fn:=⟨24,1,[.t 2],
 sq (.ops [op 2 (.mov (.c (.bool false)))]) <|
 sq (sq (.ops [op 3 (.mov (.c (.int .i64 0)))]) <|
 .block 0 (
  .loop (
   sq (sq (.ops [op 4 (.mov (.r 3)),op 5 (.mov (.r 0)),op 6 (.len .sl (.r 5)),op 7 (.bin .lss (.r 4) (.r 6))]) <|
   .cond (.r 7)
    (.skip)
    (.exit 0)) <|
   sq (.block 1 (
    sq (.ops [op 10 (.mov (.r 0)),op 11 (.mov (.r 3)),op 12 (.iad 1 (.r 10) (.r 11)),op 13 (.ld 1 false (.r 12)),op 14 (.len .str (.r 13)),op 15 (.bin .gtr (.r 14) (.c (.int .i64 65535)))]) <|
    .cond (.r 15)
     (sq (.ops [op 2 (.mov (.c (.bool false)))]) <|
     .ret)
     (.skip))) <|
   .ops [op 8 (.mov (.r 3)),op 9 (.bin .add (.r 8) (.c (.int .i64 1))),op 3 (.mov (.r 9))]))) <|
 sq (.ops [op 16 (.mov (.r 0)),op 17 (.len .sl (.r 16)),op 18 (.bin .geq (.r 17) (.c (.int .i64 1))),op 19 (.mov (.r 18)),⟨(some 20),.b (.mov (.r 0)),(some (19,true)),[]⟩,⟨(some 21),.b (.len .sl (.r 20)),(some (19,true)),[]⟩,⟨(some 22),.b (.bin .leq (.r 21) (.c (.int .i64 1024))),(some (19,true)),[]⟩,op 23 (.pick (.r 19) (.r 22) (.c (.bool false))),op 2 (.mov (.r 23))]) <|
 .ret⟩
def an183:An:=⟨[],[(4,[(0,true),(1,true),(2,true),(3,true),(4,true),(5,true),(6,true),(7,true),(8,true),(9,true)])]⟩
def ir183:Go.Rmp.Fn:=⟨20,1,[.t 2],
 sq (.ops [op 2 (.mov (.c (.bool false)))]) <|
 sq (sq (.ops [op 3 (.mov (.c (.int .i64 1)))]) <|
 .block 0 (
  .loop (
   sq (sq (.ops [op 4 (.mov (.r 3)),op 5 (.mov (.r 0)),op 6 (.len .sl (.r 5)),op 7 (.bin .lss (.r 4) (.r 6))]) <|
   .cond (.r 7)
    (.skip)
    (.exit 0)) <|
   sq (.block 1 (
    sq (.ops [op 10 (.mov (.r 0)),op 11 (.mov (.r 3)),op 12 (.bin .sub (.r 11) (.c (.int .i64 1))),op 13 (.iad 1 (.r 10) (.r 12)),op 14 (.ld 1 false (.r 13)),op 15 (.mov (.r 0)),op 16 (.mov (.r 3)),op 17 (.iad 1 (.r 15) (.r 16)),op 18 (.ld 1 false (.r 17)),op 19 (.bin .geq (.r 14) (.r 18))]) <|
    .cond (.r 19)
     (sq (.ops [op 2 (.mov (.c (.bool false)))]) <|
     .ret)
     (.skip))) <|
   .ops [op 8 (.mov (.r 3)),op 9 (.bin .add (.r 8) (.c (.int .i64 1))),op 3 (.mov (.r 9))]))) <|
 sq (.ops [op 2 (.mov (.c (.bool true)))]) <|
 .ret⟩
def an184:An:=⟨[],[]⟩
def ir184:Go.Rmp.Fn:=⟨19,2,[.t 4],
 sq (.ops [op 4 (.mov (.c (.int .i64 0)))]) <|
 sq (sq (.ops [op 6 (.mov (.r 0)),op 7 (.len .sl (.r 6)),op 8 (.mov (.c (.int .i64 0)))]) <|
 .block 0 (
  .loop (
   sq (.ops [op 9 (.bin .lss (.r 8) (.r 7))]) <|
   sq (.cond (.r 9)
    (.skip)
    (.exit 0)) <|
   sq (.block 1 (
    sq (.ops [op 10 (.mov (.r 8)),op 5 (.mov (.r 10))]) <|
    sq (.ops [op 11 (.mov (.r 1)),op 12 (.mov (.r 0)),op 13 (.mov (.r 5)),op 14 (.iad 1 (.r 12) (.r 13)),op 15 (.ld 1 false (.r 14)),⟨(some 16),.callv (.r 11) [(.r 15)],none,[]⟩]) <|
    .cond (.r 16)
     (sq (.ops [op 17 (.mov (.r 5)),op 4 (.mov (.r 17))]) <|
     .ret)
     (.skip))) <|
   .ops [op 18 (.bin .add (.r 8) (.c (.int .i64 1))),op 8 (.mov (.r 18))]))) <|
 sq (.ops [op 4 (.mov (.c (.int .i64 (-1))))]) <|
 .ret⟩
def an185:An:=⟨[],[]⟩
def ir185:Go.Rmp.Fn:=⟨19,2,[.t 4],
 sq (.ops [op 4 (.mov (.c (.int .i64 0)))]) <|
 sq (sq (.ops [op 6 (.mov (.r 0)),op 7 (.len .sl (.r 6)),op 8 (.mov (.c (.int .i64 0)))]) <|
 .block 0 (
  .loop (
   sq (.ops [op 9 (.bin .lss (.r 8) (.r 7))]) <|
   sq (.cond (.r 9)
    (.skip)
    (.exit 0)) <|
   sq (.block 1 (
    sq (.ops [op 10 (.mov (.r 8)),op 5 (.mov (.r 10))]) <|
    sq (.ops [op 11 (.mov (.r 1)),op 12 (.mov (.r 0)),op 13 (.mov (.r 5)),op 14 (.iad 1 (.r 12) (.r 13)),op 15 (.ld 1 false (.r 14)),⟨(some 16),.callv (.r 11) [(.r 15)],none,[]⟩]) <|
    .cond (.r 16)
     (sq (.ops [op 17 (.mov (.r 5)),op 4 (.mov (.r 17))]) <|
     .ret)
     (.skip))) <|
   .ops [op 18 (.bin .add (.r 8) (.c (.int .i64 1))),op 8 (.mov (.r 18))]))) <|
 sq (.ops [op 4 (.mov (.c (.int .i64 (-1))))]) <|
 .ret⟩
def an194:An:=⟨[],[]⟩
def ir194:Go.Rmp.Fn:=⟨17,2,[.t 4],
 sq (.ops [op 4 (.mov (.c (.bool false)))]) <|
 sq (.ops [op 5 (.mov (.r 0)),cl 6 169 [(.r 5)],op 7 (.mov (.r 6)),⟨(some 8),.b (.mov (.r 1)),(some (7,true)),[]⟩,⟨(some 9),.call 169 [(.r 8)],(some (7,true)),[]⟩,⟨(some 10),.b (.un .not (.r 9)),(some (7,true)),[]⟩,op 11 (.pick (.r 7) (.r 10) (.c (.bool false))),op 12 (.mov (.r 11)),⟨(some 13),.b (.mov (.r 0)),(some (12,false)),[]⟩,⟨(some 14),.b (.mov (.r 1)),(some (12,false)),[]⟩,⟨(some 15),.b (.bin .lss (.r 13) (.r 14)),(some (12,false)),[]⟩,op 16 (.pick (.r 12) (.c (.bool true)) (.r 15)),op 4 (.mov (.r 16))]) <|
 .ret⟩
def an195:An:=⟨[],[]⟩
def ir195:Go.Rmp.Fn:=⟨6,1,[.t 2],
 sq (.ops [op 2 (.mov (.c (.bool false)))]) <|
 sq (.ops [op 3 (.mov (.r 0)),op 4 (.mov (.r 0)),op 5 (.bin .neq (.r 3) (.r 4)),op 2 (.mov (.r 5))]) <|
 .ret⟩
def an198:An:=⟨[],[(4,[(0,true),(1,true),(2,true),(3,true),(4,true),(5,true),(6,true),(7,true),(8,true),(9,true),(10,true),(11,true),(12,true),(13,false),(14,true)]),(6,[(0,true),(1,true),(2,true),(3,true),(4,true),(5,true),(6,true),(7,true),(8,true),(9,true),(10,true),(11,true),(12,true),(13,true),(14,true),(15,false),(16,true),(17,false)])]⟩
def ir198:Go.Rmp.Fn:=⟨49,3,[],
 sq (.ops [op 8 (.mov (.r 1)),op 9 (.bin .add (.r 8) (.c (.int .i64 1))),op 6 (.mov (.r 9))]) <|
 .block 0 (
  .loop (
   sq (sq (.ops [op 10 (.mov (.r 6)),op 11 (.mov (.r 2)),op 12 (.bin .lss (.r 10) (.r 11))]) <|
   .cond (.r 12)
    (.skip)
    (.exit 0)) <|
   sq (.block 1 (
    sq (.ops [op 15 (.mov (.r 6)),op 7 (.mov (.r 15))]) <|
    .block 2 (
     .loop (
      sq (sq (.ops [op 16 (.mov (.r 7)),op 17 (.mov (.r 1)),op 18 (.bin .gtr (.r 16) (.r 17)),op 19 (.mov (.r 18)),⟨(some 20),.b (.mov (.r 0)),(some (19,true)),[]⟩,⟨(some 21),.b (.mov (.r 7)),(some (19,true)),[]⟩,⟨(some 22),.b (.iad 1 (.r 20) (.r 21)),(some (19,true)),[]⟩,⟨(some 23),.b (.ld 1 false (.r 22)),(some (19,true)),[]⟩,⟨(some 24),.b (.mov (.r 0)),(some (19,true)),[]⟩,⟨(some 25),.b (.mov (.r 7)),(some (19,true)),[]⟩,⟨(some 26),.b (.bin .sub (.r 25) (.c (.int .i64 1))),(some (19,true)),[]⟩,⟨(some 27),.b (.iad 1 (.r 24) (.r 26)),(some (19,true)),[]⟩,⟨(some 28),.b (.ld 1 false (.r 27)),(some (19,true)),[]⟩,⟨(some 29),.call 194 [(.r 23),(.r 28)],(some (19,true)),[]⟩,op 30 (.pick (.r 19) (.r 29) (.c (.bool false)))]) <|
      .cond (.r 30)
       (.skip)
       (.exit 2)) <|
      sq (.block 3 (
       .ops [op 33 (.mov (.r 0)),op 34 (.mov (.r 7)),op 35 (.mov (.r 0)),op 36 (.mov (.r 7)),op 37 (.bin .sub (.r 36) (.c (.int .i64 1))),op 38 (.mov (.r 0)),op 39 (.mov (.r 7)),op 40 (.bin .sub (.r 39) (.c (.int .i64 1))),op 41 (.iad 1 (.r 38) (.r 40)),op 42 (.ld 1 false (.r 41)),op 43 (.mov (.r 0)),op 44 (.mov (.r 7)),op 45 (.iad 1 (.r 43) (.r 44)),op 46 (.ld 1 false (.r 45)),op 47 (.iad 1 (.r 33) (.r 34)),ef (.st 1 (.r 47) (.r 42)),op 48 (.iad 1 (.r 35) (.r 37)),ef (.st 1 (.r 48) (.r 46))])) <|
      .ops [op 31 (.mov (.r 7)),op 32 (.bin .sub (.r 31) (.c (.int .i64 1))),op 7 (.mov (.r 32))])))) <|
   .ops [op 13 (.mov (.r 6)),op 14 (.bin .add (.r 13) (.c (.int .i64 1))),op 6 (.mov (.r 14))]))⟩
theorem c8:compFn Tryz.prog an8 8=some ir8:=by kernel_rfl
theorem c10:compFn Tryz.prog an10 10=some ir10:=by kernel_rfl
theorem c11:compFn Tryz.prog an11 11=some ir11:=by kernel_rfl
theorem c16:compFn Tryz.prog an16 16=some ir16:=by kernel_rfl
theorem c17:compFn Tryz.prog an17 17=some ir17:=by kernel_rfl
theorem c22:compFn Tryz.prog an22 22=some ir22:=by kernel_rfl
theorem c23:compFn Tryz.prog an23 23=some ir23:=by kernel_rfl
theorem c24:compFn Tryz.prog an24 24=some ir24:=by kernel_rfl
theorem c25:compFn Tryz.prog an25 25=some ir25:=by kernel_rfl
theorem c26:compFn Tryz.prog an26 26=some ir26:=by kernel_rfl
theorem c27:compFn Tryz.prog an27 27=some ir27:=by kernel_rfl
theorem c28:compFn Tryz.prog an28 28=some ir28:=by kernel_rfl
theorem c31:compFn Tryz.prog an31 31=some ir31:=by kernel_rfl
theorem c32:compFn Tryz.prog an32 32=some ir32:=by kernel_rfl
theorem c33:compFn Tryz.prog an33 33=some ir33:=by kernel_rfl
theorem c34:compFn Tryz.prog an34 34=some ir34:=by kernel_rfl
theorem c35:compFn Tryz.prog an35 35=some ir35:=by kernel_rfl
theorem c36:compFn Tryz.prog an36 36=some ir36:=by kernel_rfl
theorem c42:compFn Tryz.prog an42 42=some ir42:=by kernel_rfl
theorem c43:compFn Tryz.prog an43 43=some ir43:=by kernel_rfl
theorem c44:compFn Tryz.prog an44 44=some ir44:=by kernel_rfl
theorem c45:compFn Tryz.prog an45 45=some ir45:=by kernel_rfl
theorem c46:compFn Tryz.prog an46 46=some ir46:=by kernel_rfl
theorem c47:compFn Tryz.prog an47 47=some ir47:=by kernel_rfl
theorem c48:compFn Tryz.prog an48 48=some ir48:=by kernel_rfl
theorem c54:compFn Tryz.prog an54 54=some ir54:=by kernel_rfl
theorem c55:compFn Tryz.prog an55 55=some ir55:=by kernel_rfl
theorem c56:compFn Tryz.prog an56 56=some ir56:=by kernel_rfl
theorem c57:compFn Tryz.prog an57 57=some ir57:=by kernel_rfl
theorem c62:compFn Tryz.prog an62 62=some ir62:=by kernel_rfl
theorem c63:compFn Tryz.prog an63 63=some ir63:=by kernel_rfl
theorem c64:compFn Tryz.prog an64 64=some ir64:=by kernel_rfl
theorem c65:compFn Tryz.prog an65 65=some ir65:=by kernel_rfl
theorem c66:compFn Tryz.prog an66 66=some ir66:=by kernel_rfl
theorem c67:compFn Tryz.prog an67 67=some ir67:=by kernel_rfl
theorem c68:compFn Tryz.prog an68 68=some ir68:=by kernel_rfl
theorem c69:compFn Tryz.prog an69 69=some ir69:=by kernel_rfl
theorem c70:compFn Tryz.prog an70 70=some ir70:=by kernel_rfl
theorem c71:compFn Tryz.prog an71 71=some ir71:=by kernel_rfl
theorem c72:compFn Tryz.prog an72 72=some ir72:=by kernel_rfl
theorem c73:compFn Tryz.prog an73 73=some ir73:=by kernel_rfl
theorem c74:compFn Tryz.prog an74 74=some ir74:=by kernel_rfl
theorem c75:compFn Tryz.prog an75 75=some ir75:=by kernel_rfl
theorem c76:compFn Tryz.prog an76 76=some ir76:=by kernel_rfl
theorem c77:compFn Tryz.prog an77 77=some ir77:=by kernel_rfl
theorem c78:compFn Tryz.prog an78 78=some ir78:=by kernel_rfl
theorem c79:compFn Tryz.prog an79 79=some ir79:=by kernel_rfl
theorem c80:compFn Tryz.prog an80 80=some ir80:=by kernel_rfl
theorem c81:compFn Tryz.prog an81 81=some ir81:=by kernel_rfl
theorem c82:compFn Tryz.prog an82 82=some ir82:=by kernel_rfl
theorem c91:compFn Tryz.prog an91 91=some ir91:=by kernel_rfl
theorem c93:compFn Tryz.prog an93 93=some ir93:=by kernel_rfl
theorem c94:compFn Tryz.prog an94 94=some ir94:=by kernel_rfl
theorem c95:compFn Tryz.prog an95 95=some ir95:=by kernel_rfl
theorem c96:compFn Tryz.prog an96 96=some ir96:=by kernel_rfl
theorem c97:compFn Tryz.prog an97 97=some ir97:=by kernel_rfl
theorem c98:compFn Tryz.prog an98 98=some ir98:=by kernel_rfl
theorem c99:compFn Tryz.prog an99 99=some ir99:=by kernel_rfl
theorem c103:compFn Tryz.prog an103 103=some ir103:=by kernel_rfl
theorem c104:compFn Tryz.prog an104 104=some ir104:=by kernel_rfl
theorem c105:compFn Tryz.prog an105 105=some ir105:=by kernel_rfl
theorem c106:compFn Tryz.prog an106 106=some ir106:=by kernel_rfl
theorem c107:compFn Tryz.prog an107 107=some ir107:=by kernel_rfl
theorem c108:compFn Tryz.prog an108 108=some ir108:=by kernel_rfl
theorem c109:compFn Tryz.prog an109 109=some ir109:=by kernel_rfl
theorem c110:compFn Tryz.prog an110 110=some ir110:=by kernel_rfl
theorem c111:compFn Tryz.prog an111 111=some ir111:=by kernel_rfl
theorem c112:compFn Tryz.prog an112 112=some ir112:=by kernel_rfl
theorem c113:compFn Tryz.prog an113 113=some ir113:=by kernel_rfl
theorem c114:compFn Tryz.prog an114 114=some ir114:=by kernel_rfl
theorem c115:compFn Tryz.prog an115 115=some ir115:=by kernel_rfl
theorem c116:compFn Tryz.prog an116 116=some ir116:=by kernel_rfl
theorem c117:compFn Tryz.prog an117 117=some ir117:=by kernel_rfl
theorem c118:compFn Tryz.prog an118 118=some ir118:=by kernel_rfl
theorem c119:compFn Tryz.prog an119 119=some ir119:=by kernel_rfl
theorem c120:compFn Tryz.prog an120 120=some ir120:=by kernel_rfl
theorem c121:compFn Tryz.prog an121 121=some ir121:=by kernel_rfl
theorem c122:compFn Tryz.prog an122 122=some ir122:=by kernel_rfl
theorem c123:compFn Tryz.prog an123 123=some ir123:=by kernel_rfl
theorem c124:compFn Tryz.prog an124 124=some ir124:=by kernel_rfl
theorem c133:compFn Tryz.prog an133 133=some ir133:=by kernel_rfl
theorem c134:compFn Tryz.prog an134 134=some ir134:=by kernel_rfl
theorem c135:compFn Tryz.prog an135 135=some ir135:=by kernel_rfl
theorem c136:compFn Tryz.prog an136 136=some ir136:=by kernel_rfl
theorem c137:compFn Tryz.prog an137 137=some ir137:=by kernel_rfl
theorem c138:compFn Tryz.prog an138 138=some ir138:=by kernel_rfl
theorem c139:compFn Tryz.prog an139 139=some ir139:=by kernel_rfl
theorem c145:compFn Tryz.prog an145 145=some ir145:=by kernel_rfl
theorem c149:compFn Tryz.prog an149 149=some ir149:=by kernel_rfl
theorem c150:compFn Tryz.prog an150 150=some ir150:=by kernel_rfl
theorem c151:compFn Tryz.prog an151 151=some ir151:=by kernel_rfl
theorem c152:compFn Tryz.prog an152 152=some ir152:=by kernel_rfl
theorem c153:compFn Tryz.prog an153 153=some ir153:=by kernel_rfl
theorem c154:compFn Tryz.prog an154 154=some ir154:=by kernel_rfl
theorem c155:compFn Tryz.prog an155 155=some ir155:=by kernel_rfl
theorem c156:compFn Tryz.prog an156 156=some ir156:=by kernel_rfl
theorem c157:compFn Tryz.prog an157 157=some ir157:=by kernel_rfl
theorem c158:compFn Tryz.prog an158 158=some ir158:=by kernel_rfl
theorem c159:compFn Tryz.prog an159 159=some ir159:=by kernel_rfl
theorem c160:compFn Tryz.prog an160 160=some ir160:=by kernel_rfl
theorem c161:compFn Tryz.prog an161 161=some ir161:=by kernel_rfl
theorem c162:compFn Tryz.prog an162 162=some ir162:=by kernel_rfl
theorem c163:compFn Tryz.prog an163 163=some ir163:=by kernel_rfl
theorem c164:compFn Tryz.prog an164 164=some ir164:=by kernel_rfl
theorem c165:compFn Tryz.prog an165 165=some ir165:=by kernel_rfl
theorem c169:compFn Tryz.prog an169 169=some ir169:=by kernel_rfl
theorem c170:compFn Tryz.prog an170 170=some ir170:=by kernel_rfl
theorem c171:compFn Tryz.prog an171 171=some ir171:=by kernel_rfl
theorem c172:compFn Tryz.prog an172 172=some ir172:=by kernel_rfl
theorem c180:compFn Tryz.prog an180 180=some ir180:=by kernel_rfl
theorem c181:compFn Tryz.prog an181 181=some ir181:=by kernel_rfl
theorem c182:compFn Tryz.prog an182 182=some ir182:=by kernel_rfl
theorem c183:compFn Tryz.prog an183 183=some ir183:=by kernel_rfl
theorem c184:compFn Tryz.prog an184 184=some ir184:=by kernel_rfl
theorem c185:compFn Tryz.prog an185 185=some ir185:=by kernel_rfl
theorem c194:compFn Tryz.prog an194 194=some ir194:=by kernel_rfl
theorem c195:compFn Tryz.prog an195 195=some ir195:=by kernel_rfl
theorem c198:compFn Tryz.prog an198 198=some ir198:=by kernel_rfl
def envFn:Nat→Option Go.Rmp.Fn
 | 8=>some ir8
 | 10=>some ir10
 | 11=>some ir11
 | 16=>some ir16
 | 17=>some ir17
 | 22=>some ir22
 | 23=>some ir23
 | 24=>some ir24
 | 25=>some ir25
 | 26=>some ir26
 | 27=>some ir27
 | 28=>some ir28
 | 31=>some ir31
 | 32=>some ir32
 | 33=>some ir33
 | 34=>some ir34
 | 35=>some ir35
 | 36=>some ir36
 | 42=>some ir42
 | 43=>some ir43
 | 44=>some ir44
 | 45=>some ir45
 | 46=>some ir46
 | 47=>some ir47
 | 48=>some ir48
 | 54=>some ir54
 | 55=>some ir55
 | 56=>some ir56
 | 57=>some ir57
 | 62=>some ir62
 | 63=>some ir63
 | 64=>some ir64
 | 65=>some ir65
 | 66=>some ir66
 | 67=>some ir67
 | 68=>some ir68
 | 69=>some ir69
 | 70=>some ir70
 | 71=>some ir71
 | 72=>some ir72
 | 73=>some ir73
 | 74=>some ir74
 | 75=>some ir75
 | 76=>some ir76
 | 77=>some ir77
 | 78=>some ir78
 | 79=>some ir79
 | 80=>some ir80
 | 81=>some ir81
 | 82=>some ir82
 | 91=>some ir91
 | 93=>some ir93
 | 94=>some ir94
 | 95=>some ir95
 | 96=>some ir96
 | 97=>some ir97
 | 98=>some ir98
 | 99=>some ir99
 | 103=>some ir103
 | 104=>some ir104
 | 105=>some ir105
 | 106=>some ir106
 | 107=>some ir107
 | 108=>some ir108
 | 109=>some ir109
 | 110=>some ir110
 | 111=>some ir111
 | 112=>some ir112
 | 113=>some ir113
 | 114=>some ir114
 | 115=>some ir115
 | 116=>some ir116
 | 117=>some ir117
 | 118=>some ir118
 | 119=>some ir119
 | 120=>some ir120
 | 121=>some ir121
 | 122=>some ir122
 | 123=>some ir123
 | 124=>some ir124
 | 133=>some ir133
 | 134=>some ir134
 | 135=>some ir135
 | 136=>some ir136
 | 137=>some ir137
 | 138=>some ir138
 | 139=>some ir139
 | 145=>some ir145
 | 149=>some ir149
 | 150=>some ir150
 | 151=>some ir151
 | 152=>some ir152
 | 153=>some ir153
 | 154=>some ir154
 | 155=>some ir155
 | 156=>some ir156
 | 157=>some ir157
 | 158=>some ir158
 | 159=>some ir159
 | 160=>some ir160
 | 161=>some ir161
 | 162=>some ir162
 | 163=>some ir163
 | 164=>some ir164
 | 165=>some ir165
 | 169=>some ir169
 | 170=>some ir170
 | 171=>some ir171
 | 172=>some ir172
 | 180=>some ir180
 | 181=>some ir181
 | 182=>some ir182
 | 183=>some ir183
 | 184=>some ir184
 | 185=>some ir185
 | 194=>some ir194
 | 195=>some ir195
 | 198=>some ir198
 | _=>none
def env:Env:=⟨envFn,fun _ _ _ _=>False,fun _ _ _ _ _ h _=>h⟩
theorem envOk:EnvOk Tryz.prog env where
 mixed:=by kernel_rfl
 fn:=by
  intro f fn h
  simp only [env,envFn] at h
  split at h
  ·cases h;exact ⟨_,c8⟩
  ·cases h;exact ⟨_,c10⟩
  ·cases h;exact ⟨_,c11⟩
  ·cases h;exact ⟨_,c16⟩
  ·cases h;exact ⟨_,c17⟩
  ·cases h;exact ⟨_,c22⟩
  ·cases h;exact ⟨_,c23⟩
  ·cases h;exact ⟨_,c24⟩
  ·cases h;exact ⟨_,c25⟩
  ·cases h;exact ⟨_,c26⟩
  ·cases h;exact ⟨_,c27⟩
  ·cases h;exact ⟨_,c28⟩
  ·cases h;exact ⟨_,c31⟩
  ·cases h;exact ⟨_,c32⟩
  ·cases h;exact ⟨_,c33⟩
  ·cases h;exact ⟨_,c34⟩
  ·cases h;exact ⟨_,c35⟩
  ·cases h;exact ⟨_,c36⟩
  ·cases h;exact ⟨_,c42⟩
  ·cases h;exact ⟨_,c43⟩
  ·cases h;exact ⟨_,c44⟩
  ·cases h;exact ⟨_,c45⟩
  ·cases h;exact ⟨_,c46⟩
  ·cases h;exact ⟨_,c47⟩
  ·cases h;exact ⟨_,c48⟩
  ·cases h;exact ⟨_,c54⟩
  ·cases h;exact ⟨_,c55⟩
  ·cases h;exact ⟨_,c56⟩
  ·cases h;exact ⟨_,c57⟩
  ·cases h;exact ⟨_,c62⟩
  ·cases h;exact ⟨_,c63⟩
  ·cases h;exact ⟨_,c64⟩
  ·cases h;exact ⟨_,c65⟩
  ·cases h;exact ⟨_,c66⟩
  ·cases h;exact ⟨_,c67⟩
  ·cases h;exact ⟨_,c68⟩
  ·cases h;exact ⟨_,c69⟩
  ·cases h;exact ⟨_,c70⟩
  ·cases h;exact ⟨_,c71⟩
  ·cases h;exact ⟨_,c72⟩
  ·cases h;exact ⟨_,c73⟩
  ·cases h;exact ⟨_,c74⟩
  ·cases h;exact ⟨_,c75⟩
  ·cases h;exact ⟨_,c76⟩
  ·cases h;exact ⟨_,c77⟩
  ·cases h;exact ⟨_,c78⟩
  ·cases h;exact ⟨_,c79⟩
  ·cases h;exact ⟨_,c80⟩
  ·cases h;exact ⟨_,c81⟩
  ·cases h;exact ⟨_,c82⟩
  ·cases h;exact ⟨_,c91⟩
  ·cases h;exact ⟨_,c93⟩
  ·cases h;exact ⟨_,c94⟩
  ·cases h;exact ⟨_,c95⟩
  ·cases h;exact ⟨_,c96⟩
  ·cases h;exact ⟨_,c97⟩
  ·cases h;exact ⟨_,c98⟩
  ·cases h;exact ⟨_,c99⟩
  ·cases h;exact ⟨_,c103⟩
  ·cases h;exact ⟨_,c104⟩
  ·cases h;exact ⟨_,c105⟩
  ·cases h;exact ⟨_,c106⟩
  ·cases h;exact ⟨_,c107⟩
  ·cases h;exact ⟨_,c108⟩
  ·cases h;exact ⟨_,c109⟩
  ·cases h;exact ⟨_,c110⟩
  ·cases h;exact ⟨_,c111⟩
  ·cases h;exact ⟨_,c112⟩
  ·cases h;exact ⟨_,c113⟩
  ·cases h;exact ⟨_,c114⟩
  ·cases h;exact ⟨_,c115⟩
  ·cases h;exact ⟨_,c116⟩
  ·cases h;exact ⟨_,c117⟩
  ·cases h;exact ⟨_,c118⟩
  ·cases h;exact ⟨_,c119⟩
  ·cases h;exact ⟨_,c120⟩
  ·cases h;exact ⟨_,c121⟩
  ·cases h;exact ⟨_,c122⟩
  ·cases h;exact ⟨_,c123⟩
  ·cases h;exact ⟨_,c124⟩
  ·cases h;exact ⟨_,c133⟩
  ·cases h;exact ⟨_,c134⟩
  ·cases h;exact ⟨_,c135⟩
  ·cases h;exact ⟨_,c136⟩
  ·cases h;exact ⟨_,c137⟩
  ·cases h;exact ⟨_,c138⟩
  ·cases h;exact ⟨_,c139⟩
  ·cases h;exact ⟨_,c145⟩
  ·cases h;exact ⟨_,c149⟩
  ·cases h;exact ⟨_,c150⟩
  ·cases h;exact ⟨_,c151⟩
  ·cases h;exact ⟨_,c152⟩
  ·cases h;exact ⟨_,c153⟩
  ·cases h;exact ⟨_,c154⟩
  ·cases h;exact ⟨_,c155⟩
  ·cases h;exact ⟨_,c156⟩
  ·cases h;exact ⟨_,c157⟩
  ·cases h;exact ⟨_,c158⟩
  ·cases h;exact ⟨_,c159⟩
  ·cases h;exact ⟨_,c160⟩
  ·cases h;exact ⟨_,c161⟩
  ·cases h;exact ⟨_,c162⟩
  ·cases h;exact ⟨_,c163⟩
  ·cases h;exact ⟨_,c164⟩
  ·cases h;exact ⟨_,c165⟩
  ·cases h;exact ⟨_,c169⟩
  ·cases h;exact ⟨_,c170⟩
  ·cases h;exact ⟨_,c171⟩
  ·cases h;exact ⟨_,c172⟩
  ·cases h;exact ⟨_,c180⟩
  ·cases h;exact ⟨_,c181⟩
  ·cases h;exact ⟨_,c182⟩
  ·cases h;exact ⟨_,c183⟩
  ·cases h;exact ⟨_,c184⟩
  ·cases h;exact ⟨_,c185⟩
  ·cases h;exact ⟨_,c194⟩
  ·cases h;exact ⟨_,c195⟩
  ·cases h;exact ⟨_,c198⟩
  ·cases h
 prim:=by intro f az H Q h;exact h.elim
end Go.Proofs.YtmgldhlcapjdkaaGreat.Ir
end

section
namespace Go.Proofs.YtmgldhlcapjdkaaGreat.St
open Go.Rmp Go.Proofs.YtmgldhlcapjdkaaGreat.Ir
set_option maxRecDepth 10000
theorem getP {α:Type} {l:List α} {i:Nat} (h:i<l.length):∃ x,l[i]?=some x:=⟨l[i],List.getElem?_eq_getElem h⟩
def eS (s:ByteArray):List T:=[.str s]
def eU (n:Nat):List T:=[.int .u64 n]
theorem wrap8 {n:Nat} (h:n<256):IntKind.u8.wrap (n:Int)=(n:Int):=by
 unfold IntKind.wrap
 simp -implicitDefEqProofs only [IntKind.signed,IntKind.bits]
 simp
 omega
def rises:List ByteArray→Bool
 | a :: b :: l=>strLt a b&&rises (b :: l)
 | _=>true
theorem rises_iff:∀ (l:List ByteArray),rises l=true↔∀ (i:Nat) (a b:ByteArray),l[i]?=some a→l[i+1]?=some b→strLt a b=true
 | []=>by simp [rises]
 | [a]=>by simp [rises]
 | a :: b :: l=>by
  simp -implicitDefEqProofs only [rises,Bool.and_eq_true,rises_iff (b :: l)]
  constructor
  ·rintro ⟨h1,h2⟩ i x y hx hy
   cases i with
   | zero=>simp at hx hy;subst hx;subst hy;exact h1
   | succ i=>exact h2 i x y (by simpa using hx) (by simpa using hy)
  ·intro h
   exact ⟨h 0 a b rfl rfl,fun i x y hx hy=>h (i+1) x y (by simpa using hx) (by simpa using hy)⟩
theorem rises_lt {l:List ByteArray} (h:rises l=true):∀ (q p:Nat) (a b:ByteArray),p<q→l[p]?=some a→l[q]?=some b→strLt a b=true
 | 0,p,_,_,hpq,_,_=>by omega
 | q+1,p,a,b,hpq,ha,hb=>by
  obtain ⟨c,hc⟩:=getP (l:=l) (i:=q) (by have:=(List.getElem?_eq_some_iff.1 hb).1;omega)
  have h1:=(rises_iff l).1 h q c b hc hb
  by_cases e:p=q
  ·subst e;rw [ha] at hc;cases hc;exact h1
  ·exact lt_trans' (rises_lt h q p a c (by omega) ha hc) h1
theorem rises_pw:∀ {l:List ByteArray},l.Pairwise (fun a b=>strLt a b=true)→rises l=true
 | [],_=>rfl
 | [_],_=>rfl
 | a :: b :: l,h=>by
  rw [List.pairwise_cons] at h
  simp -implicitDefEqProofs only [rises,h.1 b (by simp),rises_pw h.2,Bool.and_self]
theorem wrapu {n:Nat} (h:n<18446744073709551616):IntKind.u64.wrap (n:Int)=(n:Int):=by
 unfold IntKind.wrap
 simp -implicitDefEqProofs only [IntKind.signed,IntKind.bits]
 simp
 omega
theorem tick31 (n:Int) (H:Heap):W env (.call 94 [.int .i64 n]) H (Ret (.bool (decide (0≤n)&&decide (n≤1099511627776))) H):=by
 refine W.fnI rfl rfl rfl ?_
 by_cases h1:0≤n
 ·simp -implicitDefEqProofs only [ir94,op,ef,cl,sq,reduceIte,q1,q2,q3,q4,q5,q6,q7,q8,q9,S1,h1]
 ·simp -implicitDefEqProofs only [ir94,op,ef,cl,sq,reduceIte,q1,q2,q3,q4,q5,q6,q7,q8,q9,S1,h1,Bool.false_and]
theorem all_map {α:Type} {enc:α→List T} {n:Nat} (hn:∀ x,(enc x).length=n) (l:List α):(l.map enc).all (·.length==n)=true:=by
 simp [List.all_map,hn]
theorem take_sn {α:Type} {l:List α} {i:Nat} {x:α} (h:l[i]?=some x):l.take (i+1)=l.take i++[x]:=by
 obtain ⟨hi,e⟩:=List.getElem?_eq_some_iff.1 h
 rw [List.take_add_one,h];rfl
theorem iadX {α:Type} {e:α→List T} {n:Nat} (hn:∀ x,(e x).length=n) (h0:n≠0) {l:List α} {k:SK} {i:Nat} {x:α} (h:l[i]?=some x):iadT n i (.sl k (l.map e))=some (.iptr (e x)):=by
 simp -implicitDefEqProofs only [iadT,List.getElem?_map,h,Option.map_some,hn,h0,ne_eq,not_false_eq_true,and_self,if_true]
theorem roomS {n b:Nat} (h:n≤16777216) (hb:b≤64):roomOk n b=true:=by
 simp -implicitDefEqProofs only [roomOk,decide_eq_true_eq]
 have:(n+n / 4+512)*b≤(n+n / 4+512)*64:=Nat.mul_le_mul_left _ hb
 omega
def KOk {α:Type} (k:SK) (l:List α):Prop:=k=.nil→l=[]
theorem app_nn {H H':Heap} {bytes:Nat} {k k':SK} {es new es':List (List T)} (ha:appT H bytes k es new=some (.sl k' es',H')) (hn:new≠[]):k'≠.nil:=by
 rintro rfl
 unfold appT at ha
 split at ha
 ·exact hn rfl
 ·split at ha
  ·cases k <;> simp only at ha
   ·simp at ha
   ·cases ha
   ·simp at ha
   ·split at ha
    ·split at ha <;> simp at ha
    ·cases ha
  ·cases ha
theorem nan66 (s:ByteArray) (H:Heap):W env (.call 169 [.str s]) H (Ret (.bool false) H):=by
 refine W.fnI rfl rfl rfl ?_
 simp -implicitDefEqProofs only [ir169,op,ef,cl,sq,reduceIte,q1,q2,q3,q4,q5,q6,q7,q8,q9,S1,Bool.not_true]
theorem nan94 (s:ByteArray) (H:Heap):W env (.call 195 [.str s]) H (Ret (.bool false) H):=by
 refine W.fnI rfl rfl rfl ?_
 simp -implicitDefEqProofs only [ir195,op,ef,cl,sq,reduceIte,q1,q2,q3,q4,q5,q6,q7,q8,q9,S1,Bool.not_true]
theorem nan67 (n:Nat) (H:Heap):W env (.call 170 [.int .u64 n]) H (Ret (.bool false) H):=by
 refine W.fnI rfl rfl rfl ?_
 simp -implicitDefEqProofs only [ir170,op,ef,cl,sq,reduceIte,q1,q2,q3,q4,q5,q6,q7,q8,q9,S1]
theorem nan72 (n:Nat) (H:Heap):W env (.call 172 [.int .u64 n]) H (Ret (.bool false) H):=by
 refine W.fnI rfl rfl rfl ?_
 simp -implicitDefEqProofs only [ir172,op,ef,cl,sq,reduceIte,q1,q2,q3,q4,q5,q6,q7,q8,q9,S1]
def cmpS (a b:ByteArray):Int:=if strLt a b=true then -1 else if strLt b a=true then 1 else 0
def cmpN (a b:Nat):Int:=if a<b then -1 else if b<a then 1 else 0
theorem less91 (a b:ByteArray) (H:Heap):W env (.call 194 [.str a,.str b]) H (Ret (.bool (strLt a b)) H):=by
 refine W.fnI rfl rfl rfl ?_
 simp -implicitDefEqProofs only [ir194,op,ef,cl,sq,reduceIte,q1,q2,q3,q4,q5,q6,q7,q8,q9,S1]
 refine callB_of _ _ _ _ _ _ _ _ (nan66 a _) ?_
 rintro u H1 ⟨hu,rfl⟩
 cases hu
 simp -implicitDefEqProofs only [op,ef,cl,sq,reduceIte,q1,q2,q3,q4,q5,q6,q7,q8,q9,S1]
theorem less71 (a b:Nat) (H:Heap):W env (.call 145 [.int .u64 a,.int .u64 b]) H (Ret (.bool (decide (a<b))) H):=by
 refine W.fnI rfl rfl rfl ?_
 simp -implicitDefEqProofs only [ir145,op,ef,cl,sq,reduceIte,q1,q2,q3,q4,q5,q6,q7,q8,q9,S1]
 refine callB_of _ _ _ _ _ _ _ _ (nan67 a _) ?_
 rintro u H1 ⟨hu,rfl⟩
 cases hu
 simp -implicitDefEqProofs only [op,ef,cl,sq,reduceIte,q1,q2,q3,q4,q5,q6,q7,q8,q9,S1]
def or2 (x y:Int):Int:=if x=0 then y else x
abbrev Nm:=ByteArray × Nat
def eN (n:Nm):List T:=[.str n.1,.int .u64 n.2]
def kN (n:Nm):T:=.agg (eN n)
theorem kNok:KeyOk (.st [.str,.int]) kN:=⟨fun _=>rfl,fun a b=>by
 simp -implicitDefEqProofs only [kN,eN,keyEq,eqCells,eqSc,strEq_eq,if_true,deq]
 congr 1
 rw [Bool.eq_iff_iff]
 simp [Prod.ext_iff]⟩
def cmpM (a b:Nm):Int:=or2 (cmpS a.1 b.1) (cmpN a.2 b.2)
theorem half (i j:Nat) (h:i+j<9223372036854775807):IntKind.i64.wrap ((IntKind.u64.wrap (IntKind.i64.wrap ((i:Int)+(j:Int)))).fdiv (2 ^ (min (1:Int).toNat IntKind.u64.bits)))=(((i+j) / 2:Nat):Int):=by
 rw [wrap64 (n:=(i:Int)+j) (by omega),wrapu64 (n:=(i:Int)+j) (by omega)]
 have e:(2:Int) ^ (min (1:Int).toNat IntKind.u64.bits)=2:=by decide
 rw [e,Int.fdiv_eq_ediv_of_nonneg _ (by omega),wrap64 (by omega)]
 omega
def memB (l:List ByteArray) (x:ByteArray):Bool:=l.any fun y=>decide (y=x)
theorem memB_iff {l:List ByteArray} {x:ByteArray}:memB l x=true↔x∈l:=by simp [memB]
theorem memB_no {l:List ByteArray} {x:ByteArray}:memB l x=false↔x∉l:=by rw [← memB_iff];simp
def OkKey (l:List ByteArray) (i:Nat):Prop:=∀ x,l[i]?=some x→x.size≤65535∧(0<i→∀ y,l[i-1]?=some y→strLt y x=true)
def GoodKeys (l:List ByteArray):Prop:=(∀ i,i<l.length→OkKey l i)∧1≤l.length∧l.length≤1024
def goodB (l:List ByteArray):Bool:=rises l&&l.all (fun x=>decide (x.size≤65535))&&decide (1≤l.length)&&decide (l.length≤1024)
theorem goodB_iff {l:List ByteArray}:goodB l=true↔GoodKeys l:=by
 simp -implicitDefEqProofs only [goodB,Bool.and_eq_true,decide_eq_true_eq,List.all_eq_true,GoodKeys,rises_iff]
 constructor
 ·rintro ⟨⟨⟨h1,h2⟩,h3⟩,h4⟩
  refine ⟨fun i hi x hx=>⟨h2 x (List.mem_of_getElem? hx),fun h0 y hy=>h1 (i-1) y x hy (by rw [show i-1+1=i by omega];exact hx)⟩,h3,h4⟩
 ·rintro ⟨h1,h3,h4⟩
  refine ⟨⟨⟨fun i a b ha hb=>?_,fun x hx=>?_⟩,h3⟩,h4⟩
  ·exact (h1 (i+1) (List.getElem?_eq_some_iff.1 hb).1 b hb).2 (by omega) a (by simpa using ha)
  ·obtain ⟨i,hi,rfl⟩:=List.getElem_of_mem hx
   exact (h1 i hi _ (List.getElem?_eq_getElem hi)).1
theorem goodB_no {l:List ByteArray} (h:¬ GoodKeys l):goodB l=false:=by
 cases e:goodB l with
 | false=>rfl
 | true=>exact absurd (goodB_iff.1 e) h
theorem GoodKeys.rises {l:List ByteArray} (h:GoodKeys l):rises l=true:=(rises_iff l).2 fun i a b ha hb=>by
 have:=(h.1 (i+1) (List.getElem?_eq_some_iff.1 hb).1 b hb).2 (by omega) a (by simpa using ha)
 exact this
theorem rising57 (k:SK) (l:List ByteArray) (H:Heap) (hl:l.length<9223372036854775807):W env (.call 133 [.sl k (l.map eS)]) H (fun o H'=>o=.val (.bool (goodB l))∧H'=H):=by
 refine W.fnI rfl rfl rfl ?_
 simp -implicitDefEqProofs only [ir133,op,ef,cl,sq,reduceIte,q1,q2,q3,q4,q5,q6,q7,q8,q9,S1,List.length_map]
 refine W.loopI (fun (i:Nat) R H'=>H'=H∧R 0=.sl k (l.map eS)∧R 5=.sl k (l.map eS)∧R 6=.int .i64 l.length∧R 7=.int .i64 i∧i≤l.length∧∀ j,j<i→OkKey l j) (fun i=>l.length-i) 0 ⟨rfl,rfl,rfl,rfl,rfl,Nat.zero_le _,fun j h=>by omega⟩ ?_
 rintro i R _ ⟨rfl,h0,h5,h6,h7,hi,hok⟩
 by_cases hlt:i<l.length
 ·obtain ⟨x,hx⟩:=getP hlt
  have ws:=wrap_succ (show i<9223372036854775807 by omega)
  have hia:=iadX (e:=eS) (n:=1) (fun _=>rfl) (by decide) (k:=k) hx
  have bad:¬ OkKey l i→goodB l=false:=fun hb=>goodB_no fun h=>hb (h.1 i hlt)
  by_cases hsz:65535<x.size
  ·have:=bad fun h=>by have:=(h x hx).1;omega
   simp -implicitDefEqProofs only [op,ef,cl,sq,reduceIte,q1,q2,q3,q4,q5,q6,q7,q8,q9,S1,h0,h5,h6,h7,hlt,natOf_nat,hia,eS,hsz,this]
  ·by_cases hi0:0<i
   ·obtain ⟨y,hy⟩:=getP (l:=l) (i:=i-1) (by omega)
    have wp:=wrap_pred (show i<9223372036854775807 by omega) hi0
    have hiy:=iadX (e:=eS) (n:=1) (fun _=>rfl) (by decide) (k:=k) hy
    cases hc:strLt y x
    ·have:=bad fun h=>by have:=(h x hx).2 hi0 y hy;rw [hc] at this;cases this
     simp -implicitDefEqProofs only [op,ef,cl,sq,reduceIte,q1,q2,q3,q4,q5,q6,q7,q8,q9,S1,h0,h5,h6,h7,hlt,natOf_nat,hia,hiy,eS,hsz,hi0,wp,hc,this]
    ·simp -implicitDefEqProofs only [op,ef,cl,sq,reduceIte,q1,q2,q3,q4,q5,q6,q7,q8,q9,S1,h0,h5,h6,h7,hlt,natOf_nat,hia,hiy,eS,hsz,hi0,wp,hc,ws]
     refine ⟨i+1,by omega,rfl,by omega,fun j hj=>?_⟩
     by_cases e:j=i
     ·subst e;intro x' hx';rw [hx] at hx';cases hx'
      exact ⟨by omega,fun _ y' hy'=>by rw [hy] at hy';cases hy';exact hc⟩
     ·exact hok j (by omega)
   ·simp -implicitDefEqProofs only [op,ef,cl,sq,reduceIte,q1,q2,q3,q4,q5,q6,q7,q8,q9,S1,h0,h5,h6,h7,hlt,natOf_nat,hia,eS,hsz,hi0,ws]
    refine ⟨i+1,by omega,rfl,by omega,fun j hj=>?_⟩
    by_cases e:j=i
    ·subst e;intro x' hx';rw [hx] at hx';cases hx'
     exact ⟨by omega,fun h=>absurd h hi0⟩
    ·exact hok j (by omega)
 ·have hil:i=l.length:=by omega
  subst hil
  by_cases h1:1≤l.length
  ·have e:goodB l=decide (l.length≤1024):=by
    rw [Bool.eq_iff_iff,goodB_iff];simp -implicitDefEqProofs only [decide_eq_true_eq]
    exact ⟨fun h=>h.2.2,fun h=>⟨hok,h1,h⟩⟩
   simp -implicitDefEqProofs only [op,ef,cl,sq,reduceIte,q1,q2,q3,q4,q5,q6,q7,q8,q9,S1,h0,h5,h6,h7,hlt,List.length_map,h1,e]
  ·have e:goodB l=false:=goodB_no fun h=>h1 h.2.1
   simp -implicitDefEqProofs only [op,ef,cl,sq,reduceIte,q1,q2,q3,q4,q5,q6,q7,q8,q9,S1,h0,h5,h6,h7,hlt,List.length_map,h1,e]
theorem bs70 (k:SK) (l:List ByteArray) (x:ByteArray) (H:Heap) (hl:l.length<4611686018427387903) (hr:rises l=true) :
  W env (.call 171 [.sl k (l.map eS),.str x]) H (fun o H'=>∃ i:Nat,o=.val (.tup [.int .i64 i,.bool (memB l x)])∧H'=H):=by
 refine W.fnI rfl rfl rfl ?_
 simp -implicitDefEqProofs only [ir171,op,ef,cl,sq,reduceIte,q1,q2,q3,q4,q5,q6,q7,q8,q9,S1,List.length_map]
 refine W.loopI (fun (s:Nat × Nat) R H'=>H'=H∧R 0=.sl k (l.map eS)∧R 1=.str x∧R 6=.int .i64 l.length∧R 7=.int .i64 s.1∧R 8=.int .i64 s.2∧s.1≤s.2∧s.2≤l.length∧(∀ p a,p<s.1→l[p]?=some a→strLt a x=true)∧∀ p a,s.2≤p→l[p]?=some a→strLt a x=false)
  (fun s=>s.2-s.1) (0,l.length) ⟨rfl,rfl,rfl,rfl,rfl,rfl,Nat.zero_le _,Nat.le_refl _,fun p a h=>by omega,fun p a h ha=>by rw [List.getElem?_eq_none h] at ha;cases ha⟩ ?_
 rintro ⟨i,j⟩ R _ ⟨rfl,h0,h1,h6,h7,h8,hij,hjn,hlo,hhi⟩
 simp -implicitDefEqProofs only [op,ef,cl,sq,reduceIte,q1,q2,q3,q4,q5,q6,q7,q8,q9,S1,h0,h1,h6,h7,h8,List.length_map]
 by_cases hlt:i<j
 ·obtain ⟨y,hy⟩:=getP (l:=l) (i:=(i+j) / 2) (by omega)
  have hia:=iadX (e:=eS) (n:=1) (fun _=>rfl) (by decide) (k:=k) hy
  simp -implicitDefEqProofs only [hlt,op,ef,cl,sq,reduceIte,q1,q2,q3,q4,q5,q6,q7,q8,q9,S1,h0,h1,h6,h7,h8,half i j (by omega),hia,eS]
  refine callB_of _ _ _ _ _ _ _ _ (less91 y x _) ?_
  rintro v H' ⟨hv,rfl⟩
  cases hv
  simp -implicitDefEqProofs only [op,ef,cl,sq,reduceIte,q1,q2,q3,q4,q5,q6,q7,q8,q9,S1,h0,h1,h6,h7,h8]
  cases hc:strLt y x
  ·simp -implicitDefEqProofs only [op,ef,cl,sq,reduceIte,q1,q2,q3,q4,q5,q6,q7,q8,q9,S1,h0,h1,h6,h7,h8]
   refine ⟨(i,(i+j) / 2),by omega,rfl,rfl,by omega,by omega,hlo,fun p a hp ha=>?_⟩
   by_cases e:p=(i+j) / 2
   ·subst e;rw [hy] at ha;cases ha;exact hc
   ·cases hh:strLt a x with
    | false=>rfl
    | true=>rw [lt_trans' (rises_lt hr p ((i+j) / 2) y a (by omega) hy ha) hh] at hc;cases hc
  ·simp -implicitDefEqProofs only [op,ef,cl,sq,reduceIte,q1,q2,q3,q4,q5,q6,q7,q8,q9,S1,h0,h1,h6,h7,h8,wrap_succ (show (i+j) / 2<9223372036854775807 by omega)]
   refine ⟨((i+j) / 2+1,j),by omega,rfl,rfl,by omega,by omega,fun p a hp ha=>?_,hhi⟩
   by_cases e:p=(i+j) / 2
   ·subst e;rw [hy] at ha;cases ha;exact hc
   ·exact lt_trans' (rises_lt hr ((i+j) / 2) p a y (by omega) ha hy) hc
 ·have hij':i=j:=by simp only at hij;omega
  subst hij'
  by_cases hin:i<l.length
  ·obtain ⟨y,hy⟩:=getP hin
   have hia:=iadX (e:=eS) (n:=1) (fun _=>rfl) (by decide) (k:=k) hy
   by_cases hyx:y=x
   ·have:memB l x=true:=memB_iff.2 (hyx ▸ List.mem_of_getElem? hy)
    simp -implicitDefEqProofs only [op,ef,cl,sq,reduceIte,q1,q2,q3,q4,q5,q6,q7,q8,q9,S1,h0,h1,h6,h7,h8,List.length_map,hlt,hin,hia,eS,hyx,this]
    exact ⟨i,rfl⟩
   ·have:memB l x=false:=memB_no.2 fun hm=>by
     obtain ⟨p,hp,e⟩:=List.getElem_of_mem hm
     have hpx:l[p]?=some x:=by rw [List.getElem?_eq_getElem hp,e]
     rcases Nat.lt_trichotomy p i with h | h | h
     ·have:=hlo p x h hpx;rw [lt_irr] at this;cases this
     ·subst h;rw [hy] at hpx;cases hpx;exact hyx rfl
     ·have a1:=hhi i y (Nat.le_refl _) hy
      rw [rises_lt hr p i y x h hy hpx] at a1;cases a1
    simp -implicitDefEqProofs only [op,ef,cl,sq,reduceIte,q1,q2,q3,q4,q5,q6,q7,q8,q9,S1,h0,h1,h6,h7,h8,List.length_map,hlt,hin,hia,eS,hyx]
    refine callB_of _ _ _ _ _ _ _ _ (nan94 y _) ?_
    rintro v H' ⟨hv,rfl⟩
    cases hv
    simp -implicitDefEqProofs only [op,ef,cl,sq,reduceIte,q1,q2,q3,q4,q5,q6,q7,q8,q9,S1,this]
    exact ⟨i,rfl⟩
  ·have:memB l x=false:=memB_no.2 fun hm=>by
    obtain ⟨p,hp,e⟩:=List.getElem_of_mem hm
    have hpx:l[p]?=some x:=by rw [List.getElem?_eq_getElem hp,e]
    have:=hlo p x (by omega) hpx;rw [lt_irr] at this;cases this
   simp -implicitDefEqProofs only [op,ef,cl,sq,reduceIte,q1,q2,q3,q4,q5,q6,q7,q8,q9,S1,h0,h1,h6,h7,h8,List.length_map,hlt,hin,this]
   exact ⟨i,rfl⟩
theorem has58 (k:SK) (l:List ByteArray) (x:ByteArray) (H:Heap) (hl:l.length<4611686018427387903) (hr:rises l=true):W env (.call 134 [.sl k (l.map eS),.str x]) H (Ret (.bool (memB l x)) H):=by
 refine W.fnI rfl rfl rfl ?_
 simp -implicitDefEqProofs only [ir134,op,ef,cl,sq,reduceIte,q1,q2,q3,q4,q5,q6,q7,q8,q9,S1]
 refine callB_of _ _ _ _ _ _ _ _ (bs70 k l x _ hl hr) ?_
 rintro v H' ⟨i,hv,rfl⟩
 cases hv
 simp -implicitDefEqProofs only [op,ef,cl,sq,reduceIte,q1,q2,q3,q4,q5,q6,q7,q8,q9,S1]
def eP (p:ByteArray × ByteArray):List T:=[.str p.1,.str p.2]
def OkPair (l:List (ByteArray × ByteArray)) (ks:List ByteArray) (i:Nat):Prop:=∀ p,l[i]?=some p→(0<i→∀ q,l[i-1]?=some q→strLt q.1 p.1=true)∧p.1∈ks∧p.2.size≤65535
def MayP (n:Nat) (l:List (ByteArray × ByteArray)) (ks:List ByteArray):Prop:=65536≤n∧GoodKeys ks∧1≤l.length∧∀ i,i<l.length→OkPair l ks i
theorem may43 (n:Nat) (k k':SK) (l:List (ByteArray × ByteArray)) (ks:List ByteArray) (H:Heap) (hl:l.length<9223372036854775807) (hks:ks.length<4611686018427387903) :
  W env (.call 93 [.int .u64 n,.sl k (l.map eP),.sl k' (ks.map eS)]) H (fun o H'=>Ext H H'∧∃ b,o=.val (.bool b)∧(b=true↔MayP n l ks)):=by
 refine W.fnI rfl rfl rfl ?_
 have no:¬ MayP n l ks→((false:Bool)=true↔MayP n l ks):=fun h=>⟨fun e=>(by cases e),fun e=>absurd e h⟩
 by_cases hn:n<65536
 ·simp -implicitDefEqProofs only [ir93,op,ef,cl,sq,reduceIte,q1,q2,q3,q4,q5,q6,q7,q8,q9,S1,hn]
  exact ⟨Ext.rfl',false,rfl,no fun h=>by have:=h.1;omega⟩
 simp -implicitDefEqProofs only [ir93,op,ef,cl,sq,reduceIte,q1,q2,q3,q4,q5,q6,q7,q8,q9,S1,hn]
 refine callB_of _ _ _ _ _ _ _ _ (rising57 k' ks _ (by omega)) ?_
 rintro u H1 ⟨hu,rfl⟩
 cases hu
 cases hg:goodB ks
 ·simp -implicitDefEqProofs only [op,ef,cl,sq,reduceIte,q1,q2,q3,q4,q5,q6,q7,q8,q9,S1]
  exact ⟨Ext.rfl',false,rfl,no fun h=>by have:=goodB_iff.2 h.2.1;rw [hg] at this;cases this⟩
 have hgk:=goodB_iff.1 hg
 by_cases hl1:l.length<1
 ·simp -implicitDefEqProofs only [op,ef,cl,sq,reduceIte,q1,q2,q3,q4,q5,q6,q7,q8,q9,S1,List.length_map,hl1]
  exact ⟨Ext.rfl',false,rfl,no fun h=>by have:=h.2.2.1;omega⟩
 simp -implicitDefEqProofs only [op,ef,cl,sq,reduceIte,q1,q2,q3,q4,q5,q6,q7,q8,q9,S1,List.length_map,hl1]
 refine W.loopI (fun (i:Nat) R H'=>At H' (fun H'=>Ext H1 H')∧R 0=.int .u64 n∧R 1=.sl k (l.map eP)∧R 2=.sl k' (ks.map eS)∧R 21=.sl k (l.map eP)∧R 22=.int .i64 l.length∧R 23=.int .i64 i∧i≤l.length∧∀ j,j<i→OkPair l ks j) (fun i=>l.length-i) 0 ⟨.i Ext.rfl',rfl,rfl,rfl,rfl,rfl,rfl,Nat.zero_le _,fun j h=>by omega⟩ ?_
 rintro i R H2 ⟨hx,h0,h1,h2,h21,h22,h23,hi,hok⟩
 have hx:Ext H1 H2:=hx
 by_cases hlt:i<l.length
 ·obtain ⟨p,hp⟩:=getP hlt
  have ws:=wrap_succ (show i<9223372036854775807 by omega)
  have hia:=iadX (e:=eP) (n:=2) (fun _=>rfl) (by decide) (k:=k) hp
  have bad:¬ OkPair l ks i→((false:Bool)=true↔MayP n l ks):=fun hb=>no fun h=>hb (h.2.2.2 i hlt)
  have hxx:∀ y:B,Ext H1 (H2++[y]):=fun y=>hx.app _
  have key:(0<i→∀ q,l[i-1]?=some q→strLt q.1 p.1=true)→∀ c:Bool,c=memB ks p.1→(c=false∨65535<p.2.size→¬ OkPair l ks i)∧(c=true→¬ 65535<p.2.size→∀ j,j<i+1→OkPair l ks j):=by
   rintro hs c rfl
   refine ⟨fun h ho=>?_,fun hc hsz j hj=>?_⟩
   ·have:=(ho p hp).2
    rcases h with h | h
    ·exact memB_no.1 h this.1
    ·omega
   ·by_cases e:j=i
    ·subst e;intro p' hp';rw [hp] at hp';cases hp'
     exact ⟨hs,memB_iff.1 hc,by omega⟩
    ·exact hok j (by omega)
  by_cases hi0:0<i
  ·obtain ⟨q,hq⟩:=getP (l:=l) (i:=i-1) (by omega)
   have wp:=wrap_pred (show i<9223372036854775807 by omega) hi0
   have hiq:=iadX (e:=eP) (n:=2) (fun _=>rfl) (by decide) (k:=k) hq
   cases hc:strLt q.1 p.1
   ·simp -implicitDefEqProofs only [op,ef,cl,sq,reduceIte,q1,q2,q3,q4,q5,q6,q7,q8,q9,S1,S2,S3,h0,h1,h2,h21,h22,h23,hlt,natOf_nat,hia,hiq,eP,hi0,wp,hc]
    exact ⟨(hx.app _),false,rfl,bad fun h=>by have:=(h p hp).1 hi0 q hq;rw [hc] at this;cases this⟩
   ·have hk:=key (fun _ q' hq'=>by rw [hq] at hq';cases hq';exact hc) (memB ks p.1) rfl
    simp -implicitDefEqProofs only [op,ef,cl,sq,reduceIte,q1,q2,q3,q4,q5,q6,q7,q8,q9,S1,S2,S3,h0,h1,h2,h21,h22,h23,hlt,natOf_nat,hia,hiq,eP,hi0,wp,hc]
    refine callB_of _ _ _ _ _ _ _ _ (has58 k' ks p.1 _ (by omega) hgk.rises) ?_
    rintro u H3 ⟨hu,rfl⟩
    cases hu
    cases hm:memB ks p.1
    ·simp -implicitDefEqProofs only [op,ef,cl,sq,reduceIte,q1,q2,q3,q4,q5,q6,q7,q8,q9,S1]
     exact ⟨(hx.app _),false,rfl,bad (hk.1 (.inl hm))⟩
    ·by_cases hsz:65535<p.2.size
     ·simp -implicitDefEqProofs only [op,ef,cl,sq,reduceIte,q1,q2,q3,q4,q5,q6,q7,q8,q9,S1,S2,S3,hsz]
      exact ⟨(hx.app _),false,rfl,bad (hk.1 (.inr hsz))⟩
     ·simp -implicitDefEqProofs only [op,ef,cl,sq,reduceIte,q1,q2,q3,q4,q5,q6,q7,q8,q9,S1,S2,S3,hsz,h0,h1,h2,h21,h22,h23,ws]
      exact ⟨i+1,by omega,.i (hx.app _),rfl,by omega,hk.2 hm hsz⟩
  ·have hk:=key (fun h=>absurd h hi0) (memB ks p.1) rfl
   simp -implicitDefEqProofs only [op,ef,cl,sq,reduceIte,q1,q2,q3,q4,q5,q6,q7,q8,q9,S1,S2,S3,h0,h1,h2,h21,h22,h23,hlt,natOf_nat,hia,eP,hi0]
   refine callB_of _ _ _ _ _ _ _ _ (has58 k' ks p.1 _ (by omega) hgk.rises) ?_
   rintro u H3 ⟨hu,rfl⟩
   cases hu
   cases hm:memB ks p.1
   ·simp -implicitDefEqProofs only [op,ef,cl,sq,reduceIte,q1,q2,q3,q4,q5,q6,q7,q8,q9,S1]
    exact ⟨(hx.app _),false,rfl,bad (hk.1 (.inl hm))⟩
   ·by_cases hsz:65535<p.2.size
    ·simp -implicitDefEqProofs only [op,ef,cl,sq,reduceIte,q1,q2,q3,q4,q5,q6,q7,q8,q9,S1,S2,S3,hsz]
     exact ⟨(hx.app _),false,rfl,bad (hk.1 (.inr hsz))⟩
    ·simp -implicitDefEqProofs only [op,ef,cl,sq,reduceIte,q1,q2,q3,q4,q5,q6,q7,q8,q9,S1,S2,S3,hsz,h0,h1,h2,h21,h22,h23,ws]
     exact ⟨i+1,by omega,.i (hx.app _),rfl,by omega,hk.2 hm hsz⟩
 ·have hil:i=l.length:=by omega
  subst hil
  simp -implicitDefEqProofs only [op,ef,cl,sq,reduceIte,q1,q2,q3,q4,q5,q6,q7,q8,q9,S1,h0,h1,h2,h21,h22,h23,hlt]
  exact ⟨hx,true,rfl,⟨fun _=>⟨by omega,hgk,by omega,hok⟩,fun _=>rfl⟩⟩
theorem er_map (l:List ByteArray):(l.map eS).map (·.map T.erase)=l.map eS:=by simp [List.map_map,Function.comp_def,eS,T.erase]
theorem clone42 (k:SK) (l:List ByteArray) (H:Heap) (hk:KOk k l) (hl:l.length≤16777216):W env (.call 82 [.sl k (l.map eS)]) H (fun o H'=>Ext H H'∧∃ k',KOk k' l∧o=.val (.sl k' (l.map eS))):=by
 refine W.fnI rfl rfl rfl ?_
 have app:l≠[]→∃ k' H',appT H 16 .full [] (l.map eS)=some (.sl k' (l.map eS),H')∧Ext H H'∧k'≠.nil:=fun hne=>by
  obtain ⟨k',H',ha,hap,hst⟩:=app_ok (n0:=H.length) (H:=H) (bytes:=16) (k:=.full) [] (l.map eS) (.inr (.inl rfl)) (Nat.le_refl _) (by simpa using hne) (roomS (by simp;omega) (by omega))
  rw [List.nil_append,er_map] at ha
  refine ⟨k',H',ha,hst.ext H (Nat.le_refl _) Ext.rfl',fun h=>?_⟩
  subst h
  unfold appT at ha
  cases hl:l.map eS with
  | nil=>simp at hl;exact hne hl
  | cons c cs=>rw [hl] at ha;simp only at ha;split at ha <;> simp at ha
 cases k with
 | nil =>
  have:=hk rfl;subst this
  simp -implicitDefEqProofs only [ir82,op,ef,cl,sq,reduceIte,q1,q2,q3,q4,q5,q6,q7,q8,q9,S1,eqRef,nilOf]
  exact ⟨Ext.rfl',.nil,fun _=>rfl,rfl⟩
 | arg =>
  cases l with
  | nil =>
   simp -implicitDefEqProofs only [ir82,op,ef,cl,sq,reduceIte,q1,q2,q3,q4,q5,q6,q7,q8,q9,S1,eqRef,nilOf,Option.map_none]
   refine fun t=>?_
   cases t
   ·simp -implicitDefEqProofs only [op,ef,cl,sq,reduceIte,q1,q2,q3,q4,q5,q6,q7,q8,q9,S1,appT]
    exact ⟨Ext.rfl',.full,fun h=>rfl,rfl⟩
   ·simp -implicitDefEqProofs only [op,ef,cl,sq,reduceIte,q1,q2,q3,q4,q5,q6,q7,q8,q9,S1]
    exact ⟨Ext.rfl',.nil,fun _=>rfl,rfl⟩
  | cons a l =>
   obtain ⟨k',H',ha,hx,hk'⟩:=app (by simp)
   have h1:=all_map (enc:=eS) (n:=1) (fun _=>rfl) (a :: l)
   simp -implicitDefEqProofs only [List.map_cons] at ha h1
   simp -implicitDefEqProofs only [ir82,op,ef,cl,sq,reduceIte,q1,q2,q3,q4,q5,q6,q7,q8,q9,S1,eqRef,nilOf,ha,h1]
   exact ⟨hx,k',fun h=>absurd h hk',rfl⟩
 | full =>
  cases l with
  | nil =>
   simp -implicitDefEqProofs only [ir82,op,ef,cl,sq,reduceIte,q1,q2,q3,q4,q5,q6,q7,q8,q9,S1,eqRef,nilOf,appT]
   exact ⟨Ext.rfl',.full,fun h=>rfl,rfl⟩
  | cons a l =>
   obtain ⟨k',H',ha,hx,hk'⟩:=app (by simp)
   have h1:=all_map (enc:=eS) (n:=1) (fun _=>rfl) (a :: l)
   simp -implicitDefEqProofs only [List.map_cons] at ha h1
   simp -implicitDefEqProofs only [ir82,op,ef,cl,sq,reduceIte,q1,q2,q3,q4,q5,q6,q7,q8,q9,S1,eqRef,nilOf,ha,h1]
   exact ⟨hx,k',fun h=>absurd h hk',rfl⟩
 | own t e =>
  cases l with
  | nil =>
   simp -implicitDefEqProofs only [ir82,op,ef,cl,sq,reduceIte,q1,q2,q3,q4,q5,q6,q7,q8,q9,S1,eqRef,nilOf,appT]
   exact ⟨Ext.rfl',.full,fun h=>rfl,rfl⟩
  | cons a l =>
   obtain ⟨k',H',ha,hx,hk'⟩:=app (by simp)
   have h1:=all_map (enc:=eS) (n:=1) (fun _=>rfl) (a :: l)
   simp -implicitDefEqProofs only [List.map_cons] at ha h1
   simp -implicitDefEqProofs only [ir82,op,ef,cl,sq,reduceIte,q1,q2,q3,q4,q5,q6,q7,q8,q9,S1,eqRef,nilOf,ha,h1]
   exact ⟨hx,k',fun h=>absurd h hk',rfl⟩
def Frm (F:Nat→Prop) (H H':Heap):Prop:=H.length≤H'.length∧∀ c,c<H.length→¬ F c→H'[c]?=H[c]?
theorem Frm.refl (F:Nat→Prop) (H:Heap):Frm F H H:=⟨Nat.le_refl _,fun _ _ _=>rfl⟩
theorem Frm.trans {F G:Nat→Prop} {H H' H'':Heap} (h:Frm F H H') (h':Frm G H' H'') (hg:∀ c,G c→F c∨H.length≤c):Frm F H H'' :=
 ⟨Nat.le_trans h.1 h'.1,fun c hc hf=>by rw [h'.2 c (Nat.lt_of_lt_of_le hc h.1) (fun hgc=>(hg c hgc).elim hf (fun h=>by omega)),h.2 c hc hf]⟩
theorem ext_frm {F:Nat→Prop} {H H':Heap} (h:Ext H H'):Frm F H H':=⟨h.len,fun c hc _=>by
 obtain ⟨m,rfl⟩:=h;rw [List.getElem?_append_left hc]⟩
theorem Frm.set {F:Nat→Prop} {H H':Heap} (h:Frm F H H') {b:Nat} (hb:F b∨H.length≤b) (y:B):Frm F H (H'.set b y) :=
 ⟨by rw [List.length_set];exact h.1,fun c hc hf=>by
  have:b≠c:=by rintro rfl;rcases hb with hb | hb;exact hf hb;omega
  rw [g_ne this,h.2 c hc hf]⟩
theorem Frm.app {F:Nat→Prop} {H H':Heap} (h:Frm F H H') (l:Heap):Frm F H (H'++l):=⟨by rw [List.length_append];have:=h.1;omega,fun c hc hf=>by
 rw [List.getElem?_append_left (Nat.lt_of_lt_of_le hc h.1),h.2 c hc hf]⟩
theorem Frm.get {F:Nat→Prop} {H H':Heap} (h:Frm F H H') {c:Nat} {x:B} (hx:H[c]?=some x) (hf:¬ F c):H'[c]?=some x:=by rw [h.2 c (glt hx) hf];exact hx
theorem Frm.mono {F G:Nat→Prop} {H H':Heap} (h:Frm F H H') (hg:∀ c,F c→G c):Frm G H H':=⟨h.1,fun c hc hf=>h.2 c hc fun hh=>hf (hg c hh)⟩
theorem mut_at {α:Type} {enc:α→List T} (hn:∀ x,(enc x).length=1) {n0:Nat} {H:Heap} {t:T} {l:List α} (hm:Mut enc 1 n0 H t l) {i:Nat} {x:α} (hx:l[i]?=some x):∃ b,H[b]?=some (.cells (msC enc l))∧iadT 1 i t=some (.ptr b (i*1))∧ldcB 1 (i*1) (some (.cells (msC enc l)))=some (enc x):=by
 have hi:=(List.getElem?_eq_some_iff.1 hx).1
 rcases hm with ⟨rfl,_⟩ | ⟨b,rfl,hb,_⟩
 ·simp at hi
 ·refine ⟨b,hb,by rw [iad_m];simp [hi],?_⟩
  have:=msC_get hn hx 0 1 (by decide)
  simp -implicitDefEqProofs only [Nat.add_zero,List.drop_zero] at this
  rw [this,List.take_of_length_le (by rw [hn];omega)]
def RiseN (l:List Nat):Prop:=∀ (i j a b:Nat),i<j→l[i]?=some a→l[j]?=some b→a<b
theorem bs59 (n0:Nat) (t:T) (l:List Nat) (x:Nat) (H:Heap) (hm:Mut eU 1 n0 H t l) (hl:l.length<4611686018427387903) (hr:RiseN l) :
  W env (.call 135 [t,.int .u64 x]) H (fun o H'=>∃ (i:Nat) (fd:Bool),o=.val (.tup [.int .i64 i,.bool fd])∧H'=H∧i≤l.length∧(∀ p a,p<i→l[p]?=some a→a<x)∧∀ p a,i≤p→l[p]?=some a→x≤a):=by
 refine W.fnI rfl rfl rfl ?_
 have hlen:=hm.len
 simp -implicitDefEqProofs only [ir135,op,ef,cl,sq,reduceIte,q1,q2,q3,q4,q5,q6,q7,q8,q9,S1,hlen]
 refine W.loopI (fun (s:Nat × Nat) R H'=>H'=H∧R 0=t∧R 1=.int .u64 x∧R 6=.int .i64 l.length∧R 7=.int .i64 s.1∧R 8=.int .i64 s.2∧s.1≤s.2∧s.2≤l.length∧(∀ p a,p<s.1→l[p]?=some a→a<x)∧∀ p a,s.2≤p→l[p]?=some a→x≤a)
  (fun s=>s.2-s.1) (0,l.length) ⟨rfl,rfl,rfl,rfl,rfl,rfl,Nat.zero_le _,Nat.le_refl _,fun p a h=>by omega,fun p a h ha=>by rw [List.getElem?_eq_none h] at ha;cases ha⟩ ?_
 rintro ⟨i,j⟩ R _ ⟨rfl,h0,h1,h6,h7,h8,hij,hjn,hlo,hhi⟩
 simp -implicitDefEqProofs only [op,ef,cl,sq,reduceIte,q1,q2,q3,q4,q5,q6,q7,q8,q9,S1,h0,h1,h6,h7,h8]
 by_cases hlt:i<j
 ·obtain ⟨y,hy⟩:=getP (l:=l) (i:=(i+j) / 2) (by omega)
  obtain ⟨b,g1,g2,g3⟩:=mut_at (enc:=eU) (fun _=>rfl) hm hy
  simp -implicitDefEqProofs only [hlt,op,ef,cl,sq,reduceIte,q1,q2,q3,q4,q5,q6,q7,q8,q9,S1,h0,h1,h6,h7,h8,half i j (by omega),natOf_nat,g1,g2,g3,eU]
  refine callB_of _ _ _ _ _ _ _ _ (less71 y x _) ?_
  rintro v H' ⟨hv,rfl⟩
  cases hv
  simp -implicitDefEqProofs only [op,ef,cl,sq,reduceIte,q1,q2,q3,q4,q5,q6,q7,q8,q9,S1,h0,h1,h6,h7,h8]
  by_cases hc:y<x
  ·simp -implicitDefEqProofs only [op,ef,cl,sq,reduceIte,q1,q2,q3,q4,q5,q6,q7,q8,q9,S1,h0,h1,h6,h7,h8,hc,wrap_succ (show (i+j) / 2<9223372036854775807 by omega)]
   refine ⟨((i+j) / 2+1,j),by omega,rfl,rfl,by omega,by omega,fun p a hp ha=>?_,hhi⟩
   by_cases e:p=(i+j) / 2
   ·subst e;rw [hy] at ha;cases ha;exact hc
   ·have:=hr p ((i+j) / 2) a y (by omega) ha hy;omega
  ·simp -implicitDefEqProofs only [op,ef,cl,sq,reduceIte,q1,q2,q3,q4,q5,q6,q7,q8,q9,S1,h0,h1,h6,h7,h8,hc]
   refine ⟨(i,(i+j) / 2),by omega,rfl,rfl,by omega,by omega,hlo,fun p a hp ha=>?_⟩
   by_cases e:p=(i+j) / 2
   ·subst e;rw [hy] at ha;cases ha;omega
   ·have:=hr ((i+j) / 2) p y a (by omega) hy ha;omega
 ·have hij':i=j:=by simp only at hij;omega
  subst hij'
  by_cases hin:i<l.length
  ·obtain ⟨y,hy⟩:=getP hin
   obtain ⟨b,g1,g2,g3⟩:=mut_at (enc:=eU) (fun _=>rfl) hm hy
   by_cases hyx:y=x
   ·simp -implicitDefEqProofs only [op,ef,cl,sq,reduceIte,q1,q2,q3,q4,q5,q6,q7,q8,q9,S1,h0,h1,h6,h7,h8,hlt,hin,natOf_nat,g1,g2,g3,eU,hyx]
    exact ⟨i,true,rfl,hjn,hlo,hhi⟩
   ·simp -implicitDefEqProofs only [op,ef,cl,sq,reduceIte,q1,q2,q3,q4,q5,q6,q7,q8,q9,S1,h0,h1,h6,h7,h8,hlt,hin,natOf_nat,g1,g2,g3,eU,hyx]
    refine callB_of _ _ _ _ _ _ _ _ (nan72 y _) ?_
    rintro v H' ⟨hv,rfl⟩
    cases hv
    simp -implicitDefEqProofs only [op,ef,cl,sq,reduceIte,q1,q2,q3,q4,q5,q6,q7,q8,q9,S1]
    exact ⟨i,false,rfl,hjn,hlo,hhi⟩
  ·simp -implicitDefEqProofs only [op,ef,cl,sq,reduceIte,q1,q2,q3,q4,q5,q6,q7,q8,q9,S1,h0,h1,h6,h7,h8,hlt,hin]
   exact ⟨i,false,rfl,hjn,hlo,hhi⟩
theorem is45 (y x:Nat) (c:Nat) (H:Heap) (hc:H[c]?=some (.cells (eU x))):W env (.call 161 [(.int .u64 y),.ptr c 0]) H (Ret (.bool (decide (y=x))) H):=by
 refine W.fnI rfl rfl rfl ?_
 simp -implicitDefEqProofs only [ir161,op,ef,cl,sq,reduceIte,q1,q2,q3,q4,q5,q6,q7,q8,q9,S1,hc,eU]
theorem is47 (y x:ByteArray) (c:Nat) (H:Heap) (hc:H[c]?=some (.cells (eS x))):W env (.call 163 [(.str y),.ptr c 0]) H (Ret (.bool (decide (y=x))) H):=by
 refine W.fnI rfl rfl rfl ?_
 simp -implicitDefEqProofs only [ir163,op,ef,cl,sq,reduceIte,q1,q2,q3,q4,q5,q6,q7,q8,q9,S1,hc,eS]
theorem idx61 (n0:Nat) (t:T) (l:List Nat) (x:Nat) (c:Nat) (H:Heap) (hc:H[c]?=some (.cells (eU x))) (hm:Mut eU 1 n0 H t l) (hl:l.length<4611686018427387903) :
  W env (.call 184 [t,.fn 161 [.ptr c 0]]) H (fun o H'=>H'=H∧((x∉l∧o=.val (.int .i64 (-1)))∨∃ i:Nat,o=.val (.int .i64 i)∧l[i]?=some x∧∀ p a,p<i→l[p]?=some a→a≠x)):=by
 refine W.fnI rfl rfl rfl ?_
 have hlen:=hm.len
 simp -implicitDefEqProofs only [ir184,op,ef,cl,sq,reduceIte,q1,q2,q3,q4,q5,q6,q7,q8,q9,S1,hlen]
 refine W.loopI (fun (i:Nat) R H'=>H'=H∧R 0=t∧R 1=.fn 161 [.ptr c 0]∧R 7=.int .i64 l.length∧R 8=.int .i64 i∧i≤l.length∧∀ p a,p<i→l[p]?=some a→a≠x) (fun i=>l.length-i) 0 ⟨rfl,rfl,rfl,rfl,rfl,Nat.zero_le _,fun p a h=>by omega⟩ ?_
 rintro i R _ ⟨rfl,h0,h1,h7,h8,hi,hno⟩
 by_cases hlt:i<l.length
 ·obtain ⟨y,hy⟩:=getP hlt
  obtain ⟨b,g1,g2,g3⟩:=mut_at (enc:=eU) (fun _=>rfl) hm hy
  have ws:=wrap_succ (show i<9223372036854775807 by omega)
  simp -implicitDefEqProofs only [op,ef,cl,sq,reduceIte,q1,q2,q3,q4,q5,q6,q7,q8,q9,S1,h0,h1,h7,h8,hlt,natOf_nat,g1,g2,g3,eU]
  refine b_v _ _ _ _ _ _ _ ?_
  simp -implicitDefEqProofs only [op,ef,cl,sq,reduceIte,q1,q2,q3,q4,q5,q6,q7,q8,q9,S1,h1,callvB]
  refine callB_of _ _ _ _ _ _ _ _ (is45 y x c _ hc) ?_
  rintro v H' ⟨hv,rfl⟩
  cases hv
  by_cases e:y=x
  ·simp -implicitDefEqProofs only [op,ef,cl,sq,reduceIte,q1,q2,q3,q4,q5,q6,q7,q8,q9,S1,e]
   exact .inr ⟨i,rfl,by rw [hy,e],hno⟩
  ·simp -implicitDefEqProofs only [op,ef,cl,sq,reduceIte,q1,q2,q3,q4,q5,q6,q7,q8,q9,S1,h0,h1,h7,h8,e,ws]
   refine ⟨i+1,by omega,rfl,by omega,fun p a hp ha=>?_⟩
   by_cases e':p=i
   ·subst e';rw [hy] at ha;cases ha;exact e
   ·exact hno p a (by omega) ha
 ·simp -implicitDefEqProofs only [op,ef,cl,sq,reduceIte,q1,q2,q3,q4,q5,q6,q7,q8,q9,S1,h0,h1,h7,h8,hlt]
  refine .inl fun hm=>?_
  obtain ⟨p,hp,e⟩:=List.getElem_of_mem hm
  exact hno p x (by omega) (by rw [List.getElem?_eq_getElem hp,e]) rfl
theorem idx62 (n0:Nat) (t:T) (l:List ByteArray) (x:ByteArray) (c:Nat) (H:Heap) (hc:H[c]?=some (.cells (eS x))) (hm:Mut eS 1 n0 H t l) (hl:l.length<4611686018427387903) :
  W env (.call 185 [t,.fn 163 [.ptr c 0]]) H (fun o H'=>H'=H∧((x∉l∧o=.val (.int .i64 (-1)))∨∃ i:Nat,o=.val (.int .i64 i)∧l[i]?=some x∧∀ p a,p<i→l[p]?=some a→a≠x)):=by
 refine W.fnI rfl rfl rfl ?_
 have hlen:=hm.len
 simp -implicitDefEqProofs only [ir185,op,ef,cl,sq,reduceIte,q1,q2,q3,q4,q5,q6,q7,q8,q9,S1,hlen]
 refine W.loopI (fun (i:Nat) R H'=>H'=H∧R 0=t∧R 1=.fn 163 [.ptr c 0]∧R 7=.int .i64 l.length∧R 8=.int .i64 i∧i≤l.length∧∀ p a,p<i→l[p]?=some a→a≠x) (fun i=>l.length-i) 0 ⟨rfl,rfl,rfl,rfl,rfl,Nat.zero_le _,fun p a h=>by omega⟩ ?_
 rintro i R _ ⟨rfl,h0,h1,h7,h8,hi,hno⟩
 by_cases hlt:i<l.length
 ·obtain ⟨y,hy⟩:=getP hlt
  obtain ⟨b,g1,g2,g3⟩:=mut_at (enc:=eS) (fun _=>rfl) hm hy
  have ws:=wrap_succ (show i<9223372036854775807 by omega)
  simp -implicitDefEqProofs only [op,ef,cl,sq,reduceIte,q1,q2,q3,q4,q5,q6,q7,q8,q9,S1,h0,h1,h7,h8,hlt,natOf_nat,g1,g2,g3,eS]
  refine b_v _ _ _ _ _ _ _ ?_
  simp -implicitDefEqProofs only [op,ef,cl,sq,reduceIte,q1,q2,q3,q4,q5,q6,q7,q8,q9,S1,h1,callvB]
  refine callB_of _ _ _ _ _ _ _ _ (is47 y x c _ hc) ?_
  rintro v H' ⟨hv,rfl⟩
  cases hv
  by_cases e:y=x
  ·simp -implicitDefEqProofs only [op,ef,cl,sq,reduceIte,q1,q2,q3,q4,q5,q6,q7,q8,q9,S1,e]
   exact .inr ⟨i,rfl,by rw [hy,e],hno⟩
  ·simp -implicitDefEqProofs only [op,ef,cl,sq,reduceIte,q1,q2,q3,q4,q5,q6,q7,q8,q9,S1,h0,h1,h7,h8,e,ws]
   refine ⟨i+1,by omega,rfl,by omega,fun p a hp ha=>?_⟩
   by_cases e':p=i
   ·subst e';rw [hy] at ha;cases ha;exact e
   ·exact hno p a (by omega) ha
 ·simp -implicitDefEqProofs only [op,ef,cl,sq,reduceIte,q1,q2,q3,q4,q5,q6,q7,q8,q9,S1,h0,h1,h7,h8,hlt]
  refine .inl fun hm=>?_
  obtain ⟨p,hp,e⟩:=List.getElem_of_mem hm
  exact hno p x (by omega) (by rw [List.getElem?_eq_getElem hp,e]) rfl
end Go.Proofs.YtmgldhlcapjdkaaGreat.St
end
