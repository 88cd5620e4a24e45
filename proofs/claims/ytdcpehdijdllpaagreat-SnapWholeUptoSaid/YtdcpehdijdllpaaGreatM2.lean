/- Part of a proof of a law of this seat: the machine of plain values, its simulation, and the contracts of the functions that the law reaches. Conditions: none beyond the given row. -/
import Derived.Test.YtdcpehdijdllpaaGreatM1
import Derived.Test.YtdcpehdijdllpaaGreatProg
import Derived.KernelRfl
open Int renaming reduceLT → q4, reduceLE → q5, reduceBEq → q6, reduceBNe → q7, reduceEq → q8
open Nat renaming reduceAdd → q9, reduceLeDiff → j1, reduceLT → j2, reduceEqDiff → j3
set_option linter.unusedSimpArgs false
set_option linter.unusedVariables false
set_option linter.unnecessarySimpa false
set_option maxHeartbeats 4000000
section
namespace Go.Rmp
set_option maxRecDepth 10000
abbrev o1 (d:Nat)(b:Bo):O:=⟨some d,.b b,none,[]⟩
def ud (n bytes:Nat)(z:List T)(fr:Nat):Fn:=⟨95,3,[.t 6],
 C.seq (.ops [o1 6 (.ay (.c (.sl .nil [])))]) <|
 C.seq (.ops [o1 10 (.ay (.r 0)),o1 11 (.ay (.r 1)),o1 12 (.fX n (.r 10) (some (.r 11)) none none)]) <|
 C.seq (.ops [o1 13 (.ay (.r 2)),o1 14 (.len .sl (.r 13)),o1 7 (.ay (.r 14))]) <|
 C.seq (C.seq (.ops [o1 15 (.ay (.r 7)),o1 16 (.bin .eql (.r 15) (.c (.int .i64 0)))]) <|
 .cond (.r 16)
  (C.seq (.ops [o1 17 (.ay (.r 0)),o1 6 (.ay (.r 17))]) <|
  .ret)
  (.skip)) <|
 C.seq (.ops [o1 18 (.ay (.r 0)),o1 19 (.len .sl (.r 18)),o1 8 (.ay (.r 19))]) <|
 C.seq (C.seq (.ops [o1 20 (.ay (.r 1)),o1 21 (.ay (.r 8)),o1 22 (.bin .eql (.r 20) (.r 21))]) <|
 .cond (.r 22)
  (C.seq (.ops [o1 23 (.ay (.r 0)),o1 24 (.ay (.r 2)),o1 25 (.app n bytes true (.r 23) (.r 24)),o1 6 (.ay (.r 25))]) <|
  .ret)
  (.skip)) <|
 C.seq (C.seq (.ops [o1 26 (.ay (.r 8)),o1 27 (.ay (.r 7)),o1 28 (.bin .add (.r 26) (.r 27)),o1 29 (.ay (.r 0)),o1 30 (.cap (.r 29)),o1 31 (.bin .gtr (.r 28) (.r 30))]) <|
 .cond (.r 31)
  (C.seq (.ops [o1 32 (.ay (.r 0)),o1 33 (.ay (.r 1)),o1 34 (.fX n (.r 32) none (some (.r 33)) none),o1 35 (.ay (.r 8)),o1 36 (.ay (.r 7)),o1 37 (.bin .add (.r 35) (.r 36)),o1 38 (.ay (.r 1)),o1 39 (.bin .sub (.r 37) (.r 38)),o1 40 (.QW n bytes z (.r 34) (.r 39)),o1 9 (.ay (.r 40))]) <|
  C.seq (.ops [o1 41 (.ay (.r 9)),o1 42 (.ay (.r 1)),o1 43 (.fX n (.r 41) (some (.r 42)) none none),o1 44 (.ay (.r 2)),o1 45 (.Bg n (.r 43) (.r 44))]) <|
  C.seq (.ops [o1 46 (.ay (.r 9)),o1 47 (.ay (.r 1)),o1 48 (.ay (.r 7)),o1 49 (.bin .add (.r 47) (.r 48)),o1 50 (.fX n (.r 46) (some (.r 49)) none none),o1 51 (.ay (.r 0)),o1 52 (.ay (.r 1)),o1 53 (.fX n (.r 51) (some (.r 52)) none none),o1 54 (.Bg n (.r 50) (.r 53))]) <|
  C.seq (.ops [o1 55 (.ay (.r 9)),o1 6 (.ay (.r 55))]) <|
  .ret)
  (.skip)) <|
 C.seq (.ops [o1 56 (.ay (.r 0)),o1 57 (.ay (.r 8)),o1 58 (.ay (.r 7)),o1 59 (.bin .add (.r 57) (.r 58)),o1 60 (.fX n (.r 56) none (some (.r 59)) none),o1 0 (.ay (.r 60))]) <|
 C.seq (C.seq (.ops [o1 61 (.ay (.r 2)),o1 62 (.ay (.r 0)),o1 63 (.ay (.r 1)),o1 64 (.ay (.r 7)),o1 65 (.bin .add (.r 63) (.r 64)),o1 66 (.fX n (.r 62) (some (.r 65)) none none),o1 67 (.Qe n (.r 61) (.r 66)),o1 68 (.un .not (.r 67))]) <|
 .cond (.r 68)
  (C.seq (.ops [o1 69 (.ay (.r 0)),o1 70 (.ay (.r 1)),o1 71 (.ay (.r 7)),o1 72 (.bin .add (.r 70) (.r 71)),o1 73 (.fX n (.r 69) (some (.r 72)) none none),o1 74 (.ay (.r 0)),o1 75 (.ay (.r 1)),o1 76 (.fX n (.r 74) (some (.r 75)) none none),o1 77 (.Bg n (.r 73) (.r 76))]) <|
  C.seq (.ops [o1 78 (.ay (.r 0)),o1 79 (.ay (.r 1)),o1 80 (.fX n (.r 78) (some (.r 79)) none none),o1 81 (.ay (.r 2)),o1 82 (.Bg n (.r 80) (.r 81))]) <|
  C.seq (.ops [o1 83 (.ay (.r 0)),o1 6 (.ay (.r 83))]) <|
  .ret)
  (.skip)) <|
 C.seq (.ops [o1 84 (.ay (.r 0)),o1 85 (.ay (.r 8)),o1 86 (.fX n (.r 84) (some (.r 85)) none none),o1 87 (.ay (.r 2)),o1 88 (.Bg n (.r 86) (.r 87))]) <|
 C.seq (.ops [o1 89 (.ay (.r 0)),o1 90 (.ay (.r 1)),o1 91 (.fX n (.r 89) (some (.r 90)) none none),o1 92 (.ay (.r 7)),⟨some 93,.call fr [(.r 91),(.r 92)],none,[]⟩]) <|
 C.seq (.ops [o1 94 (.ay (.r 0)),o1 6 (.ay (.r 94))]) <|
 .ret⟩
section
variable {α:Type} {enc:α→List T} {n:Nat}
theorem fU (hn:∀x,(enc x).length=n){H:af}{b:Nat}{xs:List α}(hb:H[b]?=some (.cells (aE enc xs)))(j k l c:Nat)(Sf:j+k≤xs.length) :
  gY H n k (.ax b (j*n) l n)=some (((xs.drop j).take k).map enc)∧gY H n k (.ej b (j*n) l n c)=some (((xs.drop j).take k).map enc):=by
 have hm:j*n+k*n≤(aE enc xs).length:=by rw[da hn,←Nat.add_mul];exact Nat.mul_le_mul_right n Sf
 have e:(List.range k).map (fun i=>((aE enc xs).drop (j*n+i*n)).take n)=((xs.drop j).take k).map enc:=by
  have h1:=ve hn ((xs.drop j).take k)
  have hl:((xs.drop j).take k).length=k:=by simp;omega
  rw[hl]at h1
  rw[←h1]
  unfold sG
  refine List.map_congr_left fun i hi=>?_
  have hi:=List.mem_range.1 hi
  rw[Nat.zero_add,←jG hn,←lI hn,List.drop_take,List.drop_drop,List.take_take]
  congr 1
  have:i*n+n≤k*n:=by rw[←Nat.succ_mul];exact Nat.mul_le_mul_right n hi
  omega
 simp -implicitDefEqProofs only[gY,hb,hm,and_self,if_true,e]
theorem vg (hn:∀x,(enc x).length=n)(jC:n≠0){H:af}{b:Nat}{xs ys:List α}{y:T}{ly len:Nat}(hb:H[b]?=some (.cells (aE enc xs)))(j c:Nat)(hj:j≤xs.length)(I9:Dc y=some ly)(hy:gY H n (min ly len) y=some (ys.map enc))(qb:ys.length=min ly len) :
  Bi H n (.ax b (j*n) len n) y=some (.int .i64 (min ly len:Nat),H.set b (.cells (aE enc (xs.take j++ys++xs.drop (j+ys.length))))) ∧
  Bi H n (.ej b (j*n) len n c) y=some (.int .i64 (min ly len:Nat),H.set b (.cells (aE enc (xs.take j++ys++xs.drop (j+ys.length))))):=by
 have h1:j*n≤(aE enc xs).length:=by rw[da hn];exact Nat.mul_le_mul_right n hj
 have e:(aE enc xs).take (j*n)++(ys.map enc).flatten++(aE enc xs).drop (j*n+(min ly len)*n)=aE enc (xs.take j++ys++xs.drop (j+ys.length)):=by
  rw[←qb,←Nat.add_mul,jG hn,lI hn]
  simp[aE,List.flatMap]
 simp -implicitDefEqProofs only[Bi,I9,hb,hy,h1,jC,ne_eq,not_false_eq_true,and_self,if_true,e]
theorem NO (hn:∀x,(enc x).length=n)(jC:n≠0){H:af}{b bytes:Nat}{xs:List α}(zv:α)(hb:H[b]?=some (.cells (aE enc xs)))(i k c:Nat)(hi:i≤xs.length)(hk:0<k)(hc:c<i+k)(hr:cU (i+k) bytes=true) :
  Dd H n bytes (enc zv) (.ej b 0 i n c) k=some (.ax H.length 0 (i+k) n,H++[.cells (aE enc (xs.take i++List.replicate k zv))]):=by
 have h1:=(fU hn hb 0 i i c (by omega)).2
 rw[Nat.zero_mul]at h1
 have e:((xs.take i).map enc).flatten++(List.replicate k (enc zv)).flatten=aE enc (xs.take i++List.replicate k zv):=by
  rw[JT];simp[aE,List.flatMap]
 simp -implicitDefEqProofs only[List.drop_zero]at h1
 simp -implicitDefEqProofs only[Dd,h1,jC,ne_eq,not_false_eq_true,hk,hc,hn,hr,and_self,if_true,e]
theorem ue (hn:∀x,(enc x).length=n){H:af}{bv:Nat}{v:α}(hv:H[bv]?=some (.cells (enc v))):bA H n (.ax bv 0 1 n)=some [enc v]:=by
 have h1:0+1*n≤(enc v).length:=by rw[hn];omega
 simp -implicitDefEqProofs only[bA,hv,h1,and_self,if_true]
 have:(List.range 1).map (fun i=>((enc v).drop (0+i*n)).take n)=[enc v]:=by
  simp[List.range_succ,List.take_of_length_le (Nat.le_of_eq (hn v))]
 rw[this]
structure Ma (n0:Nat)(H:af)(t:T)(H':af):Prop where
 len:H.length≤H'.length
 get:∀b x,H[b]?=some x→(∀off len n,t≠.ax b off len n)→H'[b]?=some x
 ext:∀H0:af,H0.length≤n0→Ext H0 H→Ext H0 H'
def NP (enc:α→List T)(n n0:Nat)(H:af)(t:T)(ys:List α):Out→af→Prop:=fun o H'=>∃b',o=.val (.ax b' 0 ys.length n)∧H'[b']?=some (.cells (aE enc ys))∧n0≤b'∧Ma n0 H t H'∧(H.length≤b'∨∃off len n,t=.ax b' off len n)
theorem vj {H H':af}{n bytes b off len m:Nat}{x:T}{new:List (List T)}(h:jA H n bytes x new=some (.ax b off len m,H'))(hn:new≠[]):H.length≤b:=by
 unfold jA at h
 split at h
 ·exact absurd rfl hn
 ·split at h
  ·split at h
   ·simp at h;omega
   ·cases h
  ·split at h
   ·simp at h;omega
   ·cases h
  ·split at h
   ·split at h
    ·simp at h;omega
    ·cases h
   ·cases h
  ·cases h
theorem JU {E:Env}{f bytes fr:Nat}(hn:∀x,(enc x).length=n)(jC:n≠0)(zv:α)(hf:E.fn f=some (ud n bytes (enc zv) fr))(n0 bv:Nat)(v:α)(H:af)(hH:n0≤H.length)(hv:H[bv]?=some (.cells (enc v)))(hr:cU 1 bytes=true) :
  W E (.call f [.sl .nil [],.int .i64 0,.ax bv 0 1 n]) H (NP enc n n0 H (.sl .nil []) [v]):=by
 refine W.bU hf rfl rfl ?_
 have h1:=ue hn hv
 obtain⟨t',H',ha,hm,dD⟩:=l6 (enc:=enc) hn (bytes:=bytes) [v] (nX enc n n0 H) hH (by simp) (by simpa using hr)
 simp -implicitDefEqProofs only[List.map_cons,List.map_nil]at ha
 have au:=fun b' ml (e:t'=T.ax b' 0 ml n)=>vj (e▸ha) (by simp)
 have n0':cq (.int .i64 0)=some 0:=rfl
 have z0:((0:Nat):Int)=0:=rfl
 simp -implicitDefEqProofs only[ud,o1,reduceIte,q4,q5,q6,q7,q8,q9,j1,j2,j3,S1,z0,n0',Nat.le_refl,and_self,SK.cut,h1,uF,ha]
 rcases hm with⟨h0,_⟩|⟨b',rfl,jt,HW⟩
 ·simp at h0
 ·exact⟨b',rfl,jt,HW,⟨dD.len,dD.get,dD.ext⟩,.inl (au _ _ rfl)⟩
theorem JV {E:Env}{f bytes fr:Nat}(hn:∀x,(enc x).length=n)(jC:n≠0)(zv:α)(hf:E.fn f=some (ud n bytes (enc zv) fr))(n0 bv b i:Nat)(v:α)(xs:List α)(H:af)(hH:n0≤H.length)(hv:H[bv]?=some (.cells (enc v)))(hb:H[b]?=some (.cells (aE enc xs)))(HW:n0≤b)(bK:bv≠b)
  (hi:i≤xs.length) (hl:xs.length<4611686018427387903) (hr:cU (xs.length+1) bytes=true) :
  W E (.call f [.ax b 0 xs.length n,.int .i64 i,.ax bv 0 1 n]) H (NP enc n n0 H (.ax b 0 xs.length n) (xs.take i++v :: xs.drop i)):=by
 have qb:(xs.take i++v :: xs.drop i).length=xs.length+1:=by simp;omega
 refine W.Br (b:=b) (off:=0) (len:=xs.length) (n:=n) 0 (fun o H'=>∃t b',o=.val t∧uF t=.ax b' 0 (xs.length+1) n∧H'[b']?=some (.cells (aE enc (xs.take i++v :: xs.drop i)))∧n0≤b'∧Ma n0 H (.ax b 0 xs.length n) H'∧(H.length≤b'∨∃off len m,(.ax b 0 xs.length n:T)=.ax b' off len m)) rfl (fun c hc=>?_) ?_
 rotate_left
 ·rintro t H'⟨t',b',ht,sm,h1,h2,h3⟩
  cases ht
  exact⟨b',by rw[sm,qb],h1,h2,h3⟩
 refine W.bU hf rfl rfl ?_
 have h1:=ue hn hv
 have w1:IntKind.i64.wrap ((xs.length:Int)+((1:Nat):Int))=((xs.length+1:Nat):Int):=by rw[wrap64 (by omega)];omega
 have w2:IntKind.i64.wrap ((i:Int)+((1:Nat):Int))=((i+1:Nat):Int):=by rw[wrap64 (by omega)];omega
 have lb:=aY hb
 have lv:=aY hv
 by_cases lx:i=xs.length
 ·subst lx
  obtain⟨t',H',ha,hm,dD⟩:=l6 (enc:=enc) (n0:=n0) (t:=.ax b 0 xs.length n) hn (bytes:=bytes) [v] (.inr ⟨b,rfl,hb,HW⟩) hH (by simp) (by simpa using hr)
  simp -implicitDefEqProofs only[List.map_cons,List.map_nil]at ha
  have au:=fun b' ml (e:t'=T.ax b' 0 ml n)=>vj (e▸ha) (by simp)
  simp -implicitDefEqProofs only[ud,o1,reduceIte,q4,q5,q6,q7,q8,q9,j1,j2,j3,S1,aa,Nat.le_refl,hc,and_self,h1,uF,ha]
  rcases hm with⟨h0,_⟩|⟨b',rfl,jt,XJ⟩
  ·simp at h0
  ·refine⟨_,b',rfl,by simp[uF],?_,XJ,⟨dD.len,dD.get,dD.ext⟩,.inl (au _ _ rfl)⟩
   rw[jt];simp
 ·have aw:i<xs.length:=by omega
  have Sg:¬((i:Int)=(xs.length:Int)):=by omega
  have ic:(i<c∨i=0)=True:=by simp;omega
  have i1:(i+1<c∨i+1=0)=(i+1<c):=by simp
  have mi:min 1 (xs.length+1-i)=1:=by omega
  have adQ:=fU hn (xs:=[v]) (b:=bv) (H:=H)
  by_cases nH:c<xs.length+1
  ·have lR:c=xs.length:=by omega
   subst lR
   have w3:IntKind.i64.wrap (((xs.length+1:Nat):Int)-(i:Int))=((xs.length+1-i:Nat):Int):=by rw[wrap64 (by omega)];omega
   have yV:i+(xs.length+1-i)=xs.length+1:=by omega
   have ha:=NO (bytes:=bytes) hn jC zv hb i (xs.length+1-i) xs.length hi (by omega) (by omega) (by rw[yV];exact hr)
   rw[yV]at ha
   have c0:(0<xs.length∨True)=True:=by simp
   have e1:¬(i=xs.length+1):=by omega
   have e2:¬(i+1=xs.length+1):=by omega
   have hle:i≤xs.length+1:=by omega
   have NQ:i+1≤xs.length+1:=by omega
   have NR:(H++[B.cells (aE enc (xs.take i++List.replicate (xs.length+1-i) zv))])[H.length]?=some (.cells (aE enc (xs.take i++List.replicate (xs.length+1-i) zv))):=aO rfl
   have XK:(H++[B.cells (aE enc (xs.take i++List.replicate (xs.length+1-i) zv))])[bv]?=some (.cells (aE enc [v])):=by rw[aQ lv,hv];simp[aE]
   have oW:=(fU hn XK 0 1 1 0 (by simp)).1
   simp -implicitDefEqProofs only[Nat.zero_mul,List.drop_zero]at oW
   have B7:=(vg hn jC (ys:=[v]) (y:=.ax bv 0 1 n) (ly:=1) (len:=xs.length+1-i) NR i 0 (by simp;omega) rfl (by rw[mi];simpa using oW) (by simp;omega)).1
   rw[mi]at B7
   have v9:(xs.take i++List.replicate (xs.length+1-i) zv).take i++[v]++(xs.take i++List.replicate (xs.length+1-i) zv).drop (i+[v].length)=xs.take i++v :: List.replicate (xs.length-i) zv:=by
    have t1:(xs.take i).length=i:=by simp;omega
    have t2:i+1-i=1:=by omega
    have t3:xs.length+1-i-1=xs.length-i:=by omega
    rw[List.take_append_of_le_length (by omega),List.take_of_length_le (by omega),List.drop_append,List.drop_eq_nil_of_le (by simp;omega),t1]
    simp[t2,t3]
   rw[v9,pj]at B7
   have XL:(H++[B.cells (aE enc (xs.take i++v :: List.replicate (xs.length-i) zv))])[H.length]?=some (.cells (aE enc (xs.take i++v :: List.replicate (xs.length-i) zv))):=aO rfl
   have kQ:(H++[B.cells (aE enc (xs.take i++v :: List.replicate (xs.length-i) zv))])[b]?=some (.cells (aE enc xs)):=by rw[aQ lb,hb]
   have zR:=(fU hn kQ i (xs.length-i) (xs.length-i) (xs.length-i) (by omega)).2
   have QD:((xs.drop i).take (xs.length-i))=xs.drop i:=List.take_of_length_le (by simp)
   rw[QD]at zR
   have Wf:min (xs.length-i) (xs.length+1-(i+1))=xs.length-i:=by omega
   have B8:=(vg hn jC (ys:=xs.drop i) (y:=.ej b (i*n) (xs.length-i) n (xs.length-i)) (ly:=xs.length-i) (len:=xs.length+1-(i+1)) XL (i+1) 0 (by simp;omega) rfl (by rw[Wf];exact zR) (by simp)).1
   have sn:(xs.take i++v :: List.replicate (xs.length-i) zv).take (i+1)++xs.drop i++(xs.take i++v :: List.replicate (xs.length-i) zv).drop (i+1+(xs.drop i).length)=xs.take i++v :: xs.drop i:=by
    have t1:(xs.take i).length=i:=by simp;omega
    have t2:i+1-i=1:=by omega
    have d1:(xs.take i++v :: List.replicate (xs.length-i) zv).drop (i+1+(xs.drop i).length)=[]:=List.drop_eq_nil_of_le (by rw[List.length_append,t1];simp;omega)
    have d2:(xs.take i).take (i+1)=xs.take i:=List.take_of_length_le (by omega)
    rw[d1,List.take_append,d2,t1,t2]
    simp
   rw[sn,pj]at B8
   simp -implicitDefEqProofs only[ud,o1,reduceIte,q4,q5,q6,q7,q8,q9,j1,j2,j3,S1,aa,Nat.le_refl,hc,and_self,hi,ic,Sg,lx,w1,w2,w3,nH,Nat.zero_le,Nat.zero_mul,Nat.sub_zero,c0,ha,hle,NQ,e1,e2,B7,B8,or_true,if_true]
   exact⟨_,H.length,rfl,rfl,aO rfl,hH,⟨by simp,fun b' x hx _=>by rw[aQ (aY hx)];exact hx,fun H0 _ h=>h.app _⟩,.inl (Nat.le_refl _)⟩
  ·have Si:xs.length+1≤c:=by omega
   have Sj:¬c<xs.length+1:=nH
   have e1:¬(i=xs.length+1):=by omega
   have hle:i≤xs.length+1:=by omega
   have NQ:i+1≤xs.length+1:=by omega
   have c0:(0<c∨True)=True:=by simp
   have c1:i+1<c:=by omega
   have c2:i<c:=by omega
   have Sk:0<(aE enc xs).length:=by rw[da hn];exact Nat.mul_pos (by omega) (by omega)
   have vY:Bj H n (.ax bv 0 1 n) (.ej b ((i+1)*n) (xs.length+1-(i+1)) n (c-(i+1)))=some (.bool false,H):=by
    simp -implicitDefEqProofs only[Bj,hv,hb,ne_eq,bK,not_false_eq_true,Sk,and_self,if_true]
   have zR:=(fU hn hb i (xs.length-i) (xs.length+1-i) (c-i) (by omega)).2
   have QD:((xs.drop i).take (xs.length-i))=xs.drop i:=List.take_of_length_le (by simp)
   rw[QD]at zR
   have Wf:min (xs.length+1-i) (xs.length+1-(i+1))=xs.length-i:=by omega
   have B7:=(vg hn jC (ys:=xs.drop i) (y:=.ej b (i*n) (xs.length+1-i) n (c-i)) (ly:=xs.length+1-i) (len:=xs.length+1-(i+1)) hb (i+1) (c-(i+1)) (by omega) rfl (by rw[Wf];exact zR) (by rw[Wf];simp)).2
   have gz:xs.take (i+1)++xs.drop i++xs.drop (i+1+(xs.drop i).length)=xs.take (i+1)++xs.drop i:=by
    have d1:xs.drop (i+1+(xs.drop i).length)=[]:=List.drop_eq_nil_of_le (by rw[List.length_drop];omega)
    rw[d1,List.append_nil]
   rw[gz]at B7
   have kQ:(H.set b (.cells (aE enc (xs.take (i+1)++xs.drop i))))[b]?=some (.cells (aE enc (xs.take (i+1)++xs.drop i))):=bX lb
   have XK:(H.set b (.cells (aE enc (xs.take (i+1)++xs.drop i))))[bv]?=some (.cells (aE enc [v])):=by rw[bj (Ne.symm bK),hv];simp[aE]
   have oW:=(fU hn XK 0 1 1 0 (by simp)).1
   simp -implicitDefEqProofs only[Nat.zero_mul,List.drop_zero]at oW
   have B8:=(vg hn jC (ys:=[v]) (y:=.ax bv 0 1 n) (ly:=1) (len:=xs.length+1-i) kQ i (c-i) (by simp;omega) rfl (by rw[mi];simpa using oW) (by simp;omega)).2
   rw[mi]at B8
   have v9:(xs.take (i+1)++xs.drop i).take i++[v]++(xs.take (i+1)++xs.drop i).drop (i+[v].length)=xs.take i++v :: xs.drop i:=by
    have t1:(xs.take (i+1)).length=i+1:=by simp;omega
    rw[List.take_append_of_le_length (by omega),List.take_take,List.drop_append,List.drop_eq_nil_of_le (by simp;omega),t1]
    have t2:min i (i+1)=i:=by omega
    simp[t2]
   rw[v9,List.set_set]at B8
   simp -implicitDefEqProofs only[ud,o1,reduceIte,q4,q5,q6,q7,q8,q9,j1,j2,j3,S1,aa,Nat.le_refl,hc,and_self,hi,ic,Sg,lx,w1,w2,Si,Sj,Nat.zero_le,Nat.zero_mul,Nat.sub_zero,c0,c1,c2,true_or,vY,hle,NQ,e1,B7,B8,or_true,if_true]
   refine⟨_,b,rfl,rfl,bX lb,HW,⟨by simp,fun b' x hx XM=>?_,fun H0 h0 h=>h.set (Nat.le_trans h0 HW) _⟩,.inr ⟨_,_,_,rfl⟩⟩
   have:b≠b':=fun e=>XM 0 xs.length n (by rw[e])
   rw[bj this];exact hx
end
end Go.Rmp
end

section
namespace Go.Rmp
def C3:List O→List Nat
 | []=>[]
 | o :: l=>match o.d with
  | some d=>d :: C3 l
  | none=>C3 l
def wr:C→List Nat
 | .skip=>[]
 | .ops l=>C3 l
 | .seq a b=>wr a++wr b
 | .cond _ a b=>wr a++wr b
 | .block _ a=>wr a
 | .loop a=>wr a
 | .exit _=>[]
 | .ret=>[]
 | .cL n _ _ _ _=>[n]
def Sl:J→List Nat
 | .code c _=>wr c
 | .ops l _=>C3 l
 | .call _ _=>[]
def Sm:J→av
 | .code _ R=>R
 | .ops _ R=>R
 | .call _ _=>fun _=>b0
def Kp (j:J)(o:Out):Prop:=match j with
 | .call _ _=>True
 | j=>∀e R',o=.ex e R'→∀t,t∉Sl j→R' t=Sm j t
theorem qq {R:av}{d:Option Nat}{v:T}{t:Nat}(h:∀x,d=some x→t≠x):bC R d v t=R t:=by
 cases d with
 | none=>rfl
 | some x=>simp[bC,oH,h x rfl]
theorem nY {o:O}{l:List O}{t:Nat}(h:t∉C3 (o :: l)):(∀x,o.d=some x→t≠x)∧t∉C3 l:=by
 unfold C3 at h
 cases e:o.d with
 | none=>rw[e]at h;exact⟨fun x hx=>(by cases hx),h⟩
 | some d=>rw[e]at h;simp only[List.mem_cons,not_or]at h;exact⟨fun x hx=>(by cases hx;exact h.1),h.2⟩
theorem lL {o:O}{l:List O}{R:av}{v:T}{x:Out}(h:Kp (.ops l (bC R o.d v)) x):Kp (.ops (o :: l) R) x:=fun e R' he t ht=>by
 obtain⟨h1,h2⟩:=nY ht
 rw[h e R' he t h2]
 exact qq h1
theorem Fq {c:C}{R:av}{e:Ex}{R':av}(h:∀t,t∉wr c→R' t=R t):Kp (.code c R) (.ex e R'):=fun e' R2 he t ht=>by
 injection he with h1 h2
 rw[←h2];exact h t ht
theorem XN {l:List O}{R:av}{e:Ex}{R':av}(h:∀t,t∉C3 l→R' t=R t):Kp (.ops l R) (.ex e R'):=fun e' R2 he t ht=>by
 injection he with h1 h2
 rw[←h2];exact h t ht
theorem W.dQ {E:Env}{j:J}{H:af}{Q:Out→af→Prop}(h:W E j H Q):W E j H (fun o H'=>Q o H'∧Kp j o):=by
 induction h with
 | skip h=>exact .skip ⟨h,Fq fun _ _=>rfl⟩
 | exit h=>exact .exit ⟨h,Fq fun _ _=>rfl⟩
 | ret h=>exact .ret ⟨h,Fq fun _ _=>rfl⟩
 | Qg _ ih=>exact .Qg (ih.use fun o H' h=>⟨h.1,h.2⟩)
 | @seq a b R H Q M h1 h2 h3 v8 nz =>
  refine .seq _ v8 (fun R' H' hm=>(nz R' H' hm.1).use fun o H2 h=>⟨h.1,fun e R2 he t ht=>?_⟩) (fun o H' hm hn=>⟨h3 o H' hm.1 hn,fun e R2 he t ht=>?_⟩)
  ·have Ju:t∉wr a∧t∉wr b:=by simpa[Sl,wr]using ht
   rw[h.2 e R2 he t Ju.2];exact hm.2 _ _ rfl t Ju.1
  ·have Ju:t∉wr a∧t∉wr b:=by simpa[Sl,wr]using ht
   exact hm.2 e R2 he t Ju.1
 | @cond x a b R H Q t hx h ih =>
  refine .cond t hx (ih.use fun o H' h=>⟨h.1,fun e R2 he t' ht=>?_⟩)
  have Ju:t'∉wr a∧t'∉wr b:=by simpa[Sl,wr]using ht
  refine h.2 e R2 he t' ?_
  cases t
  ·exact Ju.2
  ·exact Ju.1
 | block M h1 h2 h3 ih =>
  exact .block _ ih (fun R' H' hm=>⟨h2 R' H' hm.1,Fq fun t ht=>hm.2 _ _ rfl t ht⟩) (fun o H' hm hn=>⟨h3 o H' hm.1 hn,fun e R2 he t ht=>hm.2 e R2 he t ht⟩)
 | loop M h1 h2 h3 v8 nz =>
  refine .loop _ v8 (fun R' H' hm=>(nz R' H' hm.1).use fun o H2 h=>⟨h.1,fun e R2 he t ht=>?_⟩) (fun o H' hm hn=>⟨h3 o H' hm.1 hn,fun e R2 he t ht=>hm.2 e R2 he t ht⟩)
  rw[h.2 e R2 he t ht];exact hm.2 _ _ rfl t ht
 | nil h=>exact .nil ⟨h,XN fun _ _=>rfl⟩
 | no hg _ ih=>exact .no hg (ih.use fun o H' h=>⟨h.1,lL h.2⟩)
 | op hg he hs _ ih=>exact .op hg he hs (ih.use fun o H' h=>⟨h.1,lL (o:=⟨_,.b _,_,_⟩) h.2⟩)
 | call M hg h1 hs _ _ nz=>exact .call M hg h1 hs (fun v H' hm=>(nz v H' hm).use fun o H' h=>⟨h.1,lL (o:=⟨_,.call _ _,_,_⟩) h.2⟩)
 | bD M hg hf h1 hs _ _ nz=>exact .bD M hg hf h1 hs (fun v H' hm=>(nz v H' hm).use fun o H' h=>⟨h.1,lL (o:=⟨_,.bD _ _,_,_⟩) h.2⟩)
 | nu M1 M hg hf hb hn h1 Bp h2 Bq zG _ CP _ _ _ Qz QA=>exact .nu M1 M hg hf hb hn h1 Bp h2 Bq zG (fun R' H' hm=>(Qz R' H' hm).use fun o H' h=>⟨h.1,lL (o:=⟨_,.bD _ _,_,_⟩) h.2⟩) CP (fun e R' H' hm he=>(QA e R' H' hm he).use fun o H' h=>⟨h.1,lL (o:=⟨_,.bD _ _,_,_⟩) h.2⟩)
 | Bn hs h hx hy hc ih=>exact .Bn hs (fun b=>(ih b).use fun o H' h=>⟨h.1,lL (o:=⟨_,.b _,_,_⟩) h.2⟩) hx hy hc
 | @cL n x ps b6 body R H Q f cs M hx h1 h2 _ =>
  refine .cL M hx h1 (fun v H' hm=>let ⟨st,pe,a,b,c,d⟩:=h2 v H' hm;⟨st,pe,a,b,c,d,Fq fun t ht=>?_⟩)
  have ht:t≠n:=by simpa[Sl,wr]using ht
  simp[oH,ht,Sm]
 | Qh M hf hn h1 h2 _=>exact .Qh M hf hn h1 (fun o H' hm=>let ⟨R',bs,a,b,c,d,v,e,f⟩:=h2 o H' hm;⟨R',bs,a,b,c,d,v,e,f,trivial⟩)
 | fn M hf hr hn h1 h2 _=>exact .fn M hf hr hn h1 (fun o H' hm=>let ⟨R',a,v,b,c⟩:=h2 o H' hm;⟨R',a,v,b,c,trivial⟩)
 | Br i M hi h1 h2 _=>exact .Br i M hi h1 (fun v H' hm=>⟨h2 v H' hm,trivial⟩)
 | qa M h1 h2 _=>exact .qa M h1 (fun o H' hm=>let ⟨v,b,cs,a,c,d,e⟩:=h2 o H' hm;⟨v,b,cs,a,c,d,e,trivial⟩)
 | qh hg hx hb hs _ ih=>exact .qh hg hx hb hs fun t H' hm=>(ih t H' hm).use fun o H' h=>⟨h.1,lL (o:=⟨_,.b _,_,_⟩) h.2⟩
 | shr M h1 h2 _=>exact .shr M h1 (fun o H' hm=>let ⟨v,b,cs,k,a,c,d,e⟩:=h2 o H' hm;⟨v,b,cs,k,a,c,d,e,trivial⟩)
 | Dg i hi hb _ ih=>exact .Dg i hi hb (ih.use fun o H' h=>⟨h.1,trivial⟩)
 | oO h=>exact .oO (E.mono _ _ _ _ _ h fun t H' hm=>⟨hm,trivial⟩)
def JW:List (Nat×T)→av→av
 | [],R=>R
 | (t,v) :: l,R=>oH (JW l R) t v
theorem aq (R:av):JW [] R=R:=rfl
theorem ah (t:Nat)(v:T)(l:List (Nat×T))(R:av):JW ((t,v) :: l) R=oH (JW l R) t v:=rfl
def mP:List (Nat×T)→av→Prop
 | [],_=>True
 | (t,v) :: l,R=>R t=v∧mP l R
def Wg (vs:List (Nat×T))(w:List Nat):Bool:=vs.all fun p=>!w.elem p.1
theorem NS {R:av}{t:Nat}{v:T}(h:R t=v):oH R t v=R:=by
 funext x;by_cases e:x=t
 ·subst e;simp[oH,h]
 ·simp[oH,e]
theorem l8:∀(vs:List (Nat×T)) (R:av),mP vs R→JW vs R=R
 | [],_,_=>rfl
 | (t,v) :: l,R,h=>by rw[ah,l8 l R h.2,NS h.1]
theorem nZ:∀(vs:List (Nat×T)) (R R':av),mP vs R→(∀p∈vs,R' p.1=R p.1)→mP vs R'
 | [],_,_,_,_=>trivial
 | (t,v) :: l,R,R',h,k=>⟨(k (t,v) List.mem_cons_self).trans h.1,nZ l R R' h.2 fun p hp=>k p (List.mem_cons_of_mem _ hp)⟩
theorem vn {vs:List (Nat×T)}{w:List Nat}(h:Wg vs w=true):∀p∈vs,p.1∉w:=fun p hp hw=>by
 have:=(List.all_eq_true.1 h) p hp
 simp[hw]at this
theorem W.Ax {E:Env}{α:Type}{a:C}{R:av}{H:af}{Q:Out→af→Prop}(vs:List (Nat×T))(I:α→av→af→Prop)(μ:α→Nat)(x:α)
  (h0:I x R H) (step:∀x R H,I x R H→eV E a (JW vs R) H (nU (fun R' H'=>∃y,μ y<μ x∧I y R' H') Q))
  (hv:mP vs R:=by repeat' (first|exact trivial|refine And.intro rfl ?_)) (hw:Wg vs (wr a)=true:=by rfl):W E (.code (.loop a) R) H Q:=by
 have key:∀(n:Nat) (x:α) (R:av) (H:af),μ x=n→I x R H→mP vs R→W E (.code (.loop a) R) H Q:=by
  intro n
  induction n using Nat.strongRecOn with
  | _ n ih =>
   intro x R H hn hI uI
   have hs:=step x R H hI
   rw[l8 vs R uI]at hs
   refine .loop _ (ik a R H _ hs).dQ (fun R' H' hm=>?_) (fun o H' hm gI=>?_)
   ·obtain⟨⟨y,hy,XG⟩,hk⟩:=hm
    exact ih (μ y) (hn▸hy) y R' H' rfl XG (nZ vs R R' uI fun p hp=>hk _ _ rfl p.1 (vn hw p hp))
   ·cases o with
    | ex e R'=>cases e with
     | normal=>exact absurd rfl (gI R')
     | exit id=>exact hm.1
     | ret=>exact hm.1
    | val v=>exact hm.1
 exact key _ x R H rfl h0 hv
theorem W.eZ {E:Env}{α:Type}{a:C}{R:av}{H:af}{Q:Out→af→Prop}(id:Nat)(vs:List (Nat×T))(I:α→av→af→Prop)(μ:α→Nat)(x:α)(P:av→af→Prop)
  (h0:I x R H) (step:∀x R H,I x R H→eV E a (JW vs R) H (nU (fun R' H'=>∃y,μ y<μ x∧I y R' H') (cS id P Q))) (rest:∀R H,P R H→Q (.ex (.exit id) (JW vs R)) H)
  (hv:mP vs R:=by repeat' (first|exact trivial|refine And.intro rfl ?_)) (hw:Wg vs (wr a)=true:=by rfl):W E (.code (.loop a) R) H Q:=by
 have h:=(W.Ax (Q:=cS id P Q) vs I μ x h0 step hv hw).dQ
 refine h.use fun o H' hm=>?_
 cases o with
 | ex e R'=>cases e with
  | exit i =>
   obtain⟨h1,hk⟩:=hm
   simp only[cS]at h1
   split at h1
   ·rename_i e;subst e
    have uI:mP vs R':=nZ vs R R' hv fun p hp=>hk _ _ rfl p.1 (vn hw p hp)
    have:=rest _ _ h1
    rwa[l8 vs R' uI]at this
   ·exact h1
  | normal=>exact hm.1
  | ret=>exact hm.1
 | val v=>exact hm.1
theorem n5 {E:Env}{K:av→af→Prop}:∀(l:List O) (R:av) (H:af),fB E l R H K→fB E l R H (fun R' H'=>K R' H'∧∀t,t∉C3 l→R' t=R t)
 | [],R,H,h=>⟨h,fun _ _=>rfl⟩
 | ⟨d,.b b,g,s⟩ :: l,R,H,h=>by
  have tr:∀v H',fB E l (bC R d v) H' K→fB E l (bC R d v) H' (fun R' H'=>K R' H'∧∀t,t∉C3 (⟨d,.b b,g,s⟩ :: l)→R' t=R t):=fun v H' h' =>
   cN (fun R' H' hk=>⟨hk.1,fun t ht=>by obtain⟨h1,h2⟩:=nY ht;rw[hk.2 t h2];exact qq h1⟩) l _ _ (n5 l _ _ h')
  simp only[fB]at h ⊢
  split at h
  ·exact tr _ _ h
  ·split at h
   ·exact⟨h.1,tr _ _ h.2⟩
   ·rcases h with h|⟨x,bb,bi,es,ix,cur,e,hx,hb,h⟩
    ·exact .inl ⟨h.1,fun t=>tr _ _ (h.2 t)⟩
    ·exact .inr ⟨x,bb,bi,es,ix,cur,e,hx,hb,fun t H' hm=>⟨(h t H' hm).1,tr _ _ (h t H' hm).2⟩⟩
 | ⟨d,.call f az,g,s⟩ :: l,R,H,h=>by
  have tr:∀v H',fB E l (bC R d v) H' K→fB E l (bC R d v) H' (fun R' H'=>K R' H'∧∀t,t∉C3 (⟨d,.call f az,g,s⟩ :: l)→R' t=R t):=fun v H' h' =>
   cN (fun R' H' hk=>⟨hk.1,fun t ht=>by obtain⟨h1,h2⟩:=nY ht;rw[hk.2 t h2];exact qq h1⟩) l _ _ (n5 l _ _ h')
  simp only[fB]at h ⊢
  split at h
  ·exact tr _ _ h
  ·obtain⟨M,h1,h2⟩:=h
   exact⟨M,h1,fun v H' hm=>⟨(h2 v H' hm).1,tr _ _ (h2 v H' hm).2⟩⟩
 | ⟨d,.bD x az,g,s⟩ :: l,R,H,h=>by
  have tr:∀v H',fB E l (bC R d v) H' K→fB E l (bC R d v) H' (fun R' H'=>K R' H'∧∀t,t∉C3 (⟨d,.bD x az,g,s⟩ :: l)→R' t=R t):=fun v H' h' =>
   cN (fun R' H' hk=>⟨hk.1,fun t ht=>by obtain⟨h1,h2⟩:=nY ht;rw[hk.2 t h2];exact qq h1⟩) l _ _ (n5 l _ _ h')
  simp only[fB]at h ⊢
  split at h
  ·exact tr _ _ h
  ·rcases h with⟨f,cs,M,hf,h1,h2⟩|⟨b,n,R0,ps,b6,body,M1,M,h⟩
   ·exact .inl ⟨f,cs,M,hf,h1,fun v H' hm=>⟨(h2 v H' hm).1,tr _ _ (h2 v H' hm).2⟩⟩
   ·exact .inr ⟨b,n,R0,ps,b6,body,M1,M,⟨h.hf,h.hb,h.hn,h.h1,h.Bp,h.h2,h.Bq,fun R' H' hm=>⟨(h.h3 R' H' hm).1,tr _ _ (h.h3 R' H' hm).2⟩,fun e R' H' hm he=>⟨(h.h4 e R' H' hm he).1,tr _ _ (h.h4 e R' H' hm he).2⟩⟩⟩
theorem jH {E:Env}:∀(c:C) (R:av) (H:af) (Q:Out→af→Prop),eV E c R H Q→eV E c R H (fun o H'=>Q o H'∧∀e R',o=.ex e R'→∀t,t∉wr c→R' t=R t)
 | .skip,R,H,Q,h=>⟨h,fun e R' he t _=>by cases he;rfl⟩
 | .ops l,R,H,Q,h=>cN (fun R' H' hk=>⟨hk.1,fun e R2 he t ht=>by cases he;exact hk.2 t ht⟩) l R H (n5 l R H h)
 | .seq a b,R,H,Q,h=>cO a R H (fun o H' hk=>by
   obtain⟨h1,h2⟩:=hk
   have fin:(∀R',o≠.ex .normal R')→Q o H'→Q o H'∧∀e R',o=.ex e R'→∀t,t∉wr (.seq a b)→R' t=R t:=fun _ hq=>⟨hq,fun e R' he t ht=>h2 e R' he t fun hh=>ht (List.mem_append_left _ hh)⟩
   cases o with
   | ex e R'=>cases e with
    | normal =>
     refine cO b R' H' (fun o H2 zR=>⟨zR.1,fun e R2 he t ht=>?_⟩) (jH b R' H' Q h1)
     rw[zR.2 e R2 he t fun hh=>ht (List.mem_append_right _ hh)]
     exact h2 _ _ rfl t fun hh=>ht (List.mem_append_left _ hh)
    | exit id=>exact fin (fun _ hh=>by cases hh) h1
    | ret=>exact fin (fun _ hh=>by cases hh) h1
   | val v=>exact fin (fun _ hh=>by cases hh) h1) (jH a R H _ h)
 | .cond x a b,R,H,Q,h=>by
  simp only[eV]at h ⊢
  split at h
  ·exact cO a R H (fun o H' hk=>⟨hk.1,fun e R' he t ht=>hk.2 e R' he t fun hh=>ht (List.mem_append_left _ hh)⟩) (jH a R H Q h)
  ·exact cO b R H (fun o H' hk=>⟨hk.1,fun e R' he t ht=>hk.2 e R' he t fun hh=>ht (List.mem_append_right _ hh)⟩) (jH b R H Q h)
  ·exact h.elim
 | .block id a,R,H,Q,h=>cO a R H (fun o H' hk=>by
   obtain⟨h1,h2⟩:=hk
   cases o with
   | ex e R'=>cases e with
    | normal=>exact⟨h1,fun e R2 he t ht=>by cases he;exact h2 _ _ rfl t ht⟩
    | exit i =>
     simp only[kd]at h1 ⊢
     split at h1
     ·rename_i e;simp only[e,if_true];exact⟨h1,fun e R2 he t ht=>by cases he;exact h2 _ _ rfl t ht⟩
     ·rename_i e;simp only[e,if_false];exact⟨h1,fun e R2 he t ht=>by cases he;exact h2 _ _ rfl t ht⟩
    | ret=>exact⟨h1,fun e R2 he t ht=>by cases he;exact h2 _ _ rfl t ht⟩
   | val v=>exact⟨h1,fun e R2 he t ht=>by cases he⟩) (jH a R H _ h)
 | .exit id,R,H,Q,h=>⟨h,fun e R' he t _=>by cases he;rfl⟩
 | .ret,R,H,Q,h=>⟨h,fun e R' he t _=>by cases he;rfl⟩
 | .loop a,R,H,Q,h=>W.use (W.dQ h) fun o H' hk=>⟨hk.1,hk.2⟩
 | .cL n x ps a b,R,H,Q,h=>W.use (W.dQ h) fun o H' hk=>⟨hk.1,hk.2⟩
def Fs (P:av→af→Prop):Out→af→Prop
 | .ex .normal R,H=>P R H
 | _,_=>False
theorem vo (P:av→af→Prop)(R:av)(H:af):Fs P (.ex .normal R) H=P R H:=rfl
theorem B9 {E:Env}{a b:C}{t:T}{R:av}{H:af}{Q:Out→af→Prop}(vs:List (Nat×T))(P:av→af→Prop)(h1:tM E R H (Fs P) a b t)(h2:∀R' H',P R' H'→Q (.ex .normal (JW vs R')) H')
  (hv:mP vs R:=by repeat' (first|exact trivial|refine And.intro rfl ?_)) (hw:Wg vs (wr a++wr b)=true:=by rfl):tM E R H Q a b t:=by
 have key:∀c:C,(∀x,x∈wr c→x∈wr a++wr b)→eV E c R H (Fs P)→eV E c R H Q:=fun c hc h=>by
  refine cO c R H (fun o H' hk=>?_) (jH c R H _ h)
  cases o with
  | ex e R'=>cases e with
   | normal =>
    have uI:mP vs R':=nZ vs R R' hv fun p hp=>hk.2 _ _ rfl p.1 fun hh=>vn hw p hp (hc _ hh)
    have:=h2 R' H' hk.1
    rwa[l8 vs R' uI]at this
   | exit id=>exact hk.1.elim
   | ret=>exact hk.1.elim
  | val v=>exact hk.1.elim
 unfold tM at h1 ⊢
 split at h1
 ·exact key a (fun x hx=>List.mem_append_left _ hx) h1
 ·exact key b (fun x hx=>List.mem_append_right _ hx) h1
 ·exact h1.elim
def tb:T→Option Nat
 | .ax c _ _ _=>some c
 | _=>none
end Go.Rmp
end

section
namespace Go.Proofs.YtdcpehdijdllpaaGreat.Ir
open Go.Rmp
set_option maxRecDepth 100000
set_option maxHeartbeats 0
abbrev op (d:Nat)(b:Bo):O:=⟨some d,.b b,none,[]⟩
abbrev ef (b:Bo):O:=⟨none,.b b,none,[]⟩
abbrev cl (d f:Nat)(az:List X):O:=⟨some d,.call f az,none,[]⟩
abbrev sq (a b:C):C:=.seq a b
abbrev mv (d t:Nat):O:=⟨some d,.b (.ay (.r t)),none,[]⟩
abbrev mt (d t g:Nat):O:=⟨some d,.b (.ay (.r t)),some (g,true),[]⟩
abbrev mf (d t g:Nat):O:=⟨some d,.b (.ay (.r t)),some (g,false),[]⟩
abbrev gt (d g:Nat)(b:Bo):O:=⟨some d,.b b,some (g,true),[]⟩
abbrev gf (d g:Nat)(b:Bo):O:=⟨some d,.b b,some (g,false),[]⟩
abbrev l1 (d a:Nat):O:=⟨some d,.b (.ld 1 false (.r a)),none,[]⟩
abbrev ln (d n a:Nat):O:=⟨some d,.b (.ld n true (.r a)),none,[]⟩
abbrev ia (d n a b:Nat):O:=⟨some d,.b (.eI n (.r a) (.r b)),none,[]⟩
abbrev fa (d n a:Nat):O:=⟨some d,.b (.kT n (.r a)),none,[]⟩
abbrev se (n a b:Nat):O:=⟨none,.b (.st n (.r a) (.r b)),none,[]⟩
abbrev nc (d a:Nat):O:=⟨some d,.b (.uD (.r a)),none,[]⟩
abbrev b2 (d:Nat)(o:BinOp)(a b:Nat):O:=⟨some d,.b (.bin o (.r a) (.r b)),none,[]⟩
abbrev xt (d n a:Nat):O:=⟨some d,.b (.ext n (.r a)),none,[]⟩
abbrev fm (d a:Nat):O:=⟨some d,.b (.len .sl (.r a)),none,[]⟩
abbrev so (l:List O)(c:C):C:=.seq (.ops l) c
abbrev cx (t i:Nat):C:=.cond (.r t) .skip (.exit i)
def an6:An:=⟨[(18,3),(29,5),(43,10)],[]⟩
def XO:Go.Rmp.Fn:=⟨325,2,[.t 4],so [op 4 (.ay (.c (.bool false)))]<|so [cl 36 8 [],mv 5 36]<|sq (so [mv 37 5,op 38 (.un .not (.r 37))]<|.cond (.r 38) (so [op 4 (.ay (.c (.bool false)))]<|.ret) (.skip))<|so [mv 40 1,cl 41 15 [.r 40],cl 42 17 [.r 41,(.c (.int .i64 5))],mv 39 42,xt 43 0 39,xt 44 1 39,xt 45 2 39,mv 6 43,mv 7 44,mv 8 45]<|sq (so [mv 46 8,op 47 (.bin .eql (.r 46) (.c (.int .i64 0)))]<|.cond (.r 47) (so [mv 49 6,mv 50 7,cl 51 10 [.r 49,.r 50],mv 48 51,xt 52 0 48,xt 53 1 48,mv 9 52,mv 10 53]<|so [mv 54 7,op 55 (.mU false .ptr (.r 54) (.c .bR)),mv 56 55,mf 57 10 56,gf 58 56 (.bin .neq (.r 57) (.c (.int .i64 0))),op 59 (.pick (.r 56) (.c (.bool true)) (.r 58)),mv 60 59,mf 61 9 60,mf 62 1 60,⟨(some 63),.call 13 [.r 61,.r 62],(some (60,false)),[]⟩,gf 64 60 (.un .not (.r 63)),op 65 (.pick (.r 60) (.c (.bool true)) (.r 64)),mv 66 65,mf 67 6 66,gf 68 66 (.bin .lss (.r 67) (.c (.int .i64 1))),op 69 (.pick (.r 66) (.c (.bool true)) (.r 68))]<|.cond (.r 69) (so [op 4 (.ay (.c (.bool false)))]<|.ret) (.skip)) (so [mv 70 6,op 71 (.bin .neq (.r 70) (.c (.int .i64 0))),mv 72 71,mf 73 7 72,gf 74 72 (.mU true .ptr (.r 73) (.c .bR)),op 75 (.pick (.r 72) (.c (.bool true)) (.r 74)),mv 76 75,mf 77 8 76,gf 78 76 (.bin .neq (.r 77) (.c (.int .i64 90))),mf 79 78 76,mt 80 8 79,gt 81 79 (.bin .neq (.r 80) (.c (.int .i64 2))),gf 82 76 (.pick (.r 79) (.r 81) (.c (.bool false))),op 83 (.pick (.r 76) (.c (.bool true)) (.r 82))]<|.cond (.r 83) (so [op 4 (.ay (.c (.bool false)))]<|.ret) (.skip)))<|so [mv 84 0,cl 85 9 [.r 84],mv 11 85]<|sq (so [mv 86 11,op 87 (.mU false .ptr (.r 86) (.c .bR))]<|.cond (.r 87) (so [op 4 (.ay (.c (.bool false)))]<|.ret) (.skip))<|so [mv 89 11,cl 90 10 [(.c (.int .i64 2)),.r 89],mv 88 90,xt 91 0 88,xt 92 1 88,mv 12 91,mv 13 92]<|so [mv 94 11,cl 95 10 [(.c (.int .i64 2)),.r 94],mv 93 95,xt 96 0 93,xt 97 1 93,mv 14 96,mv 15 97]<|sq (so [mv 98 13,op 99 (.bin .neq (.r 98) (.c (.int .i64 0))),mv 100 99,mf 101 15 100,gf 102 100 (.bin .neq (.r 101) (.c (.int .i64 0))),op 103 (.pick (.r 100) (.c (.bool true)) (.r 102)),mv 104 103,mf 105 12 104,mf 106 14 104,⟨(some 107),.call 13 [.r 105,.r 106],(some (104,false)),[]⟩,gf 108 104 (.un .not (.r 107)),op 109 (.pick (.r 104) (.c (.bool true)) (.r 108)),mv 110 109,mf 111 12 110,gf 112 110 (.len .sl (.r 111)),gf 113 110 (.bin .lss (.r 112) (.c (.int .i64 25))),op 114 (.pick (.r 110) (.c (.bool true)) (.r 113))]<|.cond (.r 114) (so [op 4 (.ay (.c (.bool false)))]<|.ret) (.skip))<|so [mv 115 12,cl 116 15 [.r 115],op 117 (.oI 2 [.int .u8 0] [(0,(.c (.int .u8 161))),(1,(.c (.int .u8 162)))]),op 118 (.app 1 1 true (.r 116) (.r 117)),mv 16 118]<|so [mv 120 16,mv 121 12,fm 122 121,op 123 (.fX 1 (.r 120) none (some (.r 122)) none),cl 124 17 [.r 123,(.c (.int .i64 5))],mv 119 124,xt 125 0 119,xt 126 1 119,xt 127 2 119,mv 17 125,mv 18 126,mv 19 127]<|sq (so [mv 128 19,op 129 (.bin .neq (.r 128) (.c (.int .i64 0))),mv 130 129,mf 131 18 130,gf 132 130 (.mU false .ptr (.r 131) (.c .bR)),op 133 (.pick (.r 130) (.c (.bool true)) (.r 132)),mv 134 133,mf 135 16 134,mf 136 12 134,gf 137 134 (.len .sl (.r 136)),gf 138 134 (.fX 1 (.r 135) none (some (.r 137)) none),mf 139 12 134,⟨(some 140),.call 13 [.r 138,.r 139],(some (134,false)),[]⟩,gf 141 134 (.un .not (.r 140)),op 142 (.pick (.r 134) (.c (.bool true)) (.r 141)),mv 143 142,mf 144 16 143,mf 145 12 143,gf 146 143 (.len .sl (.r 145)),gf 147 143 (.eI 1 (.r 144) (.r 146)),gf 148 143 (.ld 1 false (.r 147)),gf 149 143 (.bin .neq (.r 148) (.c (.int .u8 161))),op 150 (.pick (.r 143) (.c (.bool true)) (.r 149)),mv 151 150,mf 152 16 151,mf 153 12 151,gf 154 151 (.len .sl (.r 153)),gf 155 151 (.bin .add (.r 154) (.c (.int .i64 1))),gf 156 151 (.eI 1 (.r 152) (.r 155)),gf 157 151 (.ld 1 false (.r 156)),gf 158 151 (.bin .neq (.r 157) (.c (.int .u8 162))),op 159 (.pick (.r 151) (.c (.bool true)) (.r 158))]<|.cond (.r 159) (so [op 4 (.ay (.c (.bool false)))]<|.ret) (.skip))<|so [mv 160 18,cl 161 18 [.r 160],mv 20 161]<|so [mv 162 12,fm 163 162,mv 21 163]<|so [mv 164 12,cl 165 15 [.r 164],mv 22 165]<|so [mv 167 18,cl 168 10 [(.c (.int .i64 2)),.r 167],mv 166 168,xt 169 0 166,xt 170 1 166,mv 23 169,mv 24 170]<|so [mv 172 11,cl 173 10 [(.c (.int .i64 2)),.r 172],mv 171 173,xt 174 0 171,xt 175 1 171,mv 25 174,mv 26 175]<|sq (so [mv 176 24,op 177 (.bin .neq (.r 176) (.c (.int .i64 0))),mv 178 177,mf 179 26 178,gf 180 178 (.bin .neq (.r 179) (.c (.int .i64 0))),op 181 (.pick (.r 178) (.c (.bool true)) (.r 180)),mv 182 181,mf 183 23 182,mf 184 22 182,⟨(some 185),.call 13 [.r 183,.r 184],(some (182,false)),[]⟩,gf 186 182 (.un .not (.r 185)),op 187 (.pick (.r 182) (.c (.bool true)) (.r 186)),mv 188 187,mf 189 25 188,mf 190 22 188,⟨(some 191),.call 13 [.r 189,.r 190],(some (188,false)),[]⟩,gf 192 188 (.un .not (.r 191)),op 193 (.pick (.r 188) (.c (.bool true)) (.r 192)),mv 194 193,mf 195 14 194,mf 196 22 194,⟨(some 197),.call 13 [.r 195,.r 196],(some (194,false)),[]⟩,gf 198 194 (.un .not (.r 197)),op 199 (.pick (.r 194) (.c (.bool true)) (.r 198))]<|.cond (.r 199) (so [op 4 (.ay (.c (.bool false)))]<|.ret) (.skip))<|so [mv 200 12,mv 201 14,mv 202 23,mv 203 25,mv 204 16,op 205 (.MK 5 [.sl .nil []] [(0,(.r 200)),(1,(.r 201)),(2,(.r 202)),(3,(.r 203)),(4,(.r 204))]),mv 27 205]<|sq (so [op 28 (.ay (.c (.int .i64 0)))]<|.block 0 (.loop (sq (so [mv 206 28,mv 207 27,fm 208 207,b2 209 .lss 206 208]<|cx 209 0)<|sq (.block 1 (so [op 29 (.ay (.c (.int .i64 0)))]<|.block 2 (.loop (sq (so [mv 212 29,mv 213 21,b2 214 .lss 212 213]<|cx 214 2)<|sq (.block 3 (.ops [mv 217 27,mv 218 28,ia 219 1 217 218,l1 220 219,mv 221 29,mv 222 28,op 223 (.bin .add (.c (.int .i64 1)) (.r 222)),op 224 (.iC .u8 (.r 223)),ia 225 1 220 221,se 1 225 224]))<|.ops [mv 215 29,op 216 (.bin .add (.r 215) (.c (.int .i64 1))),mv 29 216]))))<|.ops [mv 210 28,op 211 (.bin .add (.r 210) (.c (.int .i64 1))),mv 28 211])))<|sq (so [op 30 (.ay (.c (.int .i64 0)))]<|.block 4 (.loop (sq (so [mv 226 30,op 227 (.bin .lss (.r 226) (.c (.int .i64 4)))]<|cx 227 4)<|sq (.block 5 (so [op 31 (.ay (.c (.int .i64 0)))]<|.block 6 (.loop (sq (so [mv 230 31,op 231 (.bin .lss (.r 230) (.c (.int .i64 80)))]<|cx 231 6)<|sq (.block 7 (.ops [mv 234 27,mv 235 30,mv 236 27,mv 237 30,ia 238 1 236 237,l1 239 238,mv 240 30,op 241 (.bin .add (.c (.int .i64 101)) (.r 240)),op 242 (.iC .u8 (.r 241)),op 243 (.oI 1 [.int .u8 0] [(0,(.r 242))]),op 244 (.app 1 1 true (.r 239) (.r 243)),ia 245 1 234 235,se 1 245 244]))<|.ops [mv 232 31,op 233 (.bin .add (.r 232) (.c (.int .i64 1))),mv 31 233]))))<|.ops [mv 228 30,op 229 (.bin .add (.r 228) (.c (.int .i64 1))),mv 30 229])))<|sq (so [op 32 (.ay (.c (.int .i64 0)))]<|.block 8 (.loop (sq (so [mv 246 32,op 247 (.bin .lss (.r 246) (.c (.int .i64 4)))]<|cx 247 8)<|sq (.block 9 (so [op 33 (.ay (.c (.int .i64 0)))]<|.block 10 (.loop (sq (so [mv 250 33,mv 251 27,mv 252 32,ia 253 1 251 252,l1 254 253,fm 255 254,b2 256 .lss 250 255]<|cx 256 10)<|sq (.block 11 (so [mv 259 33,mv 260 21,b2 261 .lss 259 260,mv 262 261,mt 263 27 262,mt 264 32 262,gt 265 262 (.eI 1 (.r 263) (.r 264)),gt 266 262 (.ld 1 false (.r 265)),mt 267 33 262,gt 268 262 (.eI 1 (.r 266) (.r 267)),gt 269 262 (.ld 1 false (.r 268)),mt 270 32 262,gt 271 262 (.bin .add (.c (.int .i64 1)) (.r 270)),gt 272 262 (.iC .u8 (.r 271)),gt 273 262 (.bin .neq (.r 269) (.r 272)),op 274 (.pick (.r 262) (.r 273) (.c (.bool false))),mv 275 274,mf 276 33 275,mf 277 21 275,gf 278 275 (.bin .geq (.r 276) (.r 277)),mf 279 278 275,mt 280 27 279,mt 281 32 279,gt 282 279 (.eI 1 (.r 280) (.r 281)),gt 283 279 (.ld 1 false (.r 282)),mt 284 33 279,gt 285 279 (.eI 1 (.r 283) (.r 284)),gt 286 279 (.ld 1 false (.r 285)),mt 287 32 279,gt 288 279 (.bin .add (.c (.int .i64 101)) (.r 287)),gt 289 279 (.iC .u8 (.r 288)),gt 290 279 (.bin .neq (.r 286) (.r 289)),gf 291 275 (.pick (.r 279) (.r 290) (.c (.bool false))),op 292 (.pick (.r 275) (.c (.bool true)) (.r 291))]<|.cond (.r 292) (so [op 4 (.ay (.c (.bool false)))]<|.ret) (.skip)))<|.ops [mv 257 33,op 258 (.bin .add (.r 257) (.c (.int .i64 1))),mv 33 258]))))<|.ops [mv 248 32,op 249 (.bin .add (.r 248) (.c (.int .i64 1))),mv 32 249])))<|so [mv 294 18,cl 295 10 [(.c (.int .i64 2)),.r 294],mv 293 295,xt 296 0 293,xt 297 1 293,mv 34 296,mv 24 297]<|so [mv 299 11,cl 300 10 [(.c (.int .i64 2)),.r 299],mv 298 300,xt 301 0 298,xt 302 1 298,mv 35 301,mv 26 302]<|so [mv 303 24,op 304 (.bin .eql (.r 303) (.c (.int .i64 0))),mv 305 304,mt 306 26 305,gt 307 305 (.bin .eql (.r 306) (.c (.int .i64 0))),op 308 (.pick (.r 305) (.r 307) (.c (.bool false))),mv 309 308,mt 310 34 309,mt 311 22 309,⟨(some 312),.call 13 [.r 310,.r 311],(some (309,true)),[]⟩,op 313 (.pick (.r 309) (.r 312) (.c (.bool false))),mv 314 313,mt 315 35 314,mt 316 22 314,⟨(some 317),.call 13 [.r 315,.r 316],(some (314,true)),[]⟩,op 318 (.pick (.r 314) (.r 317) (.c (.bool false))),mv 319 318,mt 320 20 319,mt 321 18 319,⟨(some 322),.call 18 [.r 321],(some (319,true)),[]⟩,⟨(some 323),.call 19 [.r 320,.r 322,(.c (.bool true))],(some (319,true)),[]⟩,op 324 (.pick (.r 319) (.r 323) (.c (.bool false))),mv 4 324]<|.ret⟩
def an8:An:=⟨[],[(6,[(0,true),(1,true),(2,true),(3,true),(4,true),(5,true),(6,true),(7,true),(8,true),(9,true),(10,true),(11,true),(12,true),(13,true),(14,true),(15,true),(16,true),(17,true),(18,true),(19,true),(20,true),(22,true),(23,true),(21,false),(24,false),(25,false),(26,true),(27,true)])]⟩
def XP:Go.Rmp.Fn:=⟨141,0,[.t 0],so [op 0 (.ay (.c (.bool false)))]<|so [cl 14 9 [(.c (.sl .nil []))],mv 1 14]<|so [cl 15 26 [],op 16 (.build [.str ⟨#[]⟩,.str ⟨#[]⟩] [(0,1,(.c (.str ⟨#[97]⟩))),(1,1,(.c (.str ⟨#[51]⟩)))]),op 17 (.oI 1 [.str ⟨#[]⟩,.str ⟨#[]⟩] [(0,(.r 16))]),op 18 (.oI 1 [.str ⟨#[]⟩] [(0,(.c (.str ⟨#[97]⟩)))]),op 19 (.build [.int .i64 0,.int .u64 0,.str ⟨#[]⟩,.sl .nil [],.sl .nil [],.int .i64 0] [(0,1,(.c (.int .i64 1))),(1,1,(.c (.int .u64 131072))),(3,1,(.r 17)),(4,1,(.r 18))]),op 20 (.build [.int .i64 0,.int .u64 0,.str ⟨#[]⟩,.sl .nil [],.sl .nil [],.int .i64 0] [(0,1,(.c (.int .i64 2))),(1,1,(.c (.int .u64 131072)))]),op 21 (.oI 2 [.int .i64 0,.int .u64 0,.str ⟨#[]⟩,.sl .nil [],.sl .nil [],.int .i64 0] [(0,(.r 19)),(1,(.r 20))]),op 22 (.app 6 88 false (.r 15) (.r 21)),cl 23 9 [.r 22],mv 2 23]<|sq (so [mv 24 1,op 25 (.mU false .ptr (.r 24) (.c .bR)),mv 26 25,mf 27 2 26,gf 28 26 (.mU false .ptr (.r 27) (.c .bR)),op 29 (.pick (.r 26) (.c (.bool true)) (.r 28))]<|.cond (.r 29) (so [op 0 (.ay (.c (.bool false)))]<|.ret) (.skip))<|so [mv 31 1,cl 32 10 [(.c (.int .i64 1)),.r 31],mv 30 32,xt 33 0 30,xt 34 1 30,mv 3 33,mv 4 34]<|sq (so [mv 35 4,op 36 (.bin .neq (.r 35) (.c (.int .i64 0))),mv 37 36,mf 38 3 37,gf 39 37 (.len .sl (.r 38)),gf 40 37 (.bin .neq (.r 39) (.c (.int .i64 25))),op 41 (.pick (.r 37) (.c (.bool true)) (.r 40)),mv 42 41,mf 43 3 42,gf 44 42 (.eI 1 (.r 43) (.c (.int .i64 0))),gf 45 42 (.ld 1 false (.r 44)),gf 46 42 (.bin .neq (.r 45) (.c (.int .u8 114))),op 47 (.pick (.r 42) (.c (.bool true)) (.r 46)),mv 48 47,mf 49 3 48,gf 50 48 (.eI 1 (.r 49) (.c (.int .i64 12))),gf 51 48 (.ld 1 false (.r 50)),gf 52 48 (.bin .neq (.r 51) (.c (.int .u8 1))),op 53 (.pick (.r 48) (.c (.bool true)) (.r 52)),mv 54 53,mf 55 3 54,mf 57 3 54,gf 58 54 (.fX 1 (.r 57) none (some (.c (.int .i64 21))) none),⟨(some 56),.call 27 [.r 55],(some (54,false)),[]⟩,⟨(some 59),.call 15 [.r 58],(some (54,false)),[]⟩,⟨(some 60),.call 14 [.r 59],(some (54,false)),[]⟩,gf 61 54 (.bin .neq (.r 56) (.r 60)),op 62 (.pick (.r 54) (.c (.bool true)) (.r 61))]<|.cond (.r 62) (so [op 0 (.ay (.c (.bool false)))]<|.ret) (.skip))<|so [mv 64 2,cl 65 10 [(.c (.int .i64 7)),.r 64],mv 63 65,xt 66 0 63,xt 67 1 63,mv 5 66,mv 6 67]<|so [mv 69 5,cl 70 15 [.r 69],cl 71 17 [.r 70,(.c (.int .i64 9))],mv 68 71,xt 72 0 68,xt 73 1 68,xt 74 2 68,mv 7 72,mv 8 73,mv 9 74]<|sq (so [mv 75 6,op 76 (.bin .neq (.r 75) (.c (.int .i64 0))),mv 77 76,mf 78 9 77,gf 79 77 (.bin .neq (.r 78) (.c (.int .i64 0))),op 80 (.pick (.r 77) (.c (.bool true)) (.r 79)),mv 81 80,mf 82 8 81,gf 83 81 (.mU false .ptr (.r 82) (.c .bR)),op 84 (.pick (.r 81) (.c (.bool true)) (.r 83)),mv 85 84,mf 86 7 85,gf 87 85 (.bin .neq (.r 86) (.c (.int .i64 7))),op 88 (.pick (.r 85) (.c (.bool true)) (.r 87))]<|.cond (.r 88) (so [op 0 (.ay (.c (.bool false)))]<|.ret) (.skip))<|so [mv 89 8,cl 90 18 [.r 89],mv 10 90]<|so [mv 92 5,mv 93 5,fm 94 93,op 95 (.bin .sub (.r 94) (.c (.int .i64 1))),op 96 (.fX 1 (.r 92) none (some (.r 95)) none),cl 97 15 [.r 96],cl 98 17 [.r 97,(.c (.int .i64 (-1)))],mv 91 98,xt 99 0 91,xt 100 1 91,xt 101 2 91,mv 11 99,mv 12 100,mv 13 101]<|so [mv 102 10,fm 103 102,op 104 (.bin .eql (.r 103) (.c (.int .i64 3))),mv 105 104,mt 106 10 105,gt 107 105 (.eI 5 (.r 106) (.c (.int .i64 0))),gt 108 105 (.kT 4 (.r 107)),gt 109 105 (.ld 1 false (.r 108)),gt 110 105 (.bin .eql (.r 109) (.c (.int .i64 9))),op 111 (.pick (.r 105) (.r 110) (.c (.bool false))),mv 112 111,mt 113 10 112,gt 114 112 (.eI 5 (.r 113) (.c (.int .i64 1))),gt 115 112 (.kT 4 (.r 114)),gt 116 112 (.ld 1 false (.r 115)),gt 117 112 (.bin .eql (.r 116) (.c (.int .i64 (-1)))),op 118 (.pick (.r 112) (.r 117) (.c (.bool false))),mv 119 118,mt 120 10 119,gt 121 119 (.eI 5 (.r 120) (.c (.int .i64 0))),gt 122 119 (.kT 0 (.r 121)),gt 123 119 (.kT 2 (.r 122)),gt 124 119 (.ld 1 false (.r 123)),gt 125 119 (.bin .eql (.r 124) (.c (.str ⟨#[49]⟩))),op 126 (.pick (.r 119) (.r 125) (.c (.bool false))),mv 127 126,mt 128 8 127,⟨(some 129),.call 20 [.r 128],(some (127,true)),[]⟩,gt 130 127 (.len .sl (.r 129)),gt 131 127 (.bin .eql (.r 130) (.c (.int .i64 2))),op 132 (.pick (.r 127) (.r 131) (.c (.bool false))),mv 133 132,mt 134 12 133,gt 135 133 (.mU false .ptr (.r 134) (.c .bR)),op 136 (.pick (.r 133) (.r 135) (.c (.bool false))),mv 137 136,mt 138 13 137,gt 139 137 (.bin .eql (.r 138) (.c (.int .i64 1))),op 140 (.pick (.r 137) (.r 139) (.c (.bool false))),mv 0 140]<|.ret⟩
def an9:An:=⟨[],[(8,[(0,true),(1,true),(2,true),(3,true),(4,true),(5,true),(7,true),(8,true),(9,true),(11,true),(12,true),(6,false),(10,false),(13,false)])]⟩
def XQ:Go.Rmp.Fn:=⟨56,1,[.t 2],so [op 2 (.ay (.c .bR))]<|so [cl 6 28 [],mv 3 6]<|sq (so [op 4 (.ay (.c (.int .i64 0)))]<|.block 0 (.loop (sq (so [mv 7 4,mv 8 0,fm 9 8,b2 10 .lss 7 9,mv 11 10,mt 12 3 11,gt 13 11 (.mU true .ptr (.r 12) (.c .bR)),op 14 (.pick (.r 11) (.r 13) (.c (.bool false)))]<|cx 14 0)<|sq (.block 1 (so [mv 17 0,mv 18 4,ia 19 6 17 18,ln 20 6 19,op 5 (.alloc [.int .i64 0,.int .u64 0,.str ⟨#[]⟩,.sl .nil [],.sl .nil [],.int .i64 0]),se 6 5 20]<|so [fa 21 0 5,l1 22 21]<|.block 2 (so [op 24 (.bin .eql (.r 22) (.c (.int .i64 1))),mv 23 24]<|.cond (.r 23) (.ops [mv 25 3,fa 26 1 5,l1 27 26,op 28 (.oI 0 [.str ⟨#[]⟩,.str ⟨#[]⟩] []),fa 29 3 5,l1 30 29,op 32 (.oI 0 [.str ⟨#[]⟩] []),fa 33 4 5,l1 34 33,fa 36 5 5,l1 37 36,⟨(some 31),.b (.app 2 32 false (.r 28) (.r 30)),none,[⟨27,.ld 1 false (.r 26),none⟩,⟨34,.ld 1 false (.r 33),none⟩,⟨37,.ld 1 false (.r 36),none⟩]⟩,⟨(some 35),.b (.app 1 16 false (.r 32) (.r 34)),none,[⟨27,.ld 1 false (.r 26),none⟩,⟨37,.ld 1 false (.r 36),none⟩]⟩,cl 38 23 [.r 25,.r 27,.r 31,.r 35,.r 37]]) (so [op 40 (.bin .eql (.r 22) (.c (.int .i64 2))),mv 39 40]<|.cond (.r 39) (.ops [mv 41 3,fa 42 1 5,l1 43 42,fa 44 5 5,l1 45 44,cl 46 24 [.r 41,.r 43,.r 45]]) (so [op 48 (.bin .eql (.r 22) (.c (.int .i64 3))),mv 47 48]<|.cond (.r 47) (.ops [mv 49 3,fa 50 2 5,l1 51 50,fa 52 1 5,l1 53 52,cl 54 25 [.r 49,.r 51,.r 53]]) (.skip))))))<|.ops [mv 15 4,op 16 (.bin .add (.r 15) (.c (.int .i64 1))),mv 4 16])))<|so [mv 55 3,mv 2 55]<|.ret⟩
def XR:An:=⟨[(28,3)],[]⟩
def NT:Go.Rmp.Fn:=⟨98,2,[.t 4,.t 5],so [op 4 (.ay (.c (.sl .nil []))),op 5 (.ay (.c (.int .i64 0)))]<|sq (so [mv 15 1,op 16 (.mU false .ptr (.r 15) (.c .bR)),mv 17 16,mf 18 0 17,gf 19 17 (.bin .lss (.r 18) (.c (.int .i64 1))),op 20 (.pick (.r 17) (.c (.bool true)) (.r 19))]<|.cond (.r 20) (so [op 4 (.ay (.c (.sl .nil []))),op 5 (.ay (.c (.int .i64 1)))]<|.ret) (.skip))<|so [cl 21 29 [(.c (.int .i64 2147483647))],mv 6 21]<|so [mv 22 6,cl 23 30 [.r 22,(.c (.int .u32 1918987632))]]<|so [mv 24 6,cl 25 31 [.r 24,(.c (.int .u8 1))]]<|so [mv 26 6,mv 27 0,op 28 (.iC .u64 (.r 27)),cl 29 32 [.r 26,.r 28]]<|so [mv 30 1,cl 31 20 [.r 30],mv 7 31]<|so [mv 32 6,mv 33 7,fm 34 33,op 35 (.iC .u32 (.r 34)),cl 36 30 [.r 32,.r 35]]<|sq (so [mv 37 7,fm 38 37,op 39 (.ay (.c (.int .i64 0)))]<|.block 0 (.loop (so [b2 40 .lss 39 38]<|sq (cx 40 0)<|sq (.block 1 (so [ia 41 2 37 39,ln 42 2 41,op 9 (.alloc [.str ⟨#[]⟩,.int .u64 0]),se 2 9 42]<|so [mv 43 6,fa 44 0 9,l1 45 44,cl 46 33 [.r 43,.r 45]]<|.ops [mv 47 6,fa 48 1 9,l1 49 48,cl 50 32 [.r 47,.r 49]]))<|.ops [op 51 (.bin .add (.r 39) (.c (.int .i64 1))),mv 39 51])))<|so [mv 52 1,cl 53 18 [.r 52],mv 10 53]<|so [mv 54 6,mv 55 10,fm 56 55,op 57 (.iC .u32 (.r 56)),cl 58 30 [.r 54,.r 57]]<|sq (so [mv 59 10,fm 60 59,op 61 (.ay (.c (.int .i64 0)))]<|.block 2 (.loop (so [b2 62 .lss 61 60]<|sq (cx 62 2)<|sq (.block 3 (so [ia 63 5 59 61,ln 64 5 63,op 12 (.alloc [.str ⟨#[]⟩,.int .u64 0,.str ⟨#[]⟩,.sl .nil [],.int .i64 0]),se 5 12 64]<|so [mv 65 6,fa 66 0 12,fa 67 0 66,l1 68 67,cl 69 33 [.r 65,.r 68]]<|so [mv 70 6,fa 71 0 12,fa 72 1 71,l1 73 72,cl 74 32 [.r 70,.r 73]]<|so [mv 75 6,fa 76 0 12,fa 77 2 76,l1 78 77,cl 79 33 [.r 75,.r 78]]<|.ops [mv 80 6,fa 81 0 12,fa 82 3 81,l1 83 82,cl 84 34 [.r 80,.r 83]]))<|.ops [op 85 (.bin .add (.r 61) (.c (.int .i64 1))),mv 61 85])))<|so [mv 87 6,cl 88 35 [.r 87],mv 86 88,xt 89 0 86,xt 90 1 86,mv 13 89,mv 14 90]<|sq (so [mv 91 14,op 92 (.bin .neq (.r 91) (.c (.int .i64 0)))]<|.cond (.r 92) (so [mv 93 14,op 4 (.ay (.c (.sl .nil []))),mv 5 93]<|.ret) (.skip))<|so [mv 94 13,mv 95 13,cl 96 36 [.r 95],op 97 (.app 1 1 true (.r 94) (.r 96)),mv 4 97,op 5 (.ay (.c (.int .i64 0)))]<|.ret⟩
def XS:An:=⟨[],[]⟩
def JX:Go.Rmp.Fn:=⟨10,2,[.t 4],so [op 4 (.ay (.c (.bool false)))]<|so [mv 5 0,op 6 (.uC (.r 5)),mv 7 1,op 8 (.uC (.r 7)),b2 9 .eql 6 8,mv 4 9]<|.ret⟩
def XT:An:=⟨[],[]⟩
def NU:Go.Rmp.Fn:=⟨5,1,[.t 2],so [op 2 (.ay (.c (.int .u32 0)))]<|so [mv 3 0,cl 4 46 [(.c (.int .u32 0)),.r 3],mv 2 4]<|.ret⟩
def XU:An:=⟨[(1,0),(1,2)],[]⟩
def NV:Go.Rmp.Fn:=⟨6,1,[.t 2],so [op 2 (.ay (.c (.sl .nil [])))]<|so [op 3 (.MK 0 [.int .u8 0] []),mv 4 0,op 5 (.app 1 1 true (.r 3) (.r 4)),mv 2 5]<|.ret⟩
def XV:An:=⟨[],[(4,[(0,true),(1,true),(2,true),(3,true),(4,true),(5,true),(8,true),(9,true),(10,true),(11,true),(6,false),(7,true),(12,true),(13,true)])]⟩
def Ca:Go.Rmp.Fn:=⟨120,2,[.t 4,.t 5,.t 6],so [op 4 (.ay (.c (.int .i64 0))),op 5 (.ay (.c .bR)),op 6 (.ay (.c (.int .i64 0)))]<|sq (so [mv 20 1,op 21 (.bin .lss (.r 20) (.c (.int .i64 0))),mv 22 21,mf 23 1 22,gf 24 22 (.bin .gtr (.r 23) (.c (.int .i64 1099511627776))),op 25 (.pick (.r 22) (.c (.bool true)) (.r 24))]<|.cond (.r 25) (so [op 4 (.ay (.c (.int .i64 0))),op 5 (.ay (.c .bR)),op 6 (.ay (.c (.int .i64 1)))]<|.ret) (.skip))<|so [mv 26 0,fm 27 26,op 28 (.bin .sub (.r 27) (.c (.int .i64 4))),mv 7 28]<|sq (so [mv 29 7,op 30 (.bin .lss (.r 29) (.c (.int .i64 0))),mv 31 30,mf 32 0 31,mf 33 7 31,gf 34 31 (.fX 1 (.r 32) none (some (.r 33)) none),mf 37 0 31,mf 38 7 31,gf 39 31 (.fX 1 (.r 37) (some (.r 38)) none none),gf 40 31 (.uC (.r 39)),⟨(some 35),.call 36 [.r 34],(some (31,false)),[⟨40,.uC (.r 39),(some (31,false))⟩]⟩,gf 36 31 (.uC (.r 35)),gf 41 31 (.bin .neq (.r 36) (.r 40)),op 42 (.pick (.r 31) (.c (.bool true)) (.r 41))]<|.cond (.r 42) (so [op 4 (.ay (.c (.int .i64 0))),op 5 (.ay (.c .bR)),op 6 (.ay (.c (.int .i64 90)))]<|.ret) (.skip))<|so [mv 43 0,mv 44 7,op 45 (.fX 1 (.r 43) none (some (.r 44)) none),cl 46 48 [.r 45],mv 8 46]<|so [mv 47 8,cl 48 49 [.r 47],mv 49 8,cl 50 50 [.r 49],mv 51 8,cl 52 51 [.r 51],mv 9 48,mv 10 50,mv 11 52]<|sq (so [mv 53 9,op 54 (.bin .neq (.r 53) (.c (.int .u32 1918987632))),mv 55 54,mf 56 10 55,gf 57 55 (.bin .neq (.r 56) (.c (.int .u8 1))),op 58 (.pick (.r 55) (.c (.bool true)) (.r 57)),mv 59 58,mf 60 11 59,gf 61 59 (.bin .lss (.r 60) (.c (.int .u64 1))),op 62 (.pick (.r 59) (.c (.bool true)) (.r 61)),mv 63 62,mf 64 11 63,gf 65 63 (.bin .gtr (.r 64) (.c (.int .u64 9223372036854775807))),op 66 (.pick (.r 63) (.c (.bool true)) (.r 65))]<|.cond (.r 66) (so [op 4 (.ay (.c (.int .i64 0))),op 5 (.ay (.c .bR)),op 6 (.ay (.c (.int .i64 2)))]<|.ret) (.skip))<|so [mv 68 8,cl 69 52 [.r 68],mv 67 69,xt 70 0 67,xt 71 1 67,mv 12 70,mv 13 71]<|so [op 14 (.ay (.c (.sl .nil [])))]<|sq (so [mv 72 8,cl 73 53 [.r 72,(.c (.int .i64 2147483647))],mv 15 73]<|.block 0 (.loop (sq (so [mv 74 15,op 75 (.bin .gtr (.r 74) (.c (.int .i64 0))),mv 76 75,mt 77 8 76,⟨(some 78),.call 54 [.r 77],(some (76,true)),[]⟩,gt 79 76 (.bin .eql (.r 78) (.c (.int .i64 0))),op 80 (.pick (.r 76) (.r 79) (.c (.bool false)))]<|cx 80 0)<|sq (.block 1 (so [mv 83 8,cl 84 55 [.r 83,(.c (.int .i64 65535))],mv 85 8,cl 86 51 [.r 85],mv 87 8,cl 88 55 [.r 87,(.c (.int .i64 65535))],mv 89 8,cl 90 56 [.r 89,(.c (.int .i64 1024)),(.c (.int .i64 65535))],op 91 (.build [.str ⟨#[]⟩,.int .u64 0,.str ⟨#[]⟩,.sl .nil []] [(0,1,(.r 84)),(1,1,(.r 86)),(2,1,(.r 88)),(3,1,(.r 90))]),op 16 (.alloc [.str ⟨#[]⟩,.int .u64 0,.str ⟨#[]⟩,.sl .nil []]),se 4 16 91]<|so [op 17 (.ay (.c (.int .i64 (-1))))]<|sq (so [fa 92 1 16,l1 93 92,mv 94 13,fa 95 0 16,l1 96 95,op 97 (.nB (.sc .str) (.int .u64 0) false (.r 94) (.r 96)),b2 98 .lss 93 97]<|.cond (.r 98) (.ops [mv 99 1,mv 17 99]) (.skip))<|.ops [mv 100 14,ln 101 4 16,mv 102 17,op 103 (.build [.str ⟨#[]⟩,.int .u64 0,.str ⟨#[]⟩,.sl .nil [],.int .i64 0] [(0,4,(.r 101)),(4,1,(.r 102))]),op 104 (.oI 1 [.str ⟨#[]⟩,.int .u64 0,.str ⟨#[]⟩,.sl .nil [],.int .i64 0] [(0,(.r 103))]),op 105 (.app 5 72 false (.r 100) (.r 104)),mv 14 105]))<|.ops [mv 81 15,op 82 (.bin .sub (.r 81) (.c (.int .i64 1))),mv 15 82])))<|sq (so [mv 106 8,cl 107 57 [.r 106],op 108 (.bin .neq (.r 107) (.c (.int .i64 0)))]<|.cond (.r 108) (so [op 4 (.ay (.c (.int .i64 0))),op 5 (.ay (.c .bR)),op 6 (.ay (.c (.int .i64 2)))]<|.ret) (.skip))<|so [mv 110 14,mv 111 12,cl 112 58 [.r 110,.r 111],mv 109 112,xt 113 0 109,xt 114 1 109,mv 18 113,mv 19 114]<|sq (so [mv 115 19,op 116 (.bin .neq (.r 115) (.c (.int .i64 0)))]<|.cond (.r 116) (so [op 4 (.ay (.c (.int .i64 0))),op 5 (.ay (.c .bR)),op 6 (.ay (.c (.int .i64 2)))]<|.ret) (.skip))<|so [mv 117 11,op 118 (.iC .i64 (.r 117)),mv 119 18,mv 4 118,mv 5 119,op 6 (.ay (.c (.int .i64 0)))]<|.ret⟩
def XW:An:=⟨[],[(5,[(0,true),(1,true),(2,true),(4,true),(5,true),(6,true),(7,true),(8,true),(9,true),(10,true),(3,false),(11,true),(12,true),(13,false),(14,false)])]⟩
def NW:Go.Rmp.Fn:=⟨33,1,[.t 2],so [op 2 (.ay (.c (.sl .nil [])))]<|so [op 3 (.ay (.c (.sl .nil [])))]<|sq (so [mv 6 0,nc 7 6,fa 8 0 7,l1 9 8,cl 10 60 [.r 9],cl 11 59 [.r 10,(.c (.fn 61 []))],fm 12 11,op 13 (.ay (.c (.int .i64 0)))]<|.block 0 (.loop (so [b2 14 .lss 13 12]<|sq (cx 14 0)<|sq (.block 1 (so [ia 15 2 11 13,ln 16 2 15,op 5 (.alloc [.str ⟨#[]⟩,.int .u64 0]),se 2 5 16]<|.ops [mv 17 3,mv 18 0,ln 19 2 5,mv 21 0,nc 22 21,fa 23 0 22,l1 24 23,ln 25 2 5,op 26 (.nB (.st [.str,.int]) (.agg [.str ⟨#[]⟩,.sl .nil [],.int .i64 0]) false (.r 24) (.r 25)),op 27 (.QT 2 1 false (.r 26)),⟨(some 20),.call 62 [.r 18,.r 19],none,[⟨24,.ld 1 false (.r 23),none⟩,⟨25,.ld 2 true (.r 5),none⟩,⟨26,.nB (.st [.str,.int]) (.agg [.str ⟨#[]⟩,.sl .nil [],.int .i64 0]) false (.r 24) (.r 25),none⟩]⟩,op 28 (.build [.str ⟨#[]⟩,.int .u64 0,.str ⟨#[]⟩,.sl .nil [],.int .i64 0] [(0,4,(.r 20)),(4,1,(.r 27))]),op 29 (.oI 1 [.str ⟨#[]⟩,.int .u64 0,.str ⟨#[]⟩,.sl .nil [],.int .i64 0] [(0,(.r 28))]),op 30 (.app 5 72 false (.r 17) (.r 29)),mv 3 30]))<|.ops [op 31 (.bin .add (.r 13) (.c (.int .i64 1))),mv 13 31])))<|so [mv 32 3,mv 2 32]<|.ret⟩
def XX:An:=⟨[],[(8,[(0,true),(1,true),(2,true),(3,true),(4,true),(5,true),(6,true),(7,true),(8,true),(9,true),(10,true),(11,true),(12,true),(13,true),(14,true),(15,true),(16,true),(17,true),(18,true),(19,true),(20,true),(21,true),(22,true),(23,true),(24,false),(25,true),(26,true),(27,true),(28,true),(29,true),(30,true),(31,true),(32,true),(33,true),(34,true),(35,true),(36,true),(37,true),(38,true),(39,true),(40,true),(41,true),(42,true)])]⟩
def NX:Go.Rmp.Fn:=⟨74,3,[.t 6],so [op 6 (.ay (.c (.bool false)))]<|sq (so [mv 10 0,fm 11 10,mv 12 1,fm 13 12,b2 14 .neq 11 13]<|.cond (.r 14) (so [op 6 (.ay (.c (.bool false)))]<|.ret) (.skip))<|sq (so [op 7 (.ay (.c (.int .i64 0)))]<|.block 0 (.loop (sq (so [mv 15 7,mv 16 0,fm 17 16,b2 18 .lss 15 17]<|cx 18 0)<|sq (.block 1 (so [mv 21 0,mv 22 7,ia 23 5 21 22,fa 24 0 23,ln 25 4 24,op 8 (.alloc [.str ⟨#[]⟩,.int .u64 0,.str ⟨#[]⟩,.sl .nil []]),se 4 8 25]<|so [mv 26 1,mv 27 7,ia 28 5 26 27,fa 29 0 28,ln 30 4 29,op 9 (.alloc [.str ⟨#[]⟩,.int .u64 0,.str ⟨#[]⟩,.sl .nil []]),se 4 9 30]<|so [fa 31 0 8,l1 32 31,fa 33 0 9,l1 34 33,b2 35 .neq 32 34,mv 36 35,gf 37 36 (.kT 1 (.r 8)),gf 38 36 (.ld 1 false (.r 37)),gf 39 36 (.kT 1 (.r 9)),gf 40 36 (.ld 1 false (.r 39)),gf 41 36 (.bin .neq (.r 38) (.r 40)),op 42 (.pick (.r 36) (.c (.bool true)) (.r 41)),mv 43 42,gf 44 43 (.kT 2 (.r 8)),gf 45 43 (.ld 1 false (.r 44)),gf 46 43 (.kT 2 (.r 9)),gf 47 43 (.ld 1 false (.r 46)),gf 48 43 (.bin .neq (.r 45) (.r 47)),op 49 (.pick (.r 43) (.c (.bool true)) (.r 48)),mv 50 49,gf 51 50 (.kT 3 (.r 8)),gf 52 50 (.ld 1 false (.r 51)),gf 53 50 (.kT 3 (.r 9)),gf 54 50 (.ld 1 false (.r 53)),⟨(some 55),.call 63 [.r 52,.r 54],(some (50,false)),[]⟩,gf 56 50 (.un .not (.r 55)),op 57 (.pick (.r 50) (.c (.bool true)) (.r 56)),mv 58 57,mf 59 2 58,mf 60 59 58,mt 61 0 60,mt 62 7 60,gt 63 60 (.eI 5 (.r 61) (.r 62)),gt 64 60 (.kT 4 (.r 63)),gt 65 60 (.ld 1 false (.r 64)),mt 66 1 60,mt 67 7 60,gt 68 60 (.eI 5 (.r 66) (.r 67)),gt 69 60 (.kT 4 (.r 68)),gt 70 60 (.ld 1 false (.r 69)),gt 71 60 (.bin .neq (.r 65) (.r 70)),gf 72 58 (.pick (.r 60) (.r 71) (.c (.bool false))),op 73 (.pick (.r 58) (.c (.bool true)) (.r 72))]<|.cond (.r 73) (so [op 6 (.ay (.c (.bool false)))]<|.ret) (.skip)))<|.ops [mv 19 7,op 20 (.bin .add (.r 19) (.c (.int .i64 1))),mv 7 20])))<|so [op 6 (.ay (.c (.bool true)))]<|.ret⟩
def XY:An:=⟨[],[]⟩
def NY:Go.Rmp.Fn:=⟨30,1,[.t 2],so [op 2 (.ay (.c (.sl .nil [])))]<|so [op 3 (.ay (.c (.sl .nil [])))]<|sq (so [mv 6 0,nc 7 6,fa 8 3 7,l1 9 8,cl 10 65 [.r 9],cl 11 64 [.r 10],fm 12 11,op 13 (.ay (.c (.int .i64 0)))]<|.block 0 (.loop (so [b2 14 .lss 13 12]<|sq (cx 14 0)<|sq (.block 1 (so [ia 15 1 11 13,l1 16 15,mv 5 16]<|.ops [mv 17 3,mv 18 5,mv 19 0,nc 20 19,fa 21 3 20,l1 22 21,mv 23 5,op 24 (.nB (.sc .str) (.int .u64 0) false (.r 22) (.r 23)),op 25 (.build [.str ⟨#[]⟩,.int .u64 0] [(0,1,(.r 18)),(1,1,(.r 24))]),op 26 (.oI 1 [.str ⟨#[]⟩,.int .u64 0] [(0,(.r 25))]),op 27 (.app 2 24 false (.r 17) (.r 26)),mv 3 27]))<|.ops [op 28 (.bin .add (.r 13) (.c (.int .i64 1))),mv 13 28])))<|so [mv 29 3,mv 2 29]<|.ret⟩
def XZ:An:=⟨[],[(8,[(0,true),(1,true),(2,true),(3,true),(4,true),(5,true),(6,true),(7,true),(8,true),(9,true),(10,false),(11,true)]),(12,[(0,true),(1,true),(2,true),(3,true),(4,true),(5,true),(6,true),(7,true),(8,true)]),(14,[(0,true),(1,true),(2,true),(3,true),(4,true),(6,true),(5,false),(7,true),(8,false)])]⟩
def JY:Go.Rmp.Fn:=⟨70,5,[.t 10,.t 11],so [op 10 (.ay (.c (.bool false))),op 11 (.ay (.c (.int .i64 0)))]<|sq (so [mv 19 1,mv 20 2,mv 21 3,cl 22 66 [.r 19,.r 20,.r 21],op 23 (.un .not (.r 22)),mv 24 23,mf 25 4 24,⟨(some 26),.call 67 [.r 25],(some (24,false)),[]⟩,gf 27 24 (.un .not (.r 26)),op 28 (.pick (.r 24) (.c (.bool true)) (.r 27))]<|.cond (.r 28) (so [op 10 (.ay (.c (.bool false))),op 11 (.ay (.c (.int .i64 1)))]<|.ret) (.skip))<|so [op 12 (.ay (.c (.bool false)))]<|sq (so [mv 29 2,fm 30 29,op 31 (.ay (.c (.int .i64 0)))]<|.block 0 (.loop (so [b2 32 .lss 31 30]<|sq (cx 32 0)<|sq (.block 1 (so [ia 33 2 29 31,ln 34 2 33,op 14 (.alloc [.str ⟨#[]⟩,.str ⟨#[]⟩]),se 2 14 34]<|so [fa 35 0 14,l1 36 35,mv 37 1,op 38 (.build [.str ⟨#[]⟩,.int .u64 0] [(0,1,(.r 36)),(1,1,(.r 37))]),op 15 (.alloc [.str ⟨#[]⟩,.int .u64 0]),se 2 15 38]<|sq (so [mv 40 0,nc 41 40,fa 42 0 41,l1 43 42,ln 44 2 15,op 45 (.nB (.st [.str,.int]) (.agg [.str ⟨#[]⟩,.sl .nil [],.int .i64 0]) true (.r 43) (.r 44)),mv 39 45,xt 46 0 39,xt 47 1 39,op 16 (.alloc [.str ⟨#[]⟩,.sl .nil [],.int .i64 0]),se 3 16 46,mv 17 47]<|so [mv 48 17]<|.cond (.r 48) (.exit 1) (.skip))<|so [op 12 (.ay (.c (.bool true)))]<|so [op 18 (.ay (.c (.int .i64 (-1))))]<|sq (so [mv 49 1,mv 50 0,nc 51 50,fa 52 3 51,l1 53 52,fa 54 0 14,l1 55 54,op 56 (.nB (.sc .str) (.int .u64 0) false (.r 53) (.r 55)),b2 57 .lss 49 56]<|.cond (.r 57) (.ops [mv 58 4,mv 18 58]) (.skip))<|.ops [mv 59 0,ln 60 2 15,fa 61 1 14,l1 62 61,mv 63 3,mv 65 18,⟨(some 64),.call 69 [.r 63],none,[⟨60,.ld 2 true (.r 15),none⟩,⟨62,.ld 1 false (.r 61),none⟩]⟩,op 66 (.build [.str ⟨#[]⟩,.sl .nil [],.int .i64 0] [(0,1,(.r 62)),(1,1,(.r 64)),(2,1,(.r 65))]),cl 67 68 [.r 59,.r 60,.r 66]]))<|.ops [op 68 (.bin .add (.r 31) (.c (.int .i64 1))),mv 31 68])))<|so [mv 69 12,mv 10 69,op 11 (.ay (.c (.int .i64 0)))]<|.ret⟩
def X0:An:=⟨[],[(15,[(0,true),(1,true),(2,true),(3,true),(4,true),(5,true),(6,true),(7,true),(8,false)])]⟩
def Ft:Go.Rmp.Fn:=⟨89,3,[.t 6,.t 7],so [op 6 (.ay (.c (.int .i64 0))),op 7 (.ay (.c (.int .i64 0)))]<|sq (so [mv 13 1,op 14 (.bin .lss (.r 13) (.c (.int .u64 65536))),mv 15 14,mf 16 2 15,⟨(some 17),.call 67 [.r 16],(some (15,false)),[]⟩,gf 18 15 (.un .not (.r 17)),op 19 (.pick (.r 15) (.c (.bool true)) (.r 18))]<|.cond (.r 19) (so [op 6 (.ay (.c (.int .i64 0))),op 7 (.ay (.c (.int .i64 1)))]<|.ret) (.skip))<|sq (so [mv 20 0,nc 21 20,fa 22 2 21,l1 23 22,mv 24 1,op 25 (.nB (.sc .int) (.sl .nil []) false (.r 23) (.r 24)),fm 26 25,op 27 (.ay (.c (.int .i64 0)))]<|.block 0 (.loop (so [b2 28 .lss 27 26]<|sq (cx 28 0)<|sq (.block 1 (so [ia 29 1 25 27,l1 30 29,mv 9 30]<|sq (so [mv 31 0,nc 32 31,fa 33 3 32,l1 34 33,mv 35 9,op 36 (.nB (.sc .str) (.int .u64 0) false (.r 34) (.r 35)),mv 37 1,b2 38 .geq 36 37]<|.cond (.r 38) (.exit 1) (.skip))<|so [mv 39 0,nc 40 39,fa 41 3 40,l1 42 41,mv 43 9,mv 44 1,ef (.zD (.sc .str) (.r 42) (.r 43) (.r 44))]<|so [mv 45 0,nc 46 45,fa 47 1 46,l1 48 47,mv 49 9,op 50 (.nB (.sc .str) (.sl .nil []) false (.r 48) (.r 49)),fm 51 50,op 52 (.ay (.c (.int .i64 0)))]<|.block 2 (.loop (so [b2 53 .lss 52 51]<|sq (cx 53 2)<|sq (.block 3 (so [ia 54 1 50 52,l1 55 54,mv 11 55]<|sq (so [mv 56 11,mv 57 1,b2 58 .geq 56 57]<|.cond (.r 58) (.exit 2) (.skip))<|so [mv 59 0,nc 60 59,fa 61 0 60,l1 62 61,mv 63 9,mv 64 11,op 65 (.build [.str ⟨#[]⟩,.int .u64 0] [(0,1,(.r 63)),(1,1,(.r 64))]),op 66 (.nB (.st [.str,.int]) (.agg [.str ⟨#[]⟩,.sl .nil [],.int .i64 0]) false (.r 62) (.r 65)),op 12 (.alloc [.str ⟨#[]⟩,.sl .nil [],.int .i64 0]),se 3 12 66]<|so [fa 67 2 12,l1 68 67,op 69 (.bin .eql (.r 68) (.c (.int .i64 (-1))))]<|.cond (.r 69) (so [mv 70 2,fa 71 2 12,se 1 71 70]<|.ops [mv 72 0,nc 73 72,fa 74 0 73,l1 75 74,mv 76 9,mv 77 11,op 78 (.build [.str ⟨#[]⟩,.int .u64 0] [(0,1,(.r 76)),(1,1,(.r 77))]),ln 79 3 12,ef (.zD (.st [.str,.int]) (.r 75) (.r 78) (.r 79))]) (.skip)))<|.ops [op 80 (.bin .add (.r 52) (.c (.int .i64 1))),mv 52 80]))))<|.ops [op 81 (.bin .add (.r 27) (.c (.int .i64 1))),mv 27 81])))<|so [mv 82 0,nc 83 82,fa 84 2 83,l1 85 84,mv 86 1,op 87 (.nB (.sc .int) (.sl .nil []) false (.r 85) (.r 86)),fm 88 87,mv 6 88,op 7 (.ay (.c (.int .i64 0)))]<|.ret⟩
def X1:An:=⟨[],[(2,[(0,true),(1,true),(2,true),(3,true),(4,true),(5,true),(6,true),(7,true),(8,true),(9,true),(10,false),(11,true)]),(7,[(0,true),(1,true),(2,true),(3,true),(4,true),(5,false)]),(8,[(0,true),(1,true),(2,true),(3,true),(4,true),(5,true),(6,true),(7,true),(8,true),(9,true),(10,true),(11,true),(12,false),(13,false)]),(9,[(0,true),(1,true),(2,true),(3,true),(4,true),(5,true),(6,true),(7,true),(8,true),(9,true),(10,true),(11,true),(12,false),(13,false)])]⟩
def Fu:Go.Rmp.Fn:=⟨71,3,[.t 6],so [op 6 (.ay (.c (.int .i64 0)))]<|so [mv 10 1,mv 11 2,op 12 (.build [.str ⟨#[]⟩,.int .u64 0] [(0,1,(.r 10)),(1,1,(.r 11))]),op 7 (.alloc [.str ⟨#[]⟩,.int .u64 0]),se 2 7 12]<|so [mv 14 0,nc 15 14,fa 16 0 15,l1 17 16,ln 18 2 7,op 19 (.nB (.st [.str,.int]) (.agg [.str ⟨#[]⟩,.sl .nil [],.int .i64 0]) true (.r 17) (.r 18)),mv 13 19,xt 20 0 13,xt 21 1 13,op 8 (.alloc [.str ⟨#[]⟩,.sl .nil [],.int .i64 0]),se 3 8 20,mv 9 21]<|sq (so [mv 22 9,op 23 (.un .not (.r 22))]<|.cond (.r 23) (so [op 6 (.ay (.c (.int .i64 110)))]<|.ret) (.skip))<|sq (so [fa 24 2 8,l1 25 24,op 26 (.bin .eql (.r 25) (.c (.int .i64 (-1))))]<|.cond (.r 26) (so [op 6 (.ay (.c (.int .i64 1)))]<|.ret) (.skip))<|so [mv 27 0,nc 28 27,fa 29 0 28,l1 30 29,ln 31 2 7,ef (.del (.st [.str,.int]) (.r 30) (.r 31))]<|so [mv 32 0,nc 33 32,fa 34 1 33,l1 35 34,mv 36 1,mv 37 0,nc 38 37,fa 39 1 38,l1 40 39,mv 41 1,op 42 (.nB (.sc .str) (.sl .nil []) false (.r 40) (.r 41)),mv 43 2,⟨(some 44),.call 70 [.r 42,.r 43],none,[⟨35,.ld 1 false (.r 34),none⟩]⟩,ef (.zD (.sc .str) (.r 35) (.r 36) (.r 44))]<|so [mv 45 0,nc 46 45,fa 47 2 46,l1 48 47,mv 49 2,mv 50 0,nc 51 50,fa 52 2 51,l1 53 52,mv 54 2,op 55 (.nB (.sc .int) (.sl .nil []) false (.r 53) (.r 54)),mv 56 1,⟨(some 57),.call 71 [.r 55,.r 56],none,[⟨48,.ld 1 false (.r 47),none⟩]⟩,ef (.zD (.sc .int) (.r 48) (.r 49) (.r 57))]<|sq (so [mv 58 0,nc 59 58,fa 60 2 59,l1 61 60,mv 62 2,op 63 (.nB (.sc .int) (.sl .nil []) false (.r 61) (.r 62)),fm 64 63,op 65 (.bin .eql (.r 64) (.c (.int .i64 0)))]<|.cond (.r 65) (.ops [mv 66 0,nc 67 66,fa 68 2 67,l1 69 68,mv 70 2,ef (.del (.sc .int) (.r 69) (.r 70))]) (.skip))<|so [op 6 (.ay (.c (.int .i64 0)))]<|.ret⟩
def X2:An:=⟨[],[]⟩
def NZ:Go.Rmp.Fn:=⟨8,0,[.t 0],so [op 0 (.ay (.c (.sl .nil [])))]<|so [op 1 (.build [.str ⟨#[]⟩,.str ⟨#[]⟩] [(0,1,(.c (.str ⟨#[97]⟩))),(1,1,(.c (.str ⟨#[49]⟩)))]),op 2 (.build [.str ⟨#[]⟩,.str ⟨#[]⟩] [(0,1,(.c (.str ⟨#[98]⟩))),(1,1,(.c (.str ⟨#[50]⟩)))]),op 3 (.oI 2 [.str ⟨#[]⟩,.str ⟨#[]⟩] [(0,(.r 1)),(1,(.r 2))]),op 4 (.oI 2 [.str ⟨#[]⟩] [(0,(.c (.str ⟨#[97]⟩))),(1,(.c (.str ⟨#[98]⟩)))]),op 5 (.build [.int .i64 0,.int .u64 0,.str ⟨#[]⟩,.sl .nil [],.sl .nil [],.int .i64 0] [(0,1,(.c (.int .i64 1))),(1,1,(.c (.int .u64 65536))),(3,1,(.r 3)),(4,1,(.r 4))]),op 6 (.build [.int .i64 0,.int .u64 0,.str ⟨#[]⟩,.sl .nil [],.sl .nil [],.int .i64 0] [(0,1,(.c (.int .i64 2))),(1,1,(.c (.int .u64 65536)))]),op 7 (.oI 2 [.int .i64 0,.int .u64 0,.str ⟨#[]⟩,.sl .nil [],.sl .nil [],.int .i64 0] [(0,(.r 5)),(1,(.r 6))]),mv 0 7]<|.ret⟩
def X3:An:=⟨[],[(2,[(0,true),(1,true),(2,true),(3,true),(4,true),(5,true),(6,true),(7,true),(8,true),(9,true),(10,true),(11,true),(12,true),(13,true),(14,true),(15,true),(16,true),(17,true),(18,true),(19,true),(20,true),(21,true),(22,true),(23,true),(24,true),(25,true),(26,true),(27,true),(28,true),(29,true),(30,true)])]⟩
def N0:Go.Rmp.Fn:=⟨36,1,[.t 2],so [op 2 (.ay (.c (.int .u32 0)))]<|so [mv 4 0,fm 5 4,mv 3 5]<|so [mv 6 0,mv 7 3,op 8 (.bin .sub (.r 7) (.c (.int .i64 4))),ia 9 1 6 8,l1 10 9,op 11 (.iC .u32 (.r 10)),op 12 (.bin .shl (.r 11) (.c (.int .u64 24))),mv 13 0,mv 14 3,op 15 (.bin .sub (.r 14) (.c (.int .i64 3))),ia 16 1 13 15,l1 17 16,op 18 (.iC .u32 (.r 17)),op 19 (.bin .shl (.r 18) (.c (.int .u64 16))),b2 20 .or 12 19,mv 21 0,mv 22 3,op 23 (.bin .sub (.r 22) (.c (.int .i64 2))),ia 24 1 21 23,l1 25 24,op 26 (.iC .u32 (.r 25)),op 27 (.bin .shl (.r 26) (.c (.int .u64 8))),b2 28 .or 20 27,mv 29 0,mv 30 3,op 31 (.bin .sub (.r 30) (.c (.int .i64 1))),ia 32 1 29 31,l1 33 32,op 34 (.iC .u32 (.r 33)),b2 35 .or 28 34,mv 2 35]<|.ret⟩
def X4:An:=⟨[],[]⟩
def N1:Go.Rmp.Fn:=⟨7,0,[.t 0],so [op 0 (.ay (.c .bR))]<|so [op 1 (.zC),op 2 (.zC),op 3 (.zC),op 4 (.zC),op 5 (.build [.gA,.gA,.gA,.gA] [(0,1,(.r 1)),(1,1,(.r 2)),(2,1,(.r 3)),(3,1,(.r 4))]),op 6 (.box (.r 5)),mv 0 6]<|.ret⟩
def X5:An:=⟨[],[]⟩
def N2:Go.Rmp.Fn:=⟨7,1,[.t 2],so [op 2 (.ay (.c .bR))]<|so [mv 3 0,op 4 (.mx (.r 3) (.c (.int .i64 0))),op 5 (.build [.int .i64 0,.sl .nil [],.int .i64 0] [(0,1,(.r 4))]),op 6 (.box (.r 5)),mv 2 6]<|.ret⟩
def X6:An:=⟨[],[]⟩
def N3:Go.Rmp.Fn:=⟨10,2,[],so [mv 4 0,cl 5 72 [.r 4,(.c (.int .i64 4))]]<|.cond (.r 5) (.ops [mv 6 0,mv 7 1,op 8 (.iC .u64 (.r 7)),cl 9 73 [.r 6,.r 8,(.c (.int .i64 4))]]) (.skip)⟩
def X7:An:=⟨[],[]⟩
def N4:Go.Rmp.Fn:=⟨10,2,[],so [mv 4 0,cl 5 72 [.r 4,(.c (.int .i64 1))]]<|.cond (.r 5) (.ops [mv 6 0,mv 7 1,op 8 (.iC .u64 (.r 7)),cl 9 73 [.r 6,.r 8,(.c (.int .i64 1))]]) (.skip)⟩
def X8:An:=⟨[],[]⟩
def N5:Go.Rmp.Fn:=⟨9,2,[],so [mv 4 0,cl 5 72 [.r 4,(.c (.int .i64 8))]]<|.cond (.r 5) (.ops [mv 6 0,mv 7 1,cl 8 73 [.r 6,.r 7,(.c (.int .i64 8))]]) (.skip)⟩
def X9:An:=⟨[],[]⟩
def N6:Go.Rmp.Fn:=⟨23,2,[],so [mv 4 0,mv 5 1,op 6 (.len .str (.r 5)),op 7 (.bin .add (.c (.int .i64 4)) (.r 6)),cl 8 72 [.r 4,.r 7]]<|.cond (.r 8) (so [mv 9 0,mv 10 1,op 11 (.len .str (.r 10)),op 12 (.iC .u64 (.r 11)),cl 13 73 [.r 9,.r 12,(.c (.int .i64 4))]]<|.ops [mv 14 0,mv 15 0,nc 16 15,fa 17 1 16,l1 18 17,mv 19 1,op 20 (.app 1 1 false (.r 18) (.r 19)),nc 21 14,fa 22 1 21,se 1 22 20]) (.skip)⟩
def Ya:An:=⟨[],[]⟩
def N7:Go.Rmp.Fn:=⟨40,2,[],so [op 4 (.ay (.c (.int .i64 4)))]<|sq (so [mv 9 1,fm 10 9,op 11 (.ay (.c (.int .i64 0)))]<|.block 0 (.loop (so [b2 12 .lss 11 10]<|sq (cx 12 0)<|sq (.block 1 (so [ia 13 1 9 11,l1 14 13,mv 6 14]<|.ops [mv 15 4,mv 16 6,op 17 (.len .str (.r 16)),op 18 (.bin .add (.c (.int .i64 4)) (.r 17)),b2 19 .add 15 18,mv 4 19]))<|.ops [op 20 (.bin .add (.r 11) (.c (.int .i64 1))),mv 11 20])))<|sq (so [mv 21 0,mv 22 4,cl 23 72 [.r 21,.r 22],op 24 (.un .not (.r 23))]<|.cond (.r 24) (.ret) (.skip))<|so [mv 25 0,mv 26 1,fm 27 26,op 28 (.iC .u64 (.r 27)),cl 29 73 [.r 25,.r 28,(.c (.int .i64 4))]]<|so [mv 30 1,fm 31 30,op 32 (.ay (.c (.int .i64 0)))]<|.block 2 (.loop (so [b2 33 .lss 32 31]<|sq (cx 33 2)<|sq (.block 3 (so [ia 34 1 30 32,l1 35 34,mv 8 35]<|.ops [mv 36 0,mv 37 8,cl 38 33 [.r 36,.r 37]]))<|.ops [op 39 (.bin .add (.r 32) (.c (.int .i64 1))),mv 32 39]))⟩
def Yb:An:=⟨[],[(2,[(0,true),(1,true),(2,true),(3,true),(4,true),(5,true)])]⟩
def N8:Go.Rmp.Fn:=⟨18,1,[.t 2,.t 3],so [op 2 (.ay (.c (.sl .nil []))),op 3 (.ay (.c (.int .i64 0)))]<|sq (so [mv 4 0,nc 5 4,fa 6 2 5,l1 7 6,op 8 (.bin .neq (.r 7) (.c (.int .i64 0)))]<|.cond (.r 8) (so [mv 9 0,nc 10 9,fa 11 2 10,l1 12 11,op 2 (.ay (.c (.sl .nil []))),mv 3 12]<|.ret) (.skip))<|so [mv 13 0,nc 14 13,fa 15 1 14,l1 16 15,cl 17 74 [.r 16],mv 2 17,op 3 (.ay (.c (.int .i64 0)))]<|.ret⟩
def Yc:An:=⟨[],[]⟩
def N9:Go.Rmp.Fn:=⟨18,1,[.t 2],so [op 2 (.ay (.c (.sl .nil [])))]<|so [mv 4 0,cl 5 14 [.r 4],mv 3 5]<|so [mv 6 3,op 7 (.bin .shr (.r 6) (.c (.int .u64 24))),op 8 (.iC .u8 (.r 7)),mv 9 3,op 10 (.bin .shr (.r 9) (.c (.int .u64 16))),op 11 (.iC .u8 (.r 10)),mv 12 3,op 13 (.bin .shr (.r 12) (.c (.int .u64 8))),op 14 (.iC .u8 (.r 13)),mv 15 3,op 16 (.iC .u8 (.r 15)),op 17 (.oI 4 [.int .u8 0] [(0,(.r 8)),(1,(.r 11)),(2,(.r 14)),(3,(.r 16))]),mv 2 17]<|.ret⟩
def Yd:An:=⟨[],[]⟩
def Oa:Go.Rmp.Fn:=⟨39,2,[.t 4],so [op 4 (.ay (.c (.int .u32 0)))]<|so [cl 9 83 [],op 5 (.alloc [.int .u32 0,.int .u32 0,.int .u32 0,.int .u32 0,.int .u32 0,.int .u32 0,.int .u32 0,.int .u32 0,.int .u32 0,.int .u32 0,.int .u32 0,.int .u32 0,.int .u32 0,.int .u32 0,.int .u32 0,.int .u32 0]),se 16 5 9]<|so [mv 10 0,op 11 (.un .xor (.r 10)),mv 6 11]<|sq (so [mv 12 1,fm 13 12,op 14 (.ay (.c (.int .i64 0)))]<|.block 0 (.loop (so [b2 15 .lss 14 13]<|sq (cx 15 0)<|sq (.block 1 (so [ia 16 1 12 14,l1 17 16,mv 8 17]<|so [mv 18 6,mv 19 8,op 20 (.iC .u32 (.r 19)),b2 21 .xor 18 20,mv 6 21]<|so [mv 22 6,op 23 (.bin .shr (.r 22) (.c (.int .u64 4))),mv 24 6,op 25 (.bin .and (.r 24) (.c (.int .u32 15))),op 26 (.MH 16 1 (.r 5) (.r 25)),l1 27 26,b2 28 .xor 23 27,mv 6 28]<|.ops [mv 29 6,op 30 (.bin .shr (.r 29) (.c (.int .u64 4))),mv 31 6,op 32 (.bin .and (.r 31) (.c (.int .u32 15))),op 33 (.MH 16 1 (.r 5) (.r 32)),l1 34 33,b2 35 .xor 30 34,mv 6 35]))<|.ops [op 36 (.bin .add (.r 14) (.c (.int .i64 1))),mv 14 36])))<|so [mv 37 6,op 38 (.un .xor (.r 37)),mv 4 38]<|.ret⟩
def Ye:An:=⟨[],[]⟩
def Ob:Go.Rmp.Fn:=⟨7,1,[.t 2],so [op 2 (.ay (.c .bR))]<|so [mv 3 0,cl 4 74 [.r 3],op 5 (.build [.sl .nil [],.int .i64 0] [(0,1,(.r 4))]),op 6 (.box (.r 5)),mv 2 6]<|.ret⟩
def Yf:An:=⟨[],[]⟩
def Oc:Go.Rmp.Fn:=⟨6,1,[.t 2],so [op 2 (.ay (.c (.int .u32 0)))]<|so [mv 3 0,cl 4 89 [.r 3,(.c (.int .i64 4))],op 5 (.iC .u32 (.r 4)),mv 2 5]<|.ret⟩
def Yg:An:=⟨[],[]⟩
def Od:Go.Rmp.Fn:=⟨6,1,[.t 2],so [op 2 (.ay (.c (.int .u8 0)))]<|so [mv 3 0,cl 4 89 [.r 3,(.c (.int .i64 1))],op 5 (.iC .u8 (.r 4)),mv 2 5]<|.ret⟩
def Yh:An:=⟨[],[]⟩
def Oe:Go.Rmp.Fn:=⟨5,1,[.t 2],so [op 2 (.ay (.c (.int .u64 0)))]<|so [mv 3 0,cl 4 89 [.r 3,(.c (.int .i64 8))],mv 2 4]<|.ret⟩
def Yi:An:=⟨[],[]⟩
def Of:Go.Rmp.Fn:=⟨36,1,[.t 2,.t 3],so [op 2 (.ay (.c (.sl .nil []))),op 3 (.ay (.c .gA))]<|so [op 4 (.ay (.c (.sl .nil [])))]<|so [op 8 (.zC),mv 5 8]<|sq (so [mv 9 0,cl 10 53 [.r 9,(.c (.int .i64 2147483647))],mv 6 10]<|.block 0 (.loop (sq (so [mv 11 6,op 12 (.bin .gtr (.r 11) (.c (.int .i64 0))),mv 13 12,mt 14 0 13,⟨(some 15),.call 54 [.r 14],(some (13,true)),[]⟩,gt 16 13 (.bin .eql (.r 15) (.c (.int .i64 0))),op 17 (.pick (.r 13) (.r 16) (.c (.bool false)))]<|cx 17 0)<|sq (.block 1 (so [mv 20 0,cl 21 55 [.r 20,(.c (.int .i64 65535))],mv 22 0,cl 23 51 [.r 22],op 24 (.build [.str ⟨#[]⟩,.int .u64 0] [(0,1,(.r 21)),(1,1,(.r 23))]),op 7 (.alloc [.str ⟨#[]⟩,.int .u64 0]),se 2 7 24]<|so [mv 25 4,ln 26 2 7,op 27 (.oI 1 [.str ⟨#[]⟩,.int .u64 0] [(0,(.r 26))]),op 28 (.app 2 24 false (.r 25) (.r 27)),mv 4 28]<|.ops [mv 29 5,fa 30 0 7,l1 31 30,fa 32 1 7,l1 33 32,ef (.zD (.sc .str) (.r 29) (.r 31) (.r 33))]))<|.ops [mv 18 6,op 19 (.bin .sub (.r 18) (.c (.int .i64 1))),mv 6 19])))<|so [mv 34 4,mv 35 5,mv 2 34,mv 3 35]<|.ret⟩
def Yj:An:=⟨[],[]⟩
def Og:Go.Rmp.Fn:=⟨23,2,[.t 4],so [op 4 (.ay (.c (.int .i64 0)))]<|so [mv 8 0,mv 9 1,cl 10 90 [.r 8,.r 9],mv 7 10,xt 11 0 7,xt 12 1 7,mv 5 11,mv 6 12]<|sq (so [mv 13 6]<|.cond (.r 13) (.ops [mv 14 0,mv 15 0,nc 16 15,fa 17 0 16,l1 18 17,op 19 (.fX 1 (.r 18) (some (.c (.int .i64 4))) none none),nc 20 14,fa 21 0 20,se 1 21 19]) (.skip))<|so [mv 22 5,mv 4 22]<|.ret⟩
def Yk:An:=⟨[],[]⟩
def JZ:Go.Rmp.Fn:=⟨7,1,[.t 2],so [op 2 (.ay (.c (.int .i64 0)))]<|so [mv 3 0,nc 4 3,fa 5 1 4,l1 6 5,mv 2 6]<|.ret⟩
def Yl:An:=⟨[],[]⟩
def Oh:Go.Rmp.Fn:=⟨46,2,[.t 4],so [op 4 (.ay (.c (.str ⟨#[]⟩)))]<|so [mv 9 0,mv 10 1,cl 11 90 [.r 9,.r 10],mv 8 11,xt 12 0 8,xt 13 1 8,mv 5 12,mv 6 13]<|sq (so [mv 14 6,op 15 (.un .not (.r 14))]<|.cond (.r 15) (so [op 4 (.ay (.c (.str ⟨#[]⟩)))]<|.ret) (.skip))<|sq (so [mv 16 0,nc 17 16,fa 18 0 17,l1 19 18,fm 20 19,op 21 (.bin .sub (.r 20) (.c (.int .i64 4))),mv 22 5,b2 23 .lss 21 22]<|.cond (.r 23) (so [mv 24 0,nc 25 24,fa 26 1 25,ef (.st 1 (.r 26) (.c (.int .i64 4)))]<|so [op 4 (.ay (.c (.str ⟨#[]⟩)))]<|.ret) (.skip))<|so [mv 27 0,nc 28 27,fa 29 0 28,l1 30 29,mv 31 5,op 32 (.bin .add (.c (.int .i64 4)) (.r 31)),op 33 (.fX 1 (.r 30) (some (.c (.int .i64 4))) (some (.r 32)) none),op 34 (.uC (.r 33)),mv 7 34]<|so [mv 35 0,mv 36 0,nc 37 36,fa 38 0 37,l1 39 38,mv 40 5,op 41 (.bin .add (.c (.int .i64 4)) (.r 40)),op 42 (.fX 1 (.r 39) (some (.r 41)) none none),nc 43 35,fa 44 0 43,se 1 44 42]<|so [mv 45 7,mv 4 45]<|.ret⟩
def Ym:An:=⟨[],[]⟩
def Oi:Go.Rmp.Fn:=⟨42,3,[.t 6],so [op 6 (.ay (.c (.sl .nil [])))]<|so [mv 10 0,nc 11 10,fa 12 0 11,l1 13 12,mv 7 13]<|so [mv 14 0,mv 15 1,cl 16 53 [.r 14,.r 15],mv 8 16]<|so [op 9 (.ay (.c (.sl .nil [])))]<|sq (so [mv 17 8,op 18 (.ay (.c (.int .i64 0)))]<|.block 0 (.loop (so [b2 19 .lss 18 17]<|sq (cx 19 0)<|sq (.block 1 (so [mv 20 9,mv 21 0,mv 22 2,cl 23 55 [.r 21,.r 22],op 24 (.oI 1 [.str ⟨#[]⟩] [(0,(.r 23))]),op 25 (.app 1 16 false (.r 20) (.r 24)),mv 9 25]<|so [mv 26 0,nc 27 26,fa 28 1 27,l1 29 28,op 30 (.bin .neq (.r 29) (.c (.int .i64 0)))]<|.cond (.r 30) (.exit 0) (.skip)))<|.ops [op 31 (.bin .add (.r 18) (.c (.int .i64 1))),mv 18 31])))<|sq (so [mv 32 0,nc 33 32,fa 34 1 33,l1 35 34,op 36 (.bin .neq (.r 35) (.c (.int .i64 0)))]<|.cond (.r 36) (so [mv 37 0,mv 38 7,nc 39 37,fa 40 0 39,se 1 40 38]<|so [op 6 (.ay (.c (.sl .nil [])))]<|.ret) (.skip))<|so [mv 41 9,mv 6 41]<|.ret⟩
def Yn:An:=⟨[],[]⟩
def Fv:Go.Rmp.Fn:=⟨20,1,[.t 2],so [op 2 (.ay (.c (.int .i64 0)))]<|sq (so [mv 3 0,nc 4 3,fa 5 1 4,l1 6 5,op 7 (.bin .eql (.r 6) (.c (.int .i64 0))),mv 8 7,mt 9 0 8,gt 10 8 (.uD (.r 9)),gt 11 8 (.kT 0 (.r 10)),gt 12 8 (.ld 1 false (.r 11)),gt 13 8 (.len .sl (.r 12)),gt 14 8 (.bin .gtr (.r 13) (.c (.int .i64 0))),op 15 (.pick (.r 8) (.r 14) (.c (.bool false)))]<|.cond (.r 15) (so [op 2 (.ay (.c (.int .i64 5)))]<|.ret) (.skip))<|so [mv 16 0,nc 17 16,fa 18 1 17,l1 19 18,mv 2 19]<|.ret⟩
def Yo:An:=⟨[],[(5,[(0,true),(1,true),(2,true),(3,true),(4,true),(5,true),(6,true),(7,true),(8,true),(9,true),(10,true),(11,true),(12,true)]),(7,[(0,true),(1,true),(2,true),(3,true),(4,true),(5,true),(6,true),(7,true),(8,false)]),(13,[(0,true),(1,true),(2,true),(3,true),(4,true),(5,true),(6,true),(7,true),(8,true),(9,true),(10,true),(11,true),(12,true),(13,true),(14,true),(15,true),(16,true),(17,true),(18,true),(19,false),(20,true),(21,true),(22,true),(23,true),(24,true),(25,false),(26,true),(27,true)]),(15,[(0,true),(1,true),(2,true),(3,true),(4,true),(5,true),(6,true),(7,true),(9,true),(10,true),(8,false),(11,true),(12,false)])]⟩
def Oj:Go.Rmp.Fn:=⟨126,2,[.t 4,.t 5],so [op 4 (.ay (.c .bR)),op 5 (.ay (.c (.int .i64 0)))]<|so [cl 16 28 [],mv 6 16]<|sq (so [mv 17 1,fm 18 17,op 19 (.ay (.c (.int .i64 0)))]<|.block 0 (.loop (so [b2 20 .lss 19 18]<|sq (cx 20 0)<|sq (.block 1 (so [mv 21 19,ia 22 2 17 19,ln 23 2 22,op 8 (.alloc [.str ⟨#[]⟩,.int .u64 0]),mv 7 21,se 2 8 23]<|sq (so [mv 24 7,op 25 (.bin .gtr (.r 24) (.c (.int .i64 0))),mv 26 25,gt 27 26 (.kT 0 (.r 8)),gt 28 26 (.ld 1 false (.r 27)),mt 29 1 26,mt 30 7 26,gt 31 26 (.bin .sub (.r 30) (.c (.int .i64 1))),gt 32 26 (.eI 2 (.r 29) (.r 31)),gt 33 26 (.kT 0 (.r 32)),gt 34 26 (.ld 1 false (.r 33)),gt 35 26 (.bin .leq (.r 28) (.r 34)),op 36 (.pick (.r 26) (.r 35) (.c (.bool false)))]<|.cond (.r 36) (so [op 4 (.ay (.c .bR)),op 5 (.ay (.c (.int .i64 1)))]<|.ret) (.skip))<|.ops [mv 37 6,nc 38 37,fa 39 3 38,l1 40 39,fa 41 0 8,l1 42 41,fa 43 1 8,l1 44 43,ef (.zD (.sc .str) (.r 40) (.r 42) (.r 44))]))<|.ops [op 45 (.bin .add (.r 19) (.c (.int .i64 1))),mv 19 45])))<|sq (so [mv 46 0,fm 47 46,op 48 (.ay (.c (.int .i64 0)))]<|.block 2 (.loop (so [b2 49 .lss 48 47]<|sq (cx 49 2)<|sq (.block 3 (so [mv 50 48,ia 51 5 46 48,ln 52 5 51,op 10 (.alloc [.str ⟨#[]⟩,.int .u64 0,.str ⟨#[]⟩,.sl .nil [],.int .i64 0]),mv 9 50,se 5 10 52]<|so [fa 53 0 10,fa 54 0 53,l1 55 54,fa 56 0 10,fa 57 1 56,l1 58 57,op 59 (.build [.str ⟨#[]⟩,.int .u64 0] [(0,1,(.r 55)),(1,1,(.r 58))]),op 11 (.alloc [.str ⟨#[]⟩,.int .u64 0]),se 2 11 59]<|sq (so [mv 60 9,op 61 (.bin .gtr (.r 60) (.c (.int .i64 0))),mv 62 61,mt 63 0 62,mt 64 9 62,gt 65 62 (.bin .sub (.r 64) (.c (.int .i64 1))),gt 66 62 (.eI 5 (.r 63) (.r 65)),gt 67 62 (.kT 0 (.r 66)),gt 68 62 (.kT 0 (.r 67)),gt 69 62 (.ld 1 false (.r 68)),mt 70 0 62,mt 71 9 62,gt 72 62 (.bin .sub (.r 71) (.c (.int .i64 1))),gt 73 62 (.eI 5 (.r 70) (.r 72)),gt 74 62 (.kT 0 (.r 73)),gt 75 62 (.kT 1 (.r 74)),gt 76 62 (.ld 1 false (.r 75)),gt 77 62 (.build [.str ⟨#[]⟩,.int .u64 0] [(0,1,(.r 69)),(1,1,(.r 76))]),gt 78 62 (.ld 2 true (.r 11)),⟨(some 79),.call 61 [.r 77,.r 78],(some (62,true)),[]⟩,gt 80 62 (.bin .geq (.r 79) (.c (.int .i64 0))),op 81 (.pick (.r 62) (.r 80) (.c (.bool false))),mv 82 81,mf 83 6 82,gf 84 82 (.ld 5 true (.r 10)),⟨(some 85),.call 91 [.r 83,.r 84],(some (82,false)),[]⟩,gf 86 82 (.un .not (.r 85)),op 87 (.pick (.r 82) (.c (.bool true)) (.r 86))]<|.cond (.r 87) (so [op 4 (.ay (.c .bR)),op 5 (.ay (.c (.int .i64 1)))]<|.ret) (.skip))<|.ops [mv 88 6,ln 89 2 11,fa 90 0 10,fa 91 2 90,l1 92 91,fa 93 0 10,fa 94 3 93,l1 95 94,fa 97 4 10,l1 98 97,⟨(some 96),.call 69 [.r 95],none,[⟨89,.ld 2 true (.r 11),none⟩,⟨92,.ld 1 false (.r 91),none⟩,⟨98,.ld 1 false (.r 97),none⟩]⟩,op 99 (.build [.str ⟨#[]⟩,.sl .nil [],.int .i64 0] [(0,1,(.r 92)),(1,1,(.r 96)),(2,1,(.r 98))]),cl 100 68 [.r 88,.r 89,.r 99]]))<|.ops [op 101 (.bin .add (.r 48) (.c (.int .i64 1))),mv 48 101])))<|sq (so [mv 102 6,nc 103 102,fa 104 3 103,l1 105 104,op 106 (.MI (.r 105))]<|.block 4 (.loop (so [op 107 (.qh (.r 106)),xt 108 0 107]<|sq (cx 108 4)<|.block 5 (so [op 109 (.MJ (.r 106)),xt 110 0 109,xt 111 1 109,mv 12 110,mv 13 111]<|so [mv 113 6,nc 114 113,fa 115 0 114,l1 116 115,mv 117 12,mv 118 13,op 119 (.build [.str ⟨#[]⟩,.int .u64 0] [(0,1,(.r 117)),(1,1,(.r 118))]),op 120 (.nB (.st [.str,.int]) (.agg [.str ⟨#[]⟩,.sl .nil [],.int .i64 0]) true (.r 116) (.r 119)),mv 112 120,xt 121 0 112,xt 122 1 112,op 14 (.alloc [.str ⟨#[]⟩,.sl .nil [],.int .i64 0]),se 3 14 121,mv 15 122]<|so [mv 123 15,op 124 (.un .not (.r 123))]<|.cond (.r 124) (so [op 4 (.ay (.c .bR)),op 5 (.ay (.c (.int .i64 1)))]<|.ret) (.skip)))))<|so [mv 125 6,mv 4 125,op 5 (.ay (.c (.int .i64 0)))]<|.ret⟩
def Yp:An:=⟨[],[]⟩
def Ol:Go.Rmp.Fn:=⟨12,2,[.t 4],so [op 4 (.ay (.c (.sl .nil [])))]<|so [mv 6 0,cl 7 92 [.r 6],mv 5 7]<|so [mv 8 5,mv 9 1,cl 10 93 [.r 8,.r 9]]<|so [mv 11 5,mv 4 11]<|.ret⟩
def Yq:An:=⟨[],[]⟩
def Om:Go.Rmp.Fn:=⟨4,1,[.t 2],so [op 1 (.box (.r 0)),op 2 (.ay (.c .mT))]<|so [op 3 (.Iw 94 [.r 1]),mv 2 3]<|.ret⟩
def Yr:An:=⟨[],[(1,[(0,true),(1,true),(2,true),(3,true),(5,true),(6,true),(7,true),(8,true),(4,false),(9,false),(10,true),(11,false),(12,true)])]⟩
def On:Go.Rmp.Fn:=⟨17,2,[.t 4],so [op 2 (.box (.r 0)),op 3 (.box (.r 1)),op 4 (.ay (.c (.int .i64 0)))]<|so [fa 5 0 2,l1 6 5,fa 7 0 3,l1 8 7,fa 10 1 2,l1 11 10,fa 12 1 3,l1 13 12,⟨(some 9),.call 96 [.r 6,.r 8],none,[⟨11,.ld 1 false (.r 10),none⟩,⟨13,.ld 1 false (.r 12),none⟩]⟩,cl 14 97 [.r 11,.r 13],op 15 (.oI 2 [.int .i64 0] [(0,(.r 9)),(1,(.r 14))]),cl 16 95 [.r 15],mv 4 16]<|.ret⟩
def Ys:An:=⟨[],[(1,[(0,true),(1,true),(2,true),(3,true),(4,true),(5,true),(6,true),(7,false)]),(2,[(0,true),(1,true),(2,true),(3,true),(4,true),(5,true),(6,true),(7,true),(8,false),(9,true),(10,false)])]⟩
def Oo:Go.Rmp.Fn:=⟨22,2,[.cl 4 4 true],so [op 3 (.box (.r 1)),op 4 (.alloc [.str ⟨#[]⟩,.int .u64 0,.str ⟨#[]⟩,.sl .nil []])]<|so [mv 6 0,nc 7 6,fa 8 0 7,l1 9 8,ln 10 2 3,op 11 (.nB (.st [.str,.int]) (.agg [.str ⟨#[]⟩,.sl .nil [],.int .i64 0]) false (.r 9) (.r 10)),op 5 (.alloc [.str ⟨#[]⟩,.sl .nil [],.int .i64 0]),se 3 5 11]<|so [fa 12 0 3,l1 13 12,fa 14 1 3,l1 15 14,fa 16 0 5,l1 17 16,fa 18 1 5,l1 19 18,⟨(some 20),.call 69 [.r 19],none,[⟨13,.ld 1 false (.r 12),none⟩,⟨15,.ld 1 false (.r 14),none⟩,⟨17,.ld 1 false (.r 16),none⟩]⟩,op 21 (.build [.str ⟨#[]⟩,.int .u64 0,.str ⟨#[]⟩,.sl .nil []] [(0,1,(.r 13)),(1,1,(.r 15)),(2,1,(.r 17)),(3,1,(.r 20))]),se 4 4 21]<|.ret⟩
def Yt:An:=⟨[],[(6,[(0,true),(1,true),(2,true),(3,true),(4,true),(5,true),(6,true),(7,true),(8,true)])]⟩
def Oq:Go.Rmp.Fn:=⟨26,2,[.t 4],so [op 4 (.ay (.c (.bool false)))]<|sq (so [mv 6 0,fm 7 6,mv 8 1,fm 9 8,b2 10 .neq 7 9]<|.cond (.r 10) (so [op 4 (.ay (.c (.bool false)))]<|.ret) (.skip))<|sq (so [op 5 (.ay (.c (.int .i64 0)))]<|.block 0 (.loop (sq (so [mv 11 5,mv 12 0,fm 13 12,b2 14 .lss 11 13]<|cx 14 0)<|sq (.block 1 (so [mv 17 0,mv 18 5,ia 19 1 17 18,l1 20 19,mv 21 1,mv 22 5,ia 23 1 21 22,l1 24 23,b2 25 .neq 20 24]<|.cond (.r 25) (so [op 4 (.ay (.c (.bool false)))]<|.ret) (.skip)))<|.ops [mv 15 5,op 16 (.bin .add (.r 15) (.c (.int .i64 1))),mv 5 16])))<|so [op 4 (.ay (.c (.bool true)))]<|.ret⟩
def Yu:An:=⟨[],[]⟩
def Ot:Go.Rmp.Fn:=⟨9,1,[.t 2],so [op 2 (.ay (.c (.sl .nil [])))]<|so [mv 4 0,cl 5 98 [.r 4],mv 3 5]<|so [mv 6 3,cl 7 99 [.r 6]]<|so [mv 8 3,mv 2 8]<|.ret⟩
def Yv:An:=⟨[],[]⟩
def Ou:Go.Rmp.Fn:=⟨4,1,[.t 2],so [op 1 (.box (.r 0)),op 2 (.ay (.c .mT))]<|so [op 3 (.Iw 100 [.r 1]),mv 2 3]<|.ret⟩
def Yw:An:=⟨[],[(6,[(0,true),(1,true),(2,true),(3,true),(4,true),(5,true),(6,true),(7,true),(8,true),(9,true),(10,true),(11,true),(12,true),(13,true),(14,true),(15,true),(16,true),(17,false),(18,true),(19,true),(20,true),(21,true),(22,true),(23,true),(24,true),(25,true)])]⟩
def J0:Go.Rmp.Fn:=⟨55,3,[.t 6],so [op 6 (.ay (.c (.bool false)))]<|sq (so [mv 9 0,op 10 (.bin .lss (.r 9) (.c (.int .u64 65536))),mv 11 10,mf 12 2 11,⟨(some 13),.call 101 [.r 12],(some (11,false)),[]⟩,gf 14 11 (.un .not (.r 13)),op 15 (.pick (.r 11) (.c (.bool true)) (.r 14)),mv 16 15,mf 17 1 16,gf 18 16 (.len .sl (.r 17)),gf 19 16 (.bin .lss (.r 18) (.c (.int .i64 1))),op 20 (.pick (.r 16) (.c (.bool true)) (.r 19))]<|.cond (.r 20) (so [op 6 (.ay (.c (.bool false)))]<|.ret) (.skip))<|sq (so [mv 21 1,fm 22 21,op 23 (.ay (.c (.int .i64 0)))]<|.block 0 (.loop (so [b2 24 .lss 23 22]<|sq (cx 24 0)<|sq (.block 1 (so [mv 25 23,ia 26 2 21 23,ln 27 2 26,op 8 (.alloc [.str ⟨#[]⟩,.str ⟨#[]⟩]),mv 7 25,se 2 8 27]<|so [mv 28 7,op 29 (.bin .gtr (.r 28) (.c (.int .i64 0))),mv 30 29,gt 31 30 (.kT 0 (.r 8)),gt 32 30 (.ld 1 false (.r 31)),mt 33 1 30,mt 34 7 30,gt 35 30 (.bin .sub (.r 34) (.c (.int .i64 1))),gt 36 30 (.eI 2 (.r 33) (.r 35)),gt 37 30 (.kT 0 (.r 36)),gt 38 30 (.ld 1 false (.r 37)),gt 39 30 (.bin .leq (.r 32) (.r 38)),op 40 (.pick (.r 30) (.r 39) (.c (.bool false))),mv 41 40,mf 42 2 41,gf 43 41 (.kT 0 (.r 8)),gf 44 41 (.ld 1 false (.r 43)),⟨(some 45),.call 102 [.r 42,.r 44],(some (41,false)),[]⟩,gf 46 41 (.un .not (.r 45)),op 47 (.pick (.r 41) (.c (.bool true)) (.r 46)),mv 48 47,gf 49 48 (.kT 1 (.r 8)),gf 50 48 (.ld 1 false (.r 49)),gf 51 48 (.len .str (.r 50)),gf 52 48 (.bin .gtr (.r 51) (.c (.int .i64 65535))),op 53 (.pick (.r 48) (.c (.bool true)) (.r 52))]<|.cond (.r 53) (so [op 6 (.ay (.c (.bool false)))]<|.ret) (.skip)))<|.ops [op 54 (.bin .add (.r 23) (.c (.int .i64 1))),mv 23 54])))<|so [op 6 (.ay (.c (.bool true)))]<|.ret⟩
def Yx:An:=⟨[],[]⟩
def J1:Go.Rmp.Fn:=⟨9,1,[.t 2],so [op 2 (.ay (.c (.bool false)))]<|so [mv 3 0,op 4 (.bin .geq (.r 3) (.c (.int .i64 0))),mv 5 4,mt 6 0 5,gt 7 5 (.bin .leq (.r 6) (.c (.int .i64 1099511627776))),op 8 (.pick (.r 5) (.r 7) (.c (.bool false))),mv 2 8]<|.ret⟩
def Yy:An:=⟨[(3,16),(4,16)],[(1,[(0,true),(1,true),(2,true),(3,true),(4,true),(5,true),(6,false)]),(2,[(0,true),(1,true),(2,true),(3,true),(4,true),(5,true),(6,true),(7,true),(8,true),(9,false),(10,true),(11,true),(12,true),(13,true),(14,true)]),(3,[(0,true),(1,true),(2,true),(3,true),(4,true),(5,true),(6,true),(7,true),(8,true),(9,true),(10,true),(11,true),(12,true),(13,true),(14,true),(15,true),(16,false),(17,false),(18,false)]),(4,[(0,true),(1,true),(2,true),(3,true),(4,true),(5,true),(6,true),(7,true),(8,true),(9,true),(10,true),(11,true),(12,true),(13,true),(14,true),(15,true),(16,false),(17,false)])]⟩
def Ov:Go.Rmp.Fn:=⟨62,3,[],so [op 4 (.box (.r 1)),op 5 (.box (.r 2))]<|so [mv 8 0,nc 9 8,fa 10 0 9,l1 11 10,ln 12 2 4,ln 13 3 5,ef (.zD (.st [.str,.int]) (.r 11) (.r 12) (.r 13))]<|so [mv 15 0,nc 16 15,fa 17 1 16,l1 18 17,fa 19 0 4,l1 20 19,op 21 (.nB (.sc .str) (.sl .nil []) false (.r 18) (.r 20)),fa 22 1 4,l1 23 22,cl 24 103 [.r 21,.r 23],mv 14 24,xt 25 0 14,xt 26 1 14,mv 6 25,mv 7 26]<|so [mv 27 0,nc 28 27,fa 29 1 28,l1 30 29,fa 31 0 4,l1 32 31,mv 33 0,nc 34 33,fa 35 1 34,l1 36 35,fa 37 0 4,l1 38 37,op 39 (.nB (.sc .str) (.sl .nil []) false (.r 36) (.r 38)),mv 40 6,fa 41 1 4,l1 42 41,⟨(some 43),.b (.MK 1 [.int .u64 0] [(0,(.r 42))]),none,[⟨30,.ld 1 false (.r 29),none⟩,⟨32,.ld 1 false (.r 31),none⟩,⟨36,.ld 1 false (.r 35),none⟩,⟨38,.ld 1 false (.r 37),none⟩,⟨39,.nB (.sc .str) (.sl .nil []) false (.r 36) (.r 38),none⟩]⟩,⟨(some 44),.call 104 [.r 39,.r 40,.r 43],none,[⟨30,.ld 1 false (.r 29),none⟩,⟨32,.ld 1 false (.r 31),none⟩]⟩,ef (.zD (.sc .str) (.r 30) (.r 32) (.r 44))]<|.ops [mv 45 0,nc 46 45,fa 47 2 46,l1 48 47,fa 49 1 4,l1 50 49,mv 51 0,nc 52 51,fa 53 2 52,l1 54 53,fa 55 1 4,l1 56 55,op 57 (.nB (.sc .int) (.sl .nil []) false (.r 54) (.r 56)),fa 58 0 4,l1 59 58,op 60 (.oI 1 [.str ⟨#[]⟩] [(0,(.r 59))]),⟨(some 61),.b (.app 1 16 true (.r 57) (.r 60)),none,[⟨48,.ld 1 false (.r 47),none⟩,⟨50,.ld 1 false (.r 49),none⟩]⟩,ef (.zD (.sc .int) (.r 48) (.r 50) (.r 61))]⟩
def Yz:An:=⟨[],[]⟩
def vq:Go.Rmp.Fn:=⟨8,1,[.t 2],so [op 2 (.ay (.c (.sl .nil [])))]<|sq (so [mv 3 0,op 4 (.mU false .slice (.r 3) (.c (.sl .nil [])))]<|.cond (.r 4) (so [op 2 (.ay (.c (.sl .nil [])))]<|.ret) (.skip))<|so [op 5 (.oI 0 [.str ⟨#[]⟩] []),mv 6 0,op 7 (.app 1 16 false (.r 5) (.r 6)),mv 2 7]<|.ret⟩
def YA:An:=⟨[],[]⟩
def Ox:Go.Rmp.Fn:=⟨8,2,[.t 4],so [op 3 (.box (.r 1)),op 4 (.ay (.c (.sl .nil [])))]<|so [mv 5 0,op 6 (.Iw 106 [.r 3]),cl 7 105 [.r 5,.r 6],mv 4 7]<|.ret⟩
def YB:An:=⟨[],[]⟩
def Oy:Go.Rmp.Fn:=⟨8,2,[.t 4],so [op 3 (.box (.r 1)),op 4 (.ay (.c (.sl .nil [])))]<|so [mv 5 0,op 6 (.Iw 108 [.r 3]),cl 7 107 [.r 5,.r 6],mv 4 7]<|.ret⟩
def YC:An:=⟨[],[(1,[(0,true),(1,true),(2,true),(3,true),(4,true),(5,true),(6,true),(7,true),(8,true),(9,true),(10,true),(11,true),(12,true),(13,true),(14,true),(15,true),(16,true),(17,true),(18,true)])]⟩
def Oz:Go.Rmp.Fn:=⟨32,2,[.t 4],so [op 4 (.ay (.c (.bool false)))]<|sq (so [mv 5 0,nc 6 5,fa 7 2 6,l1 8 7,op 9 (.bin .eql (.r 8) (.c (.int .i64 0))),mv 10 9,mt 11 1 10,mt 12 0 10,gt 13 10 (.uD (.r 12)),gt 14 10 (.kT 0 (.r 13)),gt 15 10 (.ld 1 false (.r 14)),mt 16 0 10,gt 17 10 (.uD (.r 16)),gt 18 10 (.kT 1 (.r 17)),gt 19 10 (.ld 1 false (.r 18)),gt 20 10 (.len .sl (.r 19)),gt 21 10 (.bin .sub (.r 15) (.r 20)),gt 22 10 (.bin .gtr (.r 11) (.r 21)),op 23 (.pick (.r 10) (.r 22) (.c (.bool false)))]<|.cond (.r 23) (.ops [mv 24 0,nc 25 24,fa 26 2 25,ef (.st 1 (.r 26) (.c (.int .i64 3)))]) (.skip))<|so [mv 27 0,nc 28 27,fa 29 2 28,l1 30 29,op 31 (.bin .eql (.r 30) (.c (.int .i64 0))),mv 4 31]<|.ret⟩
def YD:An:=⟨[],[(3,[(0,true),(1,true),(2,true),(3,true),(4,true),(5,true),(6,true),(7,true),(8,true),(9,true),(10,true),(11,false),(12,true),(13,true),(14,false)])]⟩
def OA:Go.Rmp.Fn:=⟨27,3,[],so [mv 7 2,op 8 (.bin .sub (.r 7) (.c (.int .i64 1))),mv 6 8]<|.block 0 (.loop (sq (so [mv 9 6,op 10 (.bin .geq (.r 9) (.c (.int .i64 0)))]<|cx 10 0)<|sq (.block 1 (.ops [mv 13 0,mv 14 0,nc 15 14,fa 16 1 15,l1 17 16,mv 18 1,mv 19 6,op 20 (.bin .mul (.c (.int .i64 8)) (.r 19)),b2 21 .shr 18 20,op 22 (.iC .u8 (.r 21)),op 23 (.oI 1 [.int .u8 0] [(0,(.r 22))]),op 24 (.app 1 1 false (.r 17) (.r 23)),nc 25 13,fa 26 1 25,se 1 26 24]))<|.ops [mv 11 6,op 12 (.bin .sub (.r 11) (.c (.int .i64 1))),mv 6 12]))⟩
def YE:An:=⟨[(3,2)],[]⟩
def xz:Go.Rmp.Fn:=⟨8,1,[.t 2],so [op 2 (.ay (.c (.sl .nil [])))]<|sq (so [mv 3 0,op 4 (.mU false .slice (.r 3) (.c (.sl .nil [])))]<|.cond (.r 4) (so [op 2 (.ay (.c (.sl .nil [])))]<|.ret) (.skip))<|so [op 5 (.oI 0 [.int .u8 0] []),mv 6 0,op 7 (.app 1 1 true (.r 5) (.r 6)),mv 2 7]<|.ret⟩
def YF:An:=⟨[],[]⟩
def OB:Go.Rmp.Fn:=⟨19,0,[.cl 0 16 true],so [op 0 (.alloc [.int .u32 0,.int .u32 0,.int .u32 0,.int .u32 0,.int .u32 0,.int .u32 0,.int .u32 0,.int .u32 0,.int .u32 0,.int .u32 0,.int .u32 0,.int .u32 0,.int .u32 0,.int .u32 0,.int .u32 0,.int .u32 0])]<|so [op 1 (.alloc [.int .u32 0,.int .u32 0,.int .u32 0,.int .u32 0,.int .u32 0,.int .u32 0,.int .u32 0,.int .u32 0,.int .u32 0,.int .u32 0,.int .u32 0,.int .u32 0,.int .u32 0,.int .u32 0,.int .u32 0,.int .u32 0])]<|sq (so [op 4 (.ay (.c (.int .i64 0)))]<|.block 0 (.loop (so [op 5 (.bin .lss (.r 4) (.c (.int .i64 16)))]<|sq (cx 5 0)<|sq (.block 1 (so [mv 6 4,mv 2 6]<|so [mv 7 2,op 8 (.iC .u32 (.r 7)),mv 3 8]<|sq (so [op 9 (.ay (.c (.int .i64 0)))]<|.block 2 (.loop (so [op 10 (.bin .lss (.r 9) (.c (.int .i64 4)))]<|sq (cx 10 2)<|sq (.block 3 (.ops [mv 11 3,cl 12 113 [.r 11],mv 3 12]))<|.ops [op 13 (.bin .add (.r 9) (.c (.int .i64 1))),mv 9 13])))<|.ops [mv 14 2,mv 15 3,op 16 (.MH 16 1 (.r 1) (.r 14)),se 1 16 15]))<|.ops [op 17 (.bin .add (.r 4) (.c (.int .i64 1))),mv 4 17])))<|so [ln 18 16 1,se 16 0 18]<|.ret⟩
def YG:An:=⟨[],[]⟩
def OC:Go.Rmp.Fn:=⟨24,2,[.t 4],so [op 4 (.ay (.c (.int .u64 0)))]<|so [mv 8 0,mv 9 1,cl 10 115 [.r 8,.r 9],mv 7 10,xt 11 0 7,xt 12 1 7,mv 5 11,mv 6 12]<|sq (so [mv 13 6]<|.cond (.r 13) (.ops [mv 14 0,mv 15 0,nc 16 15,fa 17 0 16,l1 18 17,mv 19 1,op 20 (.fX 1 (.r 18) (some (.r 19)) none none),nc 21 14,fa 22 0 21,se 1 22 20]) (.skip))<|so [mv 23 5,mv 4 23]<|.ret⟩
def YH:An:=⟨[],[]⟩
def J2:Go.Rmp.Fn:=⟨27,2,[.t 4,.t 5],so [op 4 (.ay (.c (.int .i64 0))),op 5 (.ay (.c (.bool false)))]<|so [mv 9 0,cl 10 115 [.r 9,(.c (.int .i64 4))],mv 8 10,xt 11 0 8,xt 12 1 8,mv 6 11,mv 7 12]<|sq (so [mv 13 7,mv 14 13,mt 15 6 14,mt 16 1 14,gt 17 14 (.mx (.r 16) (.c (.int .i64 0))),gt 18 14 (.iC .u64 (.r 17)),gt 19 14 (.bin .gtr (.r 15) (.r 18)),op 20 (.pick (.r 14) (.r 19) (.c (.bool false)))]<|.cond (.r 20) (so [mv 21 0,nc 22 21,fa 23 1 22,ef (.st 1 (.r 23) (.c (.int .i64 3)))]<|so [op 4 (.ay (.c (.int .i64 0))),op 5 (.ay (.c (.bool false)))]<|.ret) (.skip))<|so [mv 24 6,op 25 (.iC .i64 (.r 24)),mv 26 7,mv 4 25,mv 5 26]<|.ret⟩
def YI:An:=⟨[],[(4,[(0,true),(1,true),(2,true),(3,true),(4,true),(5,true),(6,true),(7,true),(8,true),(9,true)])]⟩
def J3:Go.Rmp.Fn:=⟨47,2,[.t 4],so [op 3 (.box (.r 1)),op 4 (.ay (.c (.bool false)))]<|so [fa 6 0 3,ln 7 4 6,op 5 (.alloc [.str ⟨#[]⟩,.int .u64 0,.str ⟨#[]⟩,.sl .nil []]),se 4 5 7]<|sq (so [fa 8 1 5,l1 9 8,op 10 (.bin .lss (.r 9) (.c (.int .u64 65536))),mv 11 10,gf 12 11 (.kT 3 (.r 5)),gf 13 11 (.ld 1 false (.r 12)),⟨(some 14),.call 101 [.r 13],(some (11,false)),[]⟩,gf 15 11 (.un .not (.r 14)),op 16 (.pick (.r 11) (.c (.bool true)) (.r 15)),mv 17 16,gf 18 17 (.kT 3 (.r 5)),gf 19 17 (.ld 1 false (.r 18)),gf 20 17 (.kT 0 (.r 5)),gf 21 17 (.ld 1 false (.r 20)),⟨(some 22),.call 102 [.r 19,.r 21],(some (17,false)),[]⟩,gf 23 17 (.un .not (.r 22)),op 24 (.pick (.r 17) (.c (.bool true)) (.r 23)),mv 25 24,gf 26 25 (.kT 2 (.r 5)),gf 27 25 (.ld 1 false (.r 26)),gf 28 25 (.len .str (.r 27)),gf 29 25 (.bin .gtr (.r 28) (.c (.int .i64 65535))),op 30 (.pick (.r 25) (.c (.bool true)) (.r 29))]<|.cond (.r 30) (so [op 4 (.ay (.c (.bool false)))]<|.ret) (.skip))<|sq (so [fa 31 1 5,l1 32 31,mv 33 0,nc 34 33,fa 35 3 34,l1 36 35,fa 37 0 5,l1 38 37,op 39 (.nB (.sc .str) (.int .u64 0) false (.r 36) (.r 38)),b2 40 .lss 32 39]<|.cond (.r 40) (so [fa 41 4 3,l1 42 41,cl 43 67 [.r 42],mv 4 43]<|.ret) (.skip))<|so [fa 44 4 3,l1 45 44,op 46 (.bin .eql (.r 45) (.c (.int .i64 (-1)))),mv 4 46]<|.ret⟩
def YJ:An:=⟨[],[]⟩
def OD:Go.Rmp.Fn:=⟨5,1,[.t 2],so [op 2 (.ay (.c (.sl .nil [])))]<|so [mv 3 0,cl 4 116 [(.c (.sl .nil [])),.r 3],mv 2 4]<|.ret⟩
def YK:An:=⟨[],[]⟩
def J4:Go.Rmp.Fn:=⟨14,2,[],so [mv 5 0,fm 6 5,mv 4 6]<|.ops [mv 7 0,mv 8 4,mv 9 4,op 10 (.iC .u64 (.r 9)),cl 11 118 [.r 10],mv 12 1,cl 13 117 [.r 7,(.c (.int .i64 0)),.r 8,.r 11,.r 12]]⟩
def YL:An:=⟨[],[]⟩
def OE:Go.Rmp.Fn:=⟨14,2,[],so [l1 4 1,op 5 (.MI (.r 4))]<|.block 0 (.loop (so [op 6 (.qh (.r 5)),xt 7 0 6]<|sq (cx 7 0)<|.block 1 (so [op 8 (.MJ (.r 5)),xt 9 0 8,op 3 (.alloc [.str ⟨#[]⟩,.int .u64 0]),se 2 3 9]<|so [mv 10 0,ln 11 2 3,⟨(some 12),.bD (.r 10) [.r 11],none,[]⟩,op 13 (.un .not (.r 12))]<|.cond (.r 13) (.ret) (.skip))))⟩
def YM:An:=⟨[],[]⟩
def OF:Go.Rmp.Fn:=⟨18,1,[.t 2],so [op 2 (.ay (.c (.int .i64 0)))]<|so [op 3 (.ay (.c (.int .i64 0)))]<|sq (so [mv 6 0,fm 7 6,op 8 (.ay (.c (.int .i64 0)))]<|.block 0 (.loop (so [b2 9 .lss 8 7]<|sq (cx 9 0)<|sq (.block 1 (so [ia 10 1 6 8,l1 11 10,mv 5 11]<|so [mv 12 5,mv 13 3,b2 14 .neq 12 13]<|.cond (.r 14) (so [mv 15 5,mv 2 15]<|.ret) (.skip)))<|.ops [op 16 (.bin .add (.r 8) (.c (.int .i64 1))),mv 8 16])))<|so [mv 17 3,mv 2 17]<|.ret⟩
def YN:An:=⟨[],[]⟩
def OG:Go.Rmp.Fn:=⟨20,2,[.t 4],so [op 4 (.ay (.c (.int .i64 0)))]<|so [mv 7 0,cl 8 119 [.r 7],mv 5 8]<|so [mv 9 1,cl 10 119 [.r 9],mv 6 10]<|sq (so [mv 11 5]<|.cond (.r 11) (sq (so [mv 12 6]<|.cond (.r 12) (so [op 4 (.ay (.c (.int .i64 0)))]<|.ret) (.skip))<|so [op 4 (.ay (.c (.int .i64 (-1))))]<|.ret) (.skip))<|sq (so [mv 13 6]<|.cond (.r 13) (so [op 4 (.ay (.c (.int .i64 1)))]<|.ret) (.skip))<|sq (so [mv 14 0,mv 15 1,b2 16 .lss 14 15]<|.cond (.r 16) (so [op 4 (.ay (.c (.int .i64 (-1))))]<|.ret) (.skip))<|sq (so [mv 17 0,mv 18 1,b2 19 .gtr 17 18]<|.cond (.r 19) (so [op 4 (.ay (.c (.int .i64 1)))]<|.ret) (.skip))<|so [op 4 (.ay (.c (.int .i64 0)))]<|.ret⟩
def YO:An:=⟨[],[]⟩
def OH:Go.Rmp.Fn:=⟨20,2,[.t 4],so [op 4 (.ay (.c (.int .i64 0)))]<|so [mv 7 0,cl 8 120 [.r 7],mv 5 8]<|so [mv 9 1,cl 10 120 [.r 9],mv 6 10]<|sq (so [mv 11 5]<|.cond (.r 11) (sq (so [mv 12 6]<|.cond (.r 12) (so [op 4 (.ay (.c (.int .i64 0)))]<|.ret) (.skip))<|so [op 4 (.ay (.c (.int .i64 (-1))))]<|.ret) (.skip))<|sq (so [mv 13 6]<|.cond (.r 13) (so [op 4 (.ay (.c (.int .i64 1)))]<|.ret) (.skip))<|sq (so [mv 14 0,mv 15 1,b2 16 .lss 14 15]<|.cond (.r 16) (so [op 4 (.ay (.c (.int .i64 (-1))))]<|.ret) (.skip))<|sq (so [mv 17 0,mv 18 1,b2 19 .gtr 17 18]<|.cond (.r 19) (so [op 4 (.ay (.c (.int .i64 1)))]<|.ret) (.skip))<|so [op 4 (.ay (.c (.int .i64 0)))]<|.ret⟩
def YP:An:=⟨[],[]⟩
def OI:Go.Rmp.Fn:=⟨5,1,[.t 2],so [op 2 (.ay (.c (.sl .nil [])))]<|so [mv 3 0,cl 4 121 [(.c (.sl .nil [])),.r 3],mv 2 4]<|.ret⟩
def YQ:An:=⟨[],[]⟩
def J5:Go.Rmp.Fn:=⟨11,1,[],so [mv 3 0,fm 4 3,mv 2 4]<|.ops [mv 5 0,mv 6 2,mv 7 2,op 8 (.iC .u64 (.r 7)),cl 9 118 [.r 8],cl 10 122 [.r 5,(.c (.int .i64 0)),.r 6,.r 9]]⟩
def Sn:An:=⟨[],[]⟩
def Fx:Go.Rmp.Fn:=⟨14,2,[],so [l1 4 1,op 5 (.MI (.r 4))]<|.block 0 (.loop (so [op 6 (.qh (.r 5)),xt 7 0 6]<|sq (cx 7 0)<|.block 1 (so [op 8 (.MJ (.r 5)),xt 9 0 8,mv 3 9]<|so [mv 10 0,mv 11 3,⟨(some 12),.bD (.r 10) [.r 11],none,[]⟩,op 13 (.un .not (.r 12))]<|.cond (.r 13) (.ret) (.skip))))⟩
def So:An:=⟨[],[]⟩
def Fy:Go.Rmp.Fn:=⟨37,1,[.t 2],so [op 2 (.ay (.c (.bool false)))]<|sq (so [mv 5 0,fm 6 5,op 7 (.ay (.c (.int .i64 0)))]<|.block 0 (.loop (so [b2 8 .lss 7 6]<|sq (cx 8 0)<|sq (.block 1 (so [mv 9 7,ia 10 1 5 7,l1 11 10,mv 3 9,mv 4 11]<|so [mv 12 4,op 13 (.len .str (.r 12)),op 14 (.bin .gtr (.r 13) (.c (.int .i64 65535))),mv 15 14,mf 16 3 15,gf 17 15 (.bin .gtr (.r 16) (.c (.int .i64 0))),mf 18 17 15,mt 19 4 18,mt 20 0 18,mt 21 3 18,gt 22 18 (.bin .sub (.r 21) (.c (.int .i64 1))),gt 23 18 (.eI 1 (.r 20) (.r 22)),gt 24 18 (.ld 1 false (.r 23)),gt 25 18 (.bin .leq (.r 19) (.r 24)),gf 26 15 (.pick (.r 18) (.r 25) (.c (.bool false))),op 27 (.pick (.r 15) (.c (.bool true)) (.r 26))]<|.cond (.r 27) (so [op 2 (.ay (.c (.bool false)))]<|.ret) (.skip)))<|.ops [op 28 (.bin .add (.r 7) (.c (.int .i64 1))),mv 7 28])))<|so [mv 29 0,fm 30 29,op 31 (.bin .geq (.r 30) (.c (.int .i64 1))),mv 32 31,mt 33 0 32,gt 34 32 (.len .sl (.r 33)),gt 35 32 (.bin .leq (.r 34) (.c (.int .i64 1024))),op 36 (.pick (.r 32) (.r 35) (.c (.bool false))),mv 2 36]<|.ret⟩
def Sp:An:=⟨[],[]⟩
def Fz:Go.Rmp.Fn:=⟨14,2,[.t 4],so [op 4 (.ay (.c (.bool false)))]<|so [mv 8 0,mv 9 1,cl 10 123 [.r 8,.r 9],mv 7 10,xt 11 0 7,xt 12 1 7,mv 5 11,mv 6 12]<|so [mv 13 6,mv 4 13]<|.ret⟩
def Sq:An:=⟨[],[]⟩
def FA:Go.Rmp.Fn:=⟨54,2,[.t 4,.t 5],so [op 4 (.ay (.c (.int .i64 0))),op 5 (.ay (.c (.bool false)))]<|so [mv 10 0,fm 11 10,mv 6 11]<|so [mv 12 6,op 7 (.ay (.c (.int .i64 0))),mv 8 12]<|sq (.block 0 (.loop (sq (so [mv 13 7,mv 14 8,b2 15 .lss 13 14]<|cx 15 0)<|.block 1 (so [mv 16 7,mv 17 8,b2 18 .add 16 17,op 19 (.iC .u64 (.r 18)),op 20 (.bin .shr (.r 19) (.c (.int .u64 1))),op 21 (.iC .i64 (.r 20)),mv 9 21]<|so [mv 22 0,mv 23 9,ia 24 1 22 23,l1 25 24,mv 26 1,cl 27 124 [.r 25,.r 26]]<|.cond (.r 27) (.ops [mv 28 9,op 29 (.bin .add (.r 28) (.c (.int .i64 1))),mv 7 29]) (.ops [mv 30 9,mv 8 30])))))<|so [mv 31 7,mv 32 7,mv 33 6,b2 34 .lss 32 33,mv 35 34,mt 36 0 35,mt 37 7 35,gt 38 35 (.eI 1 (.r 36) (.r 37)),gt 39 35 (.ld 1 false (.r 38)),mt 40 1 35,gt 41 35 (.bin .eql (.r 39) (.r 40)),mt 42 41 35,mf 43 0 42,mf 44 7 42,gf 45 42 (.eI 1 (.r 43) (.r 44)),gf 46 42 (.ld 1 false (.r 45)),⟨(some 47),.call 125 [.r 46],(some (42,false)),[]⟩,mf 48 47 42,mt 49 1 48,⟨(some 50),.call 125 [.r 49],(some (48,true)),[]⟩,gf 51 42 (.pick (.r 48) (.r 50) (.c (.bool false))),gt 52 35 (.pick (.r 42) (.c (.bool true)) (.r 51)),op 53 (.pick (.r 35) (.r 52) (.c (.bool false))),mv 4 31,mv 5 53]<|.ret⟩
def Sr:An:=⟨[(7,2)],[(11,[(0,true),(1,true),(2,true),(3,true),(4,true),(5,true),(6,true),(7,true),(8,false)]),(15,[(0,true),(1,true),(2,true),(3,true),(4,true),(5,true),(6,true),(7,true),(8,false)])]⟩
def Mb:Go.Rmp.Fn:=⟨95,3,[.t 6],so [op 6 (.ay (.c (.sl .nil [])))]<|so [mv 10 0,mv 11 1,op 12 (.fX 1 (.r 10) (some (.r 11)) none none)]<|so [mv 13 2,fm 14 13,mv 7 14]<|sq (so [mv 15 7,op 16 (.bin .eql (.r 15) (.c (.int .i64 0)))]<|.cond (.r 16) (so [mv 17 0,mv 6 17]<|.ret) (.skip))<|so [mv 18 0,fm 19 18,mv 8 19]<|sq (so [mv 20 1,mv 21 8,b2 22 .eql 20 21]<|.cond (.r 22) (so [mv 23 0,mv 24 2,op 25 (.app 1 8 true (.r 23) (.r 24)),mv 6 25]<|.ret) (.skip))<|sq (so [mv 26 8,mv 27 7,b2 28 .add 26 27,mv 29 0,op 30 (.cap (.r 29)),b2 31 .gtr 28 30]<|.cond (.r 31) (so [mv 32 0,mv 33 1,op 34 (.fX 1 (.r 32) none (some (.r 33)) none),mv 35 8,mv 36 7,b2 37 .add 35 36,mv 38 1,b2 39 .sub 37 38,op 40 (.QW 1 8 [.int .u64 0] (.r 34) (.r 39)),mv 9 40]<|so [mv 41 9,mv 42 1,op 43 (.fX 1 (.r 41) (some (.r 42)) none none),mv 44 2,op 45 (.Bg 1 (.r 43) (.r 44))]<|so [mv 46 9,mv 47 1,mv 48 7,b2 49 .add 47 48,op 50 (.fX 1 (.r 46) (some (.r 49)) none none),mv 51 0,mv 52 1,op 53 (.fX 1 (.r 51) (some (.r 52)) none none),op 54 (.Bg 1 (.r 50) (.r 53))]<|so [mv 55 9,mv 6 55]<|.ret) (.skip))<|so [mv 56 0,mv 57 8,mv 58 7,b2 59 .add 57 58,op 60 (.fX 1 (.r 56) none (some (.r 59)) none),mv 0 60]<|sq (so [mv 61 2,mv 62 0,mv 63 1,mv 64 7,b2 65 .add 63 64,op 66 (.fX 1 (.r 62) (some (.r 65)) none none),op 67 (.Qe 1 (.r 61) (.r 66)),op 68 (.un .not (.r 67))]<|.cond (.r 68) (so [mv 69 0,mv 70 1,mv 71 7,b2 72 .add 70 71,op 73 (.fX 1 (.r 69) (some (.r 72)) none none),mv 74 0,mv 75 1,op 76 (.fX 1 (.r 74) (some (.r 75)) none none),op 77 (.Bg 1 (.r 73) (.r 76))]<|so [mv 78 0,mv 79 1,op 80 (.fX 1 (.r 78) (some (.r 79)) none none),mv 81 2,op 82 (.Bg 1 (.r 80) (.r 81))]<|so [mv 83 0,mv 6 83]<|.ret) (.skip))<|so [mv 84 0,mv 85 8,op 86 (.fX 1 (.r 84) (some (.r 85)) none none),mv 87 2,op 88 (.Bg 1 (.r 86) (.r 87))]<|so [mv 89 0,mv 90 1,op 91 (.fX 1 (.r 89) (some (.r 90)) none none),mv 92 7,cl 93 127 [.r 91,.r 92]]<|so [mv 94 0,mv 6 94]<|.ret⟩
def Ss:An:=⟨[],[]⟩
def FB:Go.Rmp.Fn:=⟨42,2,[.t 4],so [op 4 (.ay (.c (.sl .nil [])))]<|so [mv 8 0,mv 9 1,cl 10 128 [.r 8,.r 9],mv 5 10]<|sq (so [mv 11 5,op 12 (.bin .eql (.r 11) (.c (.int .i64 (-1))))]<|.cond (.r 12) (so [mv 13 0,mv 4 13]<|.ret) (.skip))<|sq (so [mv 14 5,op 15 (.bin .add (.r 14) (.c (.int .i64 1))),mv 6 15]<|.block 0 (.loop (sq (so [mv 16 6,mv 17 0,fm 18 17,b2 19 .lss 16 18]<|cx 19 0)<|sq (.block 1 (so [mv 22 0,mv 23 6,ia 24 1 22 23,l1 25 24,mv 7 25]<|so [mv 26 1,mv 27 7,⟨(some 28),.bD (.r 26) [.r 27],none,[]⟩,op 29 (.un .not (.r 28))]<|.cond (.r 29) (so [mv 30 0,mv 31 5,mv 32 7,ia 33 1 30 31,se 1 33 32]<|.ops [mv 34 5,op 35 (.bin .add (.r 34) (.c (.int .i64 1))),mv 5 35]) (.skip)))<|.ops [mv 20 6,op 21 (.bin .add (.r 20) (.c (.int .i64 1))),mv 6 21])))<|so [mv 36 0,mv 37 5,op 38 (.fX 1 (.r 36) (some (.r 37)) none none),ef (.Qf 1 [.int .u64 0] (.r 38))]<|so [mv 39 0,mv 40 5,op 41 (.fX 1 (.r 39) none (some (.r 40)) none),mv 4 41]<|.ret⟩
def Su:An:=⟨[],[]⟩
def FC:Go.Rmp.Fn:=⟨7,2,[.t 3],so [op 3 (.ay (.c (.bool false)))]<|so [mv 4 0,l1 5 1,b2 6 .eql 4 5,mv 3 6]<|.ret⟩
def Sv:An:=⟨[],[]⟩
def FD:Go.Rmp.Fn:=⟨42,2,[.t 4],so [op 4 (.ay (.c (.sl .nil [])))]<|so [mv 8 0,mv 9 1,cl 10 129 [.r 8,.r 9],mv 5 10]<|sq (so [mv 11 5,op 12 (.bin .eql (.r 11) (.c (.int .i64 (-1))))]<|.cond (.r 12) (so [mv 13 0,mv 4 13]<|.ret) (.skip))<|sq (so [mv 14 5,op 15 (.bin .add (.r 14) (.c (.int .i64 1))),mv 6 15]<|.block 0 (.loop (sq (so [mv 16 6,mv 17 0,fm 18 17,b2 19 .lss 16 18]<|cx 19 0)<|sq (.block 1 (so [mv 22 0,mv 23 6,ia 24 1 22 23,l1 25 24,mv 7 25]<|so [mv 26 1,mv 27 7,⟨(some 28),.bD (.r 26) [.r 27],none,[]⟩,op 29 (.un .not (.r 28))]<|.cond (.r 29) (so [mv 30 0,mv 31 5,mv 32 7,ia 33 1 30 31,se 1 33 32]<|.ops [mv 34 5,op 35 (.bin .add (.r 34) (.c (.int .i64 1))),mv 5 35]) (.skip)))<|.ops [mv 20 6,op 21 (.bin .add (.r 20) (.c (.int .i64 1))),mv 6 21])))<|so [mv 36 0,mv 37 5,op 38 (.fX 1 (.r 36) (some (.r 37)) none none),ef (.Qf 1 [.str ⟨#[]⟩] (.r 38))]<|so [mv 39 0,mv 40 5,op 41 (.fX 1 (.r 39) none (some (.r 40)) none),mv 4 41]<|.ret⟩
def Sw:An:=⟨[],[]⟩
def FE:Go.Rmp.Fn:=⟨7,2,[.t 3],so [op 3 (.ay (.c (.bool false)))]<|so [mv 4 0,l1 5 1,b2 6 .eql 4 5,mv 3 6]<|.ret⟩
def Sx:An:=⟨[],[]⟩
def Ay:Go.Rmp.Fn:=⟨11,1,[.t 2],so [op 2 (.ay (.c (.int .u32 0)))]<|sq (so [mv 3 0,op 4 (.bin .and (.r 3) (.c (.int .u32 1))),op 5 (.bin .eql (.r 4) (.c (.int .u32 1)))]<|.cond (.r 5) (so [mv 6 0,op 7 (.bin .shr (.r 6) (.c (.int .u64 1))),op 8 (.bin .xor (.r 7) (.c (.int .u32 3988292384))),mv 2 8]<|.ret) (.skip))<|so [mv 9 0,op 10 (.bin .shr (.r 9) (.c (.int .u64 1))),mv 2 10]<|.ret⟩
def Sy:An:=⟨[],[]⟩
def xA:Go.Rmp.Fn:=⟨49,2,[.t 4,.t 5],so [op 4 (.ay (.c (.int .u64 0))),op 5 (.ay (.c (.bool false)))]<|sq (so [mv 9 0,nc 10 9,fa 11 1 10,l1 12 11,op 13 (.bin .eql (.r 12) (.c (.int .i64 0))),mv 14 13,mt 15 0 14,gt 16 14 (.uD (.r 15)),gt 17 14 (.kT 0 (.r 16)),gt 18 14 (.ld 1 false (.r 17)),gt 19 14 (.len .sl (.r 18)),mt 20 1 14,gt 21 14 (.bin .lss (.r 19) (.r 20)),op 22 (.pick (.r 14) (.r 21) (.c (.bool false)))]<|.cond (.r 22) (.ops [mv 23 0,nc 24 23,fa 25 1 24,ef (.st 1 (.r 25) (.c (.int .i64 4)))]) (.skip))<|sq (so [mv 26 0,nc 27 26,fa 28 1 27,l1 29 28,op 30 (.bin .neq (.r 29) (.c (.int .i64 0)))]<|.cond (.r 30) (so [op 4 (.ay (.c (.int .u64 0))),op 5 (.ay (.c (.bool false)))]<|.ret) (.skip))<|so [op 6 (.ay (.c (.int .u64 0)))]<|sq (so [mv 31 0,nc 32 31,fa 33 0 32,l1 34 33,mv 35 1,op 36 (.fX 1 (.r 34) none (some (.r 35)) none),fm 37 36,op 38 (.ay (.c (.int .i64 0)))]<|.block 0 (.loop (so [b2 39 .lss 38 37]<|sq (cx 39 0)<|sq (.block 1 (so [ia 40 1 36 38,l1 41 40,mv 8 41]<|.ops [mv 42 6,op 43 (.bin .shl (.r 42) (.c (.int .u64 8))),mv 44 8,op 45 (.iC .u64 (.r 44)),b2 46 .or 43 45,mv 6 46]))<|.ops [op 47 (.bin .add (.r 38) (.c (.int .i64 1))),mv 38 47])))<|so [mv 48 6,mv 4 48,op 5 (.ay (.c (.bool true)))]<|.ret⟩
def Sz:An:=⟨[(3,3)],[]⟩
def FF:Go.Rmp.Fn:=⟨13,2,[.t 4],so [op 2 (.box (.r 0)),op 4 (.ay (.c (.sl .nil [])))]<|sq (so [mv 6 1]<|.block 0 (.cL 13 (.r 6) [7] (.ops [op 5 (.alloc [.str ⟨#[]⟩,.int .u64 0]),se 2 5 7]) (.block 1 (.ops [l1 8 2,ln 9 2 5,op 10 (.oI 1 [.str ⟨#[]⟩,.int .u64 0] [(0,(.r 9))]),op 11 (.app 2 24 true (.r 8) (.r 10)),se 1 2 11]))))<|so [l1 12 2,mv 4 12]<|.ret⟩
def SA:An:=⟨[],[(17,[(0,true),(1,true),(2,true),(3,true),(4,true),(5,true),(6,true),(7,true),(8,true),(9,true),(10,true),(11,true),(12,true),(13,false),(14,true),(15,true),(16,true)])]⟩
def eG:Go.Rmp.Fn:=⟨148,5,[],so [op 10 (.ay (.c (.bool true)))]<|so [op 11 (.ay (.c (.bool true)))]<|.block 0 (.loop (.block 1 (so [mv 21 2,mv 22 1,b2 23 .sub 21 22,mv 12 23]<|sq (so [mv 24 12,op 25 (.bin .leq (.r 24) (.c (.int .i64 12)))]<|.cond (.r 25) (so [mv 26 0,mv 27 1,mv 28 2,mv 29 4,cl 30 132 [.r 26,.r 27,.r 28,.r 29]]<|.ret) (.skip))<|sq (so [mv 31 3,op 32 (.bin .eql (.r 31) (.c (.int .i64 0)))]<|.cond (.r 32) (so [mv 33 0,mv 34 1,mv 35 2,mv 36 4,cl 37 133 [.r 33,.r 34,.r 35,.r 36]]<|.ret) (.skip))<|sq (so [mv 38 10,op 39 (.un .not (.r 38))]<|.cond (.r 39) (so [mv 40 0,mv 41 1,mv 42 2,mv 43 4,cl 44 134 [.r 40,.r 41,.r 42,.r 43]]<|.ops [mv 45 3,op 46 (.bin .sub (.r 45) (.c (.int .i64 1))),mv 3 46]) (.skip))<|so [mv 48 0,mv 49 1,mv 50 2,mv 51 4,cl 52 135 [.r 48,.r 49,.r 50,.r 51],mv 47 52,xt 53 0 47,xt 54 1 47,mv 13 53,mv 14 54]<|sq (so [mv 55 14,op 56 (.bin .eql (.r 55) (.c (.int .i64 2)))]<|.cond (.r 56) (so [mv 57 0,mv 58 1,mv 59 2,mv 60 4,cl 61 136 [.r 57,.r 58,.r 59,.r 60]]<|so [mv 62 2,op 63 (.bin .sub (.r 62) (.c (.int .i64 1))),mv 64 13,mv 65 1,b2 66 .sub 64 65,b2 67 .sub 63 66,mv 13 67]<|.ops [op 14 (.ay (.c (.int .i64 1)))]) (.skip))<|sq (so [mv 68 10,mv 69 68,mt 70 11 69,op 71 (.pick (.r 69) (.r 70) (.c (.bool false))),mv 72 71,mt 73 14 72,gt 74 72 (.bin .eql (.r 73) (.c (.int .i64 1))),op 75 (.pick (.r 72) (.r 74) (.c (.bool false)))]<|.cond (.r 75) (so [mv 76 0,mv 77 1,mv 78 2,mv 79 4,cl 80 137 [.r 76,.r 77,.r 78,.r 79]]<|.cond (.r 80) (.ret) (.skip)) (.skip))<|sq (so [mv 81 1,op 82 (.bin .gtr (.r 81) (.c (.int .i64 0))),mv 83 82,mt 84 4 83,mt 85 0 83,mt 86 1 83,gt 87 83 (.bin .sub (.r 86) (.c (.int .i64 1))),gt 88 83 (.eI 2 (.r 85) (.r 87)),gt 89 83 (.ld 2 true (.r 88)),mt 90 0 83,mt 91 13 83,gt 92 83 (.eI 2 (.r 90) (.r 91)),gt 93 83 (.ld 2 true (.r 92)),⟨(some 94),.bD (.r 84) [.r 89,.r 93],(some (83,true)),[]⟩,gt 95 83 (.bin .lss (.r 94) (.c (.int .i64 0))),gt 96 83 (.un .not (.r 95)),op 97 (.pick (.r 83) (.r 96) (.c (.bool false)))]<|.cond (.r 97) (so [mv 98 0,mv 99 1,mv 100 2,mv 101 13,mv 102 4,cl 103 138 [.r 98,.r 99,.r 100,.r 101,.r 102],mv 15 103]<|so [mv 104 15,mv 1 104]<|.exit 1) (.skip))<|so [mv 106 0,mv 107 1,mv 108 2,mv 109 13,mv 110 4,cl 111 139 [.r 106,.r 107,.r 108,.r 109,.r 110],mv 105 111,xt 112 0 105,xt 113 1 105,mv 16 112,mv 17 113]<|so [mv 114 17,mv 11 114]<|so [mv 115 16,mv 116 1,b2 117 .sub 115 116,mv 118 2,mv 119 16,b2 120 .sub 118 119,mv 18 117,mv 19 120]<|so [mv 121 12,op 122 (.bin .quo (.r 121) (.c (.int .i64 8))),mv 20 122]<|so [mv 123 18,mv 124 19,b2 125 .lss 123 124]<|.cond (.r 125) (so [mv 126 18,mv 127 20,b2 128 .geq 126 127,mv 10 128]<|so [mv 129 0,mv 130 1,mv 131 16,mv 132 3,mv 133 4,cl 134 117 [.r 129,.r 130,.r 131,.r 132,.r 133]]<|.ops [mv 135 16,op 136 (.bin .add (.r 135) (.c (.int .i64 1))),mv 1 136]) (so [mv 137 19,mv 138 20,b2 139 .geq 137 138,mv 10 139]<|so [mv 140 0,mv 141 16,op 142 (.bin .add (.r 141) (.c (.int .i64 1))),mv 143 2,mv 144 3,mv 145 4,cl 146 117 [.r 140,.r 142,.r 143,.r 144,.r 145]]<|.ops [mv 147 16,mv 2 147]))))⟩
def SB:An:=⟨[],[]⟩
def Az:Go.Rmp.Fn:=⟨8,1,[.t 2],so [op 2 (.ay (.c (.int .i64 0)))]<|sq (.cond (.c (.bool false)) (so [mv 3 0,op 4 (.iC .u32 (.r 3)),cl 5 140 [.r 4],mv 2 5]<|.ret) (.skip))<|so [mv 6 0,cl 7 141 [.r 6],mv 2 7]<|.ret⟩
def SD:An:=⟨[],[]⟩
def FG:Go.Rmp.Fn:=⟨6,1,[.t 2],so [op 2 (.ay (.c (.bool false)))]<|so [mv 3 0,mv 4 0,b2 5 .neq 3 4,mv 2 5]<|.ret⟩
def SE:An:=⟨[],[]⟩
def FH:Go.Rmp.Fn:=⟨6,1,[.t 2],so [op 2 (.ay (.c (.bool false)))]<|so [mv 3 0,mv 4 0,b2 5 .neq 3 4,mv 2 5]<|.ret⟩
def SF:An:=⟨[(3,3)],[]⟩
def FI:Go.Rmp.Fn:=⟨13,2,[.t 4],so [op 2 (.box (.r 0)),op 4 (.ay (.c (.sl .nil [])))]<|sq (so [mv 6 1]<|.block 0 (.cL 13 (.r 6) [7] (.ops [mv 5 7]) (.block 1 (.ops [l1 8 2,mv 9 5,op 10 (.oI 1 [.str ⟨#[]⟩] [(0,(.r 9))]),op 11 (.app 1 16 true (.r 8) (.r 10)),se 1 2 11]))))<|so [l1 12 2,mv 4 12]<|.ret⟩
def SG:An:=⟨[],[(17,[(0,true),(1,true),(2,true),(3,true),(4,true),(5,true),(6,true),(7,true),(8,true),(9,true),(10,true),(11,true),(12,false),(13,true),(14,true)])]⟩
def eH:Go.Rmp.Fn:=⟨134,4,[],so [op 8 (.ay (.c (.bool true)))]<|so [op 9 (.ay (.c (.bool true)))]<|.block 0 (.loop (.block 1 (so [mv 19 2,mv 20 1,b2 21 .sub 19 20,mv 10 21]<|sq (so [mv 22 10,op 23 (.bin .leq (.r 22) (.c (.int .i64 12)))]<|.cond (.r 23) (so [mv 24 0,mv 25 1,mv 26 2,cl 27 142 [.r 24,.r 25,.r 26]]<|.ret) (.skip))<|sq (so [mv 28 3,op 29 (.bin .eql (.r 28) (.c (.int .i64 0)))]<|.cond (.r 29) (so [mv 30 0,mv 31 1,mv 32 2,cl 33 143 [.r 30,.r 31,.r 32]]<|.ret) (.skip))<|sq (so [mv 34 8,op 35 (.un .not (.r 34))]<|.cond (.r 35) (so [mv 36 0,mv 37 1,mv 38 2,cl 39 144 [.r 36,.r 37,.r 38]]<|.ops [mv 40 3,op 41 (.bin .sub (.r 40) (.c (.int .i64 1))),mv 3 41]) (.skip))<|so [mv 43 0,mv 44 1,mv 45 2,cl 46 145 [.r 43,.r 44,.r 45],mv 42 46,xt 47 0 42,xt 48 1 42,mv 11 47,mv 12 48]<|sq (so [mv 49 12,op 50 (.bin .eql (.r 49) (.c (.int .i64 2)))]<|.cond (.r 50) (so [mv 51 0,mv 52 1,mv 53 2,cl 54 146 [.r 51,.r 52,.r 53]]<|so [mv 55 2,op 56 (.bin .sub (.r 55) (.c (.int .i64 1))),mv 57 11,mv 58 1,b2 59 .sub 57 58,b2 60 .sub 56 59,mv 11 60]<|.ops [op 12 (.ay (.c (.int .i64 1)))]) (.skip))<|sq (so [mv 61 8,mv 62 61,mt 63 9 62,op 64 (.pick (.r 62) (.r 63) (.c (.bool false))),mv 65 64,mt 66 12 65,gt 67 65 (.bin .eql (.r 66) (.c (.int .i64 1))),op 68 (.pick (.r 65) (.r 67) (.c (.bool false)))]<|.cond (.r 68) (so [mv 69 0,mv 70 1,mv 71 2,cl 72 147 [.r 69,.r 70,.r 71]]<|.cond (.r 72) (.ret) (.skip)) (.skip))<|sq (so [mv 73 1,op 74 (.bin .gtr (.r 73) (.c (.int .i64 0))),mv 75 74,mt 76 0 75,mt 77 1 75,gt 78 75 (.bin .sub (.r 77) (.c (.int .i64 1))),gt 79 75 (.eI 1 (.r 76) (.r 78)),gt 80 75 (.ld 1 false (.r 79)),mt 81 0 75,mt 82 11 75,gt 83 75 (.eI 1 (.r 81) (.r 82)),gt 84 75 (.ld 1 false (.r 83)),⟨(some 85),.call 148 [.r 80,.r 84],(some (75,true)),[]⟩,gt 86 75 (.un .not (.r 85)),op 87 (.pick (.r 75) (.r 86) (.c (.bool false)))]<|.cond (.r 87) (so [mv 88 0,mv 89 1,mv 90 2,mv 91 11,cl 92 149 [.r 88,.r 89,.r 90,.r 91],mv 13 92]<|so [mv 93 13,mv 1 93]<|.exit 1) (.skip))<|so [mv 95 0,mv 96 1,mv 97 2,mv 98 11,cl 99 150 [.r 95,.r 96,.r 97,.r 98],mv 94 99,xt 100 0 94,xt 101 1 94,mv 14 100,mv 15 101]<|so [mv 102 15,mv 9 102]<|so [mv 103 14,mv 104 1,b2 105 .sub 103 104,mv 106 2,mv 107 14,b2 108 .sub 106 107,mv 16 105,mv 17 108]<|so [mv 109 10,op 110 (.bin .quo (.r 109) (.c (.int .i64 8))),mv 18 110]<|so [mv 111 16,mv 112 17,b2 113 .lss 111 112]<|.cond (.r 113) (so [mv 114 16,mv 115 18,b2 116 .geq 114 115,mv 8 116]<|so [mv 117 0,mv 118 1,mv 119 14,mv 120 3,cl 121 122 [.r 117,.r 118,.r 119,.r 120]]<|.ops [mv 122 14,op 123 (.bin .add (.r 122) (.c (.int .i64 1))),mv 1 123]) (so [mv 124 17,mv 125 18,b2 126 .geq 124 125,mv 8 126]<|so [mv 127 0,mv 128 14,op 129 (.bin .add (.r 128) (.c (.int .i64 1))),mv 130 2,mv 131 3,cl 132 122 [.r 127,.r 129,.r 130,.r 131]]<|.ops [mv 133 14,mv 2 133]))))⟩
def SI:An:=⟨[],[]⟩
def FJ:Go.Rmp.Fn:=⟨54,2,[.t 4,.t 5],so [op 4 (.ay (.c (.int .i64 0))),op 5 (.ay (.c (.bool false)))]<|so [mv 10 0,fm 11 10,mv 6 11]<|so [mv 12 6,op 7 (.ay (.c (.int .i64 0))),mv 8 12]<|sq (.block 0 (.loop (sq (so [mv 13 7,mv 14 8,b2 15 .lss 13 14]<|cx 15 0)<|.block 1 (so [mv 16 7,mv 17 8,b2 18 .add 16 17,op 19 (.iC .u64 (.r 18)),op 20 (.bin .shr (.r 19) (.c (.int .u64 1))),op 21 (.iC .i64 (.r 20)),mv 9 21]<|so [mv 22 0,mv 23 9,ia 24 1 22 23,l1 25 24,mv 26 1,cl 27 148 [.r 25,.r 26]]<|.cond (.r 27) (.ops [mv 28 9,op 29 (.bin .add (.r 28) (.c (.int .i64 1))),mv 7 29]) (.ops [mv 30 9,mv 8 30])))))<|so [mv 31 7,mv 32 7,mv 33 6,b2 34 .lss 32 33,mv 35 34,mt 36 0 35,mt 37 7 35,gt 38 35 (.eI 1 (.r 36) (.r 37)),gt 39 35 (.ld 1 false (.r 38)),mt 40 1 35,gt 41 35 (.bin .eql (.r 39) (.r 40)),mt 42 41 35,mf 43 0 42,mf 44 7 42,gf 45 42 (.eI 1 (.r 43) (.r 44)),gf 46 42 (.ld 1 false (.r 45)),⟨(some 47),.call 151 [.r 46],(some (42,false)),[]⟩,mf 48 47 42,mt 49 1 48,⟨(some 50),.call 151 [.r 49],(some (48,true)),[]⟩,gf 51 42 (.pick (.r 48) (.r 50) (.c (.bool false))),gt 52 35 (.pick (.r 42) (.c (.bool true)) (.r 51)),op 53 (.pick (.r 35) (.r 52) (.c (.bool false))),mv 4 31,mv 5 53]<|.ret⟩
def SJ:An:=⟨[],[]⟩
def FK:Go.Rmp.Fn:=⟨17,2,[.t 4],so [op 4 (.ay (.c (.bool false)))]<|so [mv 5 0,cl 6 120 [.r 5],mv 7 6,mt 8 1 7,⟨(some 9),.call 120 [.r 8],(some (7,true)),[]⟩,gt 10 7 (.un .not (.r 9)),op 11 (.pick (.r 7) (.r 10) (.c (.bool false))),mv 12 11,mf 13 0 12,mf 14 1 12,gf 15 12 (.bin .lss (.r 13) (.r 14)),op 16 (.pick (.r 12) (.c (.bool true)) (.r 15)),mv 4 16]<|.ret⟩
def SL:An:=⟨[],[]⟩
def FL:Go.Rmp.Fn:=⟨6,1,[.t 2],so [op 2 (.ay (.c (.bool false)))]<|so [mv 3 0,mv 4 0,b2 5 .neq 3 4,mv 2 5]<|.ret⟩
def SM:An:=⟨[],[]⟩
def FM:Go.Rmp.Fn:=⟨19,2,[.t 4],so [op 4 (.ay (.c (.int .i64 0)))]<|sq (so [mv 6 0,fm 7 6,op 8 (.ay (.c (.int .i64 0)))]<|.block 0 (.loop (so [b2 9 .lss 8 7]<|sq (cx 9 0)<|sq (.block 1 (so [mv 10 8,mv 5 10]<|so [mv 11 1,mv 12 0,mv 13 5,ia 14 1 12 13,l1 15 14,⟨(some 16),.bD (.r 11) [.r 15],none,[]⟩]<|.cond (.r 16) (so [mv 17 5,mv 4 17]<|.ret) (.skip)))<|.ops [op 18 (.bin .add (.r 8) (.c (.int .i64 1))),mv 8 18])))<|so [op 4 (.ay (.c (.int .i64 (-1))))]<|.ret⟩
def SN:An:=⟨[],[]⟩
def FN:Go.Rmp.Fn:=⟨19,2,[.t 4],so [op 4 (.ay (.c (.int .i64 0)))]<|sq (so [mv 6 0,fm 7 6,op 8 (.ay (.c (.int .i64 0)))]<|.block 0 (.loop (so [b2 9 .lss 8 7]<|sq (cx 9 0)<|sq (.block 1 (so [mv 10 8,mv 5 10]<|so [mv 11 1,mv 12 0,mv 13 5,ia 14 1 12 13,l1 15 14,⟨(some 16),.bD (.r 11) [.r 15],none,[]⟩]<|.cond (.r 16) (so [mv 17 5,mv 4 17]<|.ret) (.skip)))<|.ops [op 18 (.bin .add (.r 8) (.c (.int .i64 1))),mv 8 18])))<|so [op 4 (.ay (.c (.int .i64 (-1))))]<|.ret⟩
def SO:An:=⟨[],[(4,[(0,true),(1,true),(2,true),(3,true),(4,true),(5,true),(6,true),(7,true),(8,true),(9,true),(10,true),(11,true),(12,true),(13,true),(14,false),(15,true),(16,true)]),(6,[(0,true),(1,true),(2,true),(3,true),(4,true),(5,true),(6,true),(7,true),(8,true),(9,true),(10,true),(11,true),(12,true),(13,true),(14,true),(15,false),(16,true),(17,false)])]⟩
def AA:Go.Rmp.Fn:=⟨53,4,[],so [mv 10 1,op 11 (.bin .add (.r 10) (.c (.int .i64 1))),mv 8 11]<|.block 0 (.loop (sq (so [mv 12 8,mv 13 2,b2 14 .lss 12 13]<|cx 14 0)<|sq (.block 1 (so [mv 17 8,mv 9 17]<|.block 2 (.loop (sq (so [mv 18 9,mv 19 1,b2 20 .gtr 18 19,mv 21 20,mt 22 3 21,mt 23 0 21,mt 24 9 21,gt 25 21 (.eI 2 (.r 23) (.r 24)),gt 26 21 (.ld 2 true (.r 25)),mt 27 0 21,mt 28 9 21,gt 29 21 (.bin .sub (.r 28) (.c (.int .i64 1))),gt 30 21 (.eI 2 (.r 27) (.r 29)),gt 31 21 (.ld 2 true (.r 30)),⟨(some 32),.bD (.r 22) [.r 26,.r 31],(some (21,true)),[]⟩,gt 33 21 (.bin .lss (.r 32) (.c (.int .i64 0))),op 34 (.pick (.r 21) (.r 33) (.c (.bool false)))]<|cx 34 2)<|sq (.block 3 (.ops [mv 37 0,mv 38 9,mv 39 0,mv 40 9,op 41 (.bin .sub (.r 40) (.c (.int .i64 1))),mv 42 0,mv 43 9,op 44 (.bin .sub (.r 43) (.c (.int .i64 1))),ia 45 2 42 44,ln 46 2 45,mv 47 0,mv 48 9,ia 49 2 47 48,ln 50 2 49,ia 51 2 37 38,se 2 51 46,ia 52 2 39 41,se 2 52 50]))<|.ops [mv 35 9,op 36 (.bin .sub (.r 35) (.c (.int .i64 1))),mv 9 36]))))<|.ops [mv 15 8,op 16 (.bin .add (.r 15) (.c (.int .i64 1))),mv 8 16]))⟩
def SP:An:=⟨[],[(10,[(0,true),(1,true),(2,true),(3,true),(4,true),(5,true),(6,true),(7,true),(8,true),(9,true),(10,true),(11,true),(12,true),(13,true),(14,true),(15,true),(16,true),(17,false),(18,true),(19,false)])]⟩
def FO:Go.Rmp.Fn:=⟨60,4,[],so [mv 13 1,mv 8 13]<|so [op 9 (.ay (.c (.int .i64 0)))]<|so [mv 14 2,mv 15 1,b2 16 .sub 14 15,mv 10 16]<|sq (so [mv 17 10,op 18 (.bin .sub (.r 17) (.c (.int .i64 1))),op 19 (.bin .quo (.r 18) (.c (.int .i64 2))),mv 11 19]<|.block 0 (.loop (sq (so [mv 20 11,op 21 (.bin .geq (.r 20) (.c (.int .i64 0)))]<|cx 21 0)<|sq (.block 1 (.ops [mv 24 0,mv 25 11,mv 26 10,mv 27 8,mv 28 3,cl 29 153 [.r 24,.r 25,.r 26,.r 27,.r 28]]))<|.ops [mv 22 11,op 23 (.bin .sub (.r 22) (.c (.int .i64 1))),mv 11 23])))<|so [mv 30 10,op 31 (.bin .sub (.r 30) (.c (.int .i64 1))),mv 12 31]<|.block 2 (.loop (sq (so [mv 32 12,op 33 (.bin .geq (.r 32) (.c (.int .i64 0)))]<|cx 33 2)<|sq (.block 3 (so [mv 36 0,mv 37 8,mv 38 0,mv 39 8,mv 40 12,b2 41 .add 39 40,mv 42 0,mv 43 8,mv 44 12,b2 45 .add 43 44,ia 46 2 42 45,ln 47 2 46,mv 48 0,mv 49 8,ia 50 2 48 49,ln 51 2 50,ia 52 2 36 37,se 2 52 47,ia 53 2 38 41,se 2 53 51]<|.ops [mv 54 0,mv 55 9,mv 56 12,mv 57 8,mv 58 3,cl 59 153 [.r 54,.r 55,.r 56,.r 57,.r 58]]))<|.ops [mv 34 12,op 35 (.bin .sub (.r 34) (.c (.int .i64 1))),mv 12 35]))⟩
def SQ:An:=⟨[],[(10,[(0,true),(1,true),(2,true),(3,true),(4,true),(5,true),(6,true),(7,true),(8,true),(9,true),(10,true),(11,true),(12,true),(13,true),(14,true),(15,true),(16,true),(17,false),(18,true),(19,false)])]⟩
def FP:Go.Rmp.Fn:=⟨67,4,[],so [mv 13 2,mv 14 1,b2 15 .sub 13 14,mv 8 15]<|so [mv 16 8,op 17 (.bin .geq (.r 16) (.c (.int .i64 8)))]<|.cond (.r 17) (so [mv 18 8,op 19 (.iC .u64 (.r 18)),op 9 (.alloc [.int .u64 0]),se 1 9 19]<|so [mv 20 8,cl 21 154 [.r 20],mv 10 21]<|so [mv 22 1,mv 23 8,op 24 (.bin .quo (.r 23) (.c (.int .i64 4))),op 25 (.bin .mul (.r 24) (.c (.int .i64 2))),b2 26 .add 22 25,op 27 (.bin .sub (.r 26) (.c (.int .i64 1))),mv 11 27]<|.block 0 (.loop (sq (so [mv 28 11,mv 29 1,mv 30 8,op 31 (.bin .quo (.r 30) (.c (.int .i64 4))),op 32 (.bin .mul (.r 31) (.c (.int .i64 2))),b2 33 .add 29 32,op 34 (.bin .add (.r 33) (.c (.int .i64 1))),b2 35 .leq 28 34]<|cx 35 0)<|sq (.block 1 (so [cl 38 155 [.r 9],mv 39 10,op 40 (.bin .sub (.r 39) (.c (.int .u64 1))),b2 41 .and 38 40,op 42 (.iC .i64 (.r 41)),mv 12 42]<|sq (so [mv 43 12,mv 44 8,b2 45 .geq 43 44]<|.cond (.r 45) (.ops [mv 46 12,mv 47 8,b2 48 .sub 46 47,mv 12 48]) (.skip))<|.ops [mv 49 0,mv 50 11,mv 51 0,mv 52 1,mv 53 12,b2 54 .add 52 53,mv 55 0,mv 56 1,mv 57 12,b2 58 .add 56 57,ia 59 2 55 58,ln 60 2 59,mv 61 0,mv 62 11,ia 63 2 61 62,ln 64 2 63,ia 65 2 49 50,se 2 65 60,ia 66 2 51 54,se 2 66 64]))<|.ops [mv 36 11,op 37 (.bin .add (.r 36) (.c (.int .i64 1))),mv 11 37]))) (.skip)⟩
def SS:An:=⟨[],[]⟩
def AB:Go.Rmp.Fn:=⟨63,4,[.t 8,.t 9],so [op 8 (.ay (.c (.int .i64 0))),op 9 (.ay (.c (.int .i64 0)))]<|so [mv 15 2,mv 16 1,b2 17 .sub 15 16,mv 10 17]<|so [op 11 (.alloc [.int .i64 0])]<|so [mv 18 1,mv 19 10,op 20 (.bin .quo (.r 19) (.c (.int .i64 4))),op 21 (.bin .mul (.r 20) (.c (.int .i64 1))),b2 22 .add 18 21,mv 12 22]<|so [mv 23 1,mv 24 10,op 25 (.bin .quo (.r 24) (.c (.int .i64 4))),op 26 (.bin .mul (.r 25) (.c (.int .i64 2))),b2 27 .add 23 26,mv 13 27]<|so [mv 28 1,mv 29 10,op 30 (.bin .quo (.r 29) (.c (.int .i64 4))),op 31 (.bin .mul (.r 30) (.c (.int .i64 3))),b2 32 .add 28 31,mv 14 32]<|sq (so [mv 33 10,op 34 (.bin .geq (.r 33) (.c (.int .i64 8)))]<|.cond (.r 34) (sq (so [mv 35 10,op 36 (.bin .geq (.r 35) (.c (.int .i64 50)))]<|.cond (.r 36) (so [mv 37 0,mv 38 12,mv 39 3,cl 40 156 [.r 37,.r 38,.r 11,.r 39],mv 12 40]<|so [mv 41 0,mv 42 13,mv 43 3,cl 44 156 [.r 41,.r 42,.r 11,.r 43],mv 13 44]<|.ops [mv 45 0,mv 46 14,mv 47 3,cl 48 156 [.r 45,.r 46,.r 11,.r 47],mv 14 48]) (.skip))<|.ops [mv 49 0,mv 50 12,mv 51 13,mv 52 14,mv 53 3,cl 54 157 [.r 49,.r 50,.r 51,.r 52,.r 11,.r 53],mv 13 54]) (.skip))<|so [l1 55 11]<|.block 0 (so [op 58 (.bin .eql (.r 55) (.c (.int .i64 0))),mv 57 58]<|.cond (.r 57) (so [mv 59 13,mv 8 59,op 9 (.ay (.c (.int .i64 1)))]<|.ret) (so [op 61 (.bin .eql (.r 55) (.c (.int .i64 12))),mv 60 61]<|.cond (.r 60) (so [mv 62 13,mv 8 62,op 9 (.ay (.c (.int .i64 2)))]<|.ret) (so [mv 56 13,mv 8 56,op 9 (.ay (.c (.int .i64 0)))]<|.ret)))⟩
def SU:An:=⟨[],[(3,[(0,true),(1,true),(2,true),(3,true),(4,true),(5,true),(6,true),(7,true),(8,true),(9,true),(10,true),(11,true),(12,true),(13,false),(14,true),(15,false)])]⟩
def FQ:Go.Rmp.Fn:=⟨34,4,[],so [mv 10 1,mv 8 10]<|so [mv 11 2,op 12 (.bin .sub (.r 11) (.c (.int .i64 1))),mv 9 12]<|.block 0 (.loop (sq (so [mv 13 8,mv 14 9,b2 15 .lss 13 14]<|cx 15 0)<|.block 1 (so [mv 16 0,mv 17 8,mv 18 0,mv 19 9,mv 20 0,mv 21 9,ia 22 2 20 21,ln 23 2 22,mv 24 0,mv 25 8,ia 26 2 24 25,ln 27 2 26,ia 28 2 16 17,se 2 28 23,ia 29 2 18 19,se 2 29 27]<|so [mv 30 8,op 31 (.bin .add (.r 30) (.c (.int .i64 1))),mv 8 31]<|.ops [mv 32 9,op 33 (.bin .sub (.r 32) (.c (.int .i64 1))),mv 9 33])))⟩
def SV:An:=⟨[],[(5,[(0,true),(1,true),(2,true),(3,true),(4,true),(5,true),(6,true),(7,true),(8,true),(9,true),(10,true),(11,true),(12,true),(13,true),(14,false),(15,true),(16,true),(17,true)]),(11,[(0,true),(1,true),(2,true),(3,true),(4,true),(5,true),(6,true),(7,true),(8,true),(9,true),(10,true),(11,true),(12,true),(13,true),(14,true),(15,false),(16,true),(17,false)]),(16,[(0,true),(1,true),(2,true),(3,true),(4,true),(5,true),(6,true),(7,true),(8,true),(9,true),(10,false),(11,true),(12,true)]),(17,[(0,true),(1,true),(2,true),(3,true),(4,true),(5,true),(6,true),(7,true),(8,true),(9,true),(10,true),(11,true),(12,true),(13,true),(14,true),(15,false),(16,true),(17,false)]),(22,[(0,true),(1,true),(2,true),(3,true),(4,true),(5,true),(6,true),(7,true),(8,true),(9,true),(10,false),(11,true),(12,true)]),(23,[(0,true),(1,true),(2,true),(3,true),(4,true),(5,true),(6,true),(7,true),(8,true),(9,true),(10,true),(11,true),(12,true),(13,true),(14,true),(15,false),(16,true),(17,false)])]⟩
def FR:Go.Rmp.Fn:=⟨141,4,[.t 8],so [op 8 (.ay (.c (.bool false)))]<|so [mv 13 1,op 14 (.bin .add (.r 13) (.c (.int .i64 1))),mv 9 14]<|sq (so [op 10 (.ay (.c (.int .i64 0)))]<|.block 0 (.loop (sq (so [mv 15 10,op 16 (.bin .lss (.r 15) (.c (.int .i64 5)))]<|cx 16 0)<|sq (.block 1 (sq (.block 2 (.loop (sq (so [mv 19 9,mv 20 2,b2 21 .lss 19 20,mv 22 21,mt 23 3 22,mt 24 0 22,mt 25 9 22,gt 26 22 (.eI 2 (.r 24) (.r 25)),gt 27 22 (.ld 2 true (.r 26)),mt 28 0 22,mt 29 9 22,gt 30 22 (.bin .sub (.r 29) (.c (.int .i64 1))),gt 31 22 (.eI 2 (.r 28) (.r 30)),gt 32 22 (.ld 2 true (.r 31)),⟨(some 33),.bD (.r 23) [.r 27,.r 32],(some (22,true)),[]⟩,gt 34 22 (.bin .lss (.r 33) (.c (.int .i64 0))),gt 35 22 (.un .not (.r 34)),op 36 (.pick (.r 22) (.r 35) (.c (.bool false)))]<|cx 36 2)<|.block 3 (.ops [mv 37 9,op 38 (.bin .add (.r 37) (.c (.int .i64 1))),mv 9 38]))))<|sq (so [mv 39 9,mv 40 2,b2 41 .eql 39 40]<|.cond (.r 41) (so [op 8 (.ay (.c (.bool true)))]<|.ret) (.skip))<|sq (so [mv 42 2,mv 43 1,b2 44 .sub 42 43,op 45 (.bin .lss (.r 44) (.c (.int .i64 50)))]<|.cond (.r 45) (so [op 8 (.ay (.c (.bool false)))]<|.ret) (.skip))<|so [mv 46 0,mv 47 9,mv 48 0,mv 49 9,op 50 (.bin .sub (.r 49) (.c (.int .i64 1))),mv 51 0,mv 52 9,op 53 (.bin .sub (.r 52) (.c (.int .i64 1))),ia 54 2 51 53,ln 55 2 54,mv 56 0,mv 57 9,ia 58 2 56 57,ln 59 2 58,ia 60 2 46 47,se 2 60 55,ia 61 2 48 50,se 2 61 59]<|sq (so [mv 62 9,mv 63 1,b2 64 .sub 62 63,op 65 (.bin .geq (.r 64) (.c (.int .i64 2)))]<|.cond (.r 65) (so [mv 66 9,op 67 (.bin .sub (.r 66) (.c (.int .i64 1))),mv 11 67]<|.block 4 (.loop (sq (so [mv 68 11,op 69 (.bin .geq (.r 68) (.c (.int .i64 1)))]<|cx 69 4)<|sq (.block 5 (sq (so [mv 72 3,mv 73 0,mv 74 11,ia 75 2 73 74,ln 76 2 75,mv 77 0,mv 78 11,op 79 (.bin .sub (.r 78) (.c (.int .i64 1))),ia 80 2 77 79,ln 81 2 80,⟨(some 82),.bD (.r 72) [.r 76,.r 81],none,[]⟩,op 83 (.bin .lss (.r 82) (.c (.int .i64 0))),op 84 (.un .not (.r 83))]<|.cond (.r 84) (.exit 4) (.skip))<|.ops [mv 85 0,mv 86 11,mv 87 0,mv 88 11,op 89 (.bin .sub (.r 88) (.c (.int .i64 1))),mv 90 0,mv 91 11,op 92 (.bin .sub (.r 91) (.c (.int .i64 1))),ia 93 2 90 92,ln 94 2 93,mv 95 0,mv 96 11,ia 97 2 95 96,ln 98 2 97,ia 99 2 85 86,se 2 99 94,ia 100 2 87 89,se 2 100 98]))<|.ops [mv 70 11,op 71 (.bin .sub (.r 70) (.c (.int .i64 1))),mv 11 71]))) (.skip))<|so [mv 101 2,mv 102 9,b2 103 .sub 101 102,op 104 (.bin .geq (.r 103) (.c (.int .i64 2)))]<|.cond (.r 104) (so [mv 105 9,op 106 (.bin .add (.r 105) (.c (.int .i64 1))),mv 12 106]<|.block 6 (.loop (sq (so [mv 107 12,mv 108 2,b2 109 .lss 107 108]<|cx 109 6)<|sq (.block 7 (sq (so [mv 112 3,mv 113 0,mv 114 12,ia 115 2 113 114,ln 116 2 115,mv 117 0,mv 118 12,op 119 (.bin .sub (.r 118) (.c (.int .i64 1))),ia 120 2 117 119,ln 121 2 120,⟨(some 122),.bD (.r 112) [.r 116,.r 121],none,[]⟩,op 123 (.bin .lss (.r 122) (.c (.int .i64 0))),op 124 (.un .not (.r 123))]<|.cond (.r 124) (.exit 6) (.skip))<|.ops [mv 125 0,mv 126 12,mv 127 0,mv 128 12,op 129 (.bin .sub (.r 128) (.c (.int .i64 1))),mv 130 0,mv 131 12,op 132 (.bin .sub (.r 131) (.c (.int .i64 1))),ia 133 2 130 132,ln 134 2 133,mv 135 0,mv 136 12,ia 137 2 135 136,ln 138 2 137,ia 139 2 125 126,se 2 139 134,ia 140 2 127 129,se 2 140 138]))<|.ops [mv 110 12,op 111 (.bin .add (.r 110) (.c (.int .i64 1))),mv 12 111]))) (.skip)))<|.ops [mv 17 10,op 18 (.bin .add (.r 17) (.c (.int .i64 1))),mv 10 18])))<|so [op 8 (.ay (.c (.bool false)))]<|.ret⟩
def SW:An:=⟨[],[(1,[(0,true),(1,true),(2,true),(3,true),(4,true),(5,true),(6,true),(7,true),(8,true),(9,true),(10,true),(11,true),(12,true),(13,false),(14,true),(15,false)]),(3,[(0,true),(1,true),(2,true),(3,true),(4,true),(5,true),(6,true),(7,true),(8,true),(9,true),(10,true),(11,true),(12,true),(13,false),(14,true),(15,true),(16,true)]),(5,[(0,true),(1,true),(2,true),(3,true),(4,true),(5,true),(6,true),(7,true),(8,true),(9,true),(10,true),(11,true),(12,true),(13,false),(14,true),(15,true)]),(8,[(0,true),(1,true),(2,true),(3,true),(4,true),(5,true),(6,true),(7,true),(8,true),(9,true),(10,true),(11,true),(12,true),(13,false),(14,true),(15,false)])]⟩
def FT:Go.Rmp.Fn:=⟨90,5,[.t 10],so [op 10 (.ay (.c (.int .i64 0)))]<|so [mv 13 0,mv 14 1,mv 15 0,mv 16 3,mv 17 0,mv 18 3,ia 19 2 17 18,ln 20 2 19,mv 21 0,mv 22 1,ia 23 2 21 22,ln 24 2 23,ia 25 2 13 14,se 2 25 20,ia 26 2 15 16,se 2 26 24]<|so [mv 27 1,op 28 (.bin .add (.r 27) (.c (.int .i64 1))),mv 29 2,op 30 (.bin .sub (.r 29) (.c (.int .i64 1))),mv 11 28,mv 12 30]<|sq (.block 0 (.loop (.block 1 (sq (.block 2 (.loop (sq (so [mv 31 11,mv 32 12,b2 33 .leq 31 32,mv 34 33,mt 35 4 34,mt 36 0 34,mt 37 1 34,gt 38 34 (.eI 2 (.r 36) (.r 37)),gt 39 34 (.ld 2 true (.r 38)),mt 40 0 34,mt 41 11 34,gt 42 34 (.eI 2 (.r 40) (.r 41)),gt 43 34 (.ld 2 true (.r 42)),⟨(some 44),.bD (.r 35) [.r 39,.r 43],(some (34,true)),[]⟩,gt 45 34 (.bin .lss (.r 44) (.c (.int .i64 0))),gt 46 34 (.un .not (.r 45)),op 47 (.pick (.r 34) (.r 46) (.c (.bool false)))]<|cx 47 2)<|.block 3 (.ops [mv 48 11,op 49 (.bin .add (.r 48) (.c (.int .i64 1))),mv 11 49]))))<|sq (.block 4 (.loop (sq (so [mv 50 11,mv 51 12,b2 52 .leq 50 51,mv 53 52,mt 54 4 53,mt 55 0 53,mt 56 1 53,gt 57 53 (.eI 2 (.r 55) (.r 56)),gt 58 53 (.ld 2 true (.r 57)),mt 59 0 53,mt 60 12 53,gt 61 53 (.eI 2 (.r 59) (.r 60)),gt 62 53 (.ld 2 true (.r 61)),⟨(some 63),.bD (.r 54) [.r 58,.r 62],(some (53,true)),[]⟩,gt 64 53 (.bin .lss (.r 63) (.c (.int .i64 0))),op 65 (.pick (.r 53) (.r 64) (.c (.bool false)))]<|cx 65 4)<|.block 5 (.ops [mv 66 12,op 67 (.bin .sub (.r 66) (.c (.int .i64 1))),mv 12 67]))))<|sq (so [mv 68 11,mv 69 12,b2 70 .gtr 68 69]<|.cond (.r 70) (.exit 0) (.skip))<|so [mv 71 0,mv 72 11,mv 73 0,mv 74 12,mv 75 0,mv 76 12,ia 77 2 75 76,ln 78 2 77,mv 79 0,mv 80 11,ia 81 2 79 80,ln 82 2 81,ia 83 2 71 72,se 2 83 78,ia 84 2 73 74,se 2 84 82]<|so [mv 85 11,op 86 (.bin .add (.r 85) (.c (.int .i64 1))),mv 11 86]<|.ops [mv 87 12,op 88 (.bin .sub (.r 87) (.c (.int .i64 1))),mv 12 88]))))<|so [mv 89 11,mv 10 89]<|.ret⟩
def SX:An:=⟨[],[(1,[(0,true),(1,true),(2,true),(3,true),(4,true),(5,true),(6,true),(7,true),(8,true),(9,true),(10,true),(11,true),(12,true),(13,false),(14,true),(15,false)]),(3,[(0,true),(1,true),(2,true),(3,true),(4,true),(5,true),(6,true),(7,true),(8,true),(9,true),(10,true),(11,true),(12,true),(13,false),(14,true),(15,true)]),(5,[(0,true),(1,true),(2,true),(3,true),(4,true),(5,true),(6,true),(7,true),(8,true),(9,true),(10,true),(11,true),(12,true),(13,false),(14,true),(15,true),(16,true)]),(8,[(0,true),(1,true),(2,true),(3,true),(4,true),(5,true),(6,true),(7,true),(8,true),(9,true),(10,true),(11,true),(12,true),(13,false),(14,true),(15,false)]),(10,[(0,true),(1,true),(2,true),(3,true),(4,true),(5,true),(6,true),(7,true),(8,true),(9,true),(10,true),(11,true),(12,true),(13,false),(14,true),(15,false)]),(13,[(0,true),(1,true),(2,true),(3,true),(4,true),(5,true),(6,true),(7,true),(8,true),(9,true),(10,true),(11,true),(12,true),(13,false),(14,true),(15,true)]),(15,[(0,true),(1,true),(2,true),(3,true),(4,true),(5,true),(6,true),(7,true),(8,true),(9,true),(10,true),(11,true),(12,true),(13,false),(14,true),(15,true),(16,true)]),(18,[(0,true),(1,true),(2,true),(3,true),(4,true),(5,true),(6,true),(7,true),(8,true),(9,true),(10,true),(11,true),(12,true),(13,false),(14,true),(15,false)]),(21,[(0,true),(1,true),(2,true),(3,true),(4,true),(5,true),(6,true),(7,true),(8,true),(9,true),(10,true),(11,true),(12,true),(13,false),(14,true),(15,false)])]⟩
def FU:Go.Rmp.Fn:=⟨178,5,[.t 10,.t 11],so [op 10 (.ay (.c (.int .i64 0))),op 11 (.ay (.c (.bool false)))]<|so [mv 14 0,mv 15 1,mv 16 0,mv 17 3,mv 18 0,mv 19 3,ia 20 2 18 19,ln 21 2 20,mv 22 0,mv 23 1,ia 24 2 22 23,ln 25 2 24,ia 26 2 14 15,se 2 26 21,ia 27 2 16 17,se 2 27 25]<|so [mv 28 1,op 29 (.bin .add (.r 28) (.c (.int .i64 1))),mv 30 2,op 31 (.bin .sub (.r 30) (.c (.int .i64 1))),mv 12 29,mv 13 31]<|sq (.block 0 (.loop (sq (so [mv 32 12,mv 33 13,b2 34 .leq 32 33,mv 35 34,mt 36 4 35,mt 37 0 35,mt 38 12 35,gt 39 35 (.eI 2 (.r 37) (.r 38)),gt 40 35 (.ld 2 true (.r 39)),mt 41 0 35,mt 42 1 35,gt 43 35 (.eI 2 (.r 41) (.r 42)),gt 44 35 (.ld 2 true (.r 43)),⟨(some 45),.bD (.r 36) [.r 40,.r 44],(some (35,true)),[]⟩,gt 46 35 (.bin .lss (.r 45) (.c (.int .i64 0))),op 47 (.pick (.r 35) (.r 46) (.c (.bool false)))]<|cx 47 0)<|.block 1 (.ops [mv 48 12,op 49 (.bin .add (.r 48) (.c (.int .i64 1))),mv 12 49]))))<|sq (.block 2 (.loop (sq (so [mv 50 12,mv 51 13,b2 52 .leq 50 51,mv 53 52,mt 54 4 53,mt 55 0 53,mt 56 13 53,gt 57 53 (.eI 2 (.r 55) (.r 56)),gt 58 53 (.ld 2 true (.r 57)),mt 59 0 53,mt 60 1 53,gt 61 53 (.eI 2 (.r 59) (.r 60)),gt 62 53 (.ld 2 true (.r 61)),⟨(some 63),.bD (.r 54) [.r 58,.r 62],(some (53,true)),[]⟩,gt 64 53 (.bin .lss (.r 63) (.c (.int .i64 0))),gt 65 53 (.un .not (.r 64)),op 66 (.pick (.r 53) (.r 65) (.c (.bool false)))]<|cx 66 2)<|.block 3 (.ops [mv 67 13,op 68 (.bin .sub (.r 67) (.c (.int .i64 1))),mv 13 68]))))<|sq (so [mv 69 12,mv 70 13,b2 71 .gtr 69 70]<|.cond (.r 71) (so [mv 72 0,mv 73 13,mv 74 0,mv 75 1,mv 76 0,mv 77 1,ia 78 2 76 77,ln 79 2 78,mv 80 0,mv 81 13,ia 82 2 80 81,ln 83 2 82,ia 84 2 72 73,se 2 84 79,ia 85 2 74 75,se 2 85 83]<|so [mv 86 13,mv 10 86,op 11 (.ay (.c (.bool true)))]<|.ret) (.skip))<|so [mv 87 0,mv 88 12,mv 89 0,mv 90 13,mv 91 0,mv 92 13,ia 93 2 91 92,ln 94 2 93,mv 95 0,mv 96 12,ia 97 2 95 96,ln 98 2 97,ia 99 2 87 88,se 2 99 94,ia 100 2 89 90,se 2 100 98]<|so [mv 101 12,op 102 (.bin .add (.r 101) (.c (.int .i64 1))),mv 12 102]<|so [mv 103 13,op 104 (.bin .sub (.r 103) (.c (.int .i64 1))),mv 13 104]<|sq (.block 4 (.loop (.block 5 (sq (.block 6 (.loop (sq (so [mv 105 12,mv 106 13,b2 107 .leq 105 106,mv 108 107,mt 109 4 108,mt 110 0 108,mt 111 12 108,gt 112 108 (.eI 2 (.r 110) (.r 111)),gt 113 108 (.ld 2 true (.r 112)),mt 114 0 108,mt 115 1 108,gt 116 108 (.eI 2 (.r 114) (.r 115)),gt 117 108 (.ld 2 true (.r 116)),⟨(some 118),.bD (.r 109) [.r 113,.r 117],(some (108,true)),[]⟩,gt 119 108 (.bin .lss (.r 118) (.c (.int .i64 0))),op 120 (.pick (.r 108) (.r 119) (.c (.bool false)))]<|cx 120 6)<|.block 7 (.ops [mv 121 12,op 122 (.bin .add (.r 121) (.c (.int .i64 1))),mv 12 122]))))<|sq (.block 8 (.loop (sq (so [mv 123 12,mv 124 13,b2 125 .leq 123 124,mv 126 125,mt 127 4 126,mt 128 0 126,mt 129 13 126,gt 130 126 (.eI 2 (.r 128) (.r 129)),gt 131 126 (.ld 2 true (.r 130)),mt 132 0 126,mt 133 1 126,gt 134 126 (.eI 2 (.r 132) (.r 133)),gt 135 126 (.ld 2 true (.r 134)),⟨(some 136),.bD (.r 127) [.r 131,.r 135],(some (126,true)),[]⟩,gt 137 126 (.bin .lss (.r 136) (.c (.int .i64 0))),gt 138 126 (.un .not (.r 137)),op 139 (.pick (.r 126) (.r 138) (.c (.bool false)))]<|cx 139 8)<|.block 9 (.ops [mv 140 13,op 141 (.bin .sub (.r 140) (.c (.int .i64 1))),mv 13 141]))))<|sq (so [mv 142 12,mv 143 13,b2 144 .gtr 142 143]<|.cond (.r 144) (.exit 4) (.skip))<|so [mv 145 0,mv 146 12,mv 147 0,mv 148 13,mv 149 0,mv 150 13,ia 151 2 149 150,ln 152 2 151,mv 153 0,mv 154 12,ia 155 2 153 154,ln 156 2 155,ia 157 2 145 146,se 2 157 152,ia 158 2 147 148,se 2 158 156]<|so [mv 159 12,op 160 (.bin .add (.r 159) (.c (.int .i64 1))),mv 12 160]<|.ops [mv 161 13,op 162 (.bin .sub (.r 161) (.c (.int .i64 1))),mv 13 162]))))<|so [mv 163 0,mv 164 13,mv 165 0,mv 166 1,mv 167 0,mv 168 1,ia 169 2 167 168,ln 170 2 169,mv 171 0,mv 172 13,ia 173 2 171 172,ln 174 2 173,ia 175 2 163 164,se 2 175 170,ia 176 2 165 166,se 2 176 174]<|so [mv 177 13,mv 10 177,op 11 (.ay (.c (.bool false)))]<|.ret⟩
def SY:An:=⟨[],[]⟩
def uf:Go.Rmp.Fn:=⟨25,1,[.t 2],so [op 2 (.ay (.c (.int .i64 0)))]<|sq (so [mv 3 0,op 4 (.bin .geq (.r 3) (.c (.int .u64 4294967296)))]<|.cond (.r 4) (so [mv 5 0,op 6 (.bin .shr (.r 5) (.c (.int .u64 32))),mv 0 6]<|.ops [op 2 (.ay (.c (.int .i64 32)))]) (.skip))<|sq (so [mv 7 0,op 8 (.bin .geq (.r 7) (.c (.int .u64 65536)))]<|.cond (.r 8) (so [mv 9 0,op 10 (.bin .shr (.r 9) (.c (.int .u64 16))),mv 0 10]<|.ops [mv 11 2,op 12 (.bin .add (.r 11) (.c (.int .i64 16))),mv 2 12]) (.skip))<|sq (so [mv 13 0,op 14 (.bin .geq (.r 13) (.c (.int .u64 256)))]<|.cond (.r 14) (so [mv 15 0,op 16 (.bin .shr (.r 15) (.c (.int .u64 8))),mv 0 16]<|.ops [mv 17 2,op 18 (.bin .add (.r 17) (.c (.int .i64 8))),mv 2 18]) (.skip))<|so [mv 19 2,mv 20 0,op 21 (.iC .u8 (.r 20)),op 22 (.QU (.c (.str ⟨#[0,1,2,2,3,3,3,3,4,4,4,4,4,4,4,4,5,5,5,5,5,5,5,5,5,5,5,5,5,5,5,5,6,6,6,6,6,6,6,6,6,6,6,6,6,6,6,6,6,6,6,6,6,6,6,6,6,6,6,6,6,6,6,6,7,7,7,7,7,7,7,7,7,7,7,7,7,7,7,7,7,7,7,7,7,7,7,7,7,7,7,7,7,7,7,7,7,7,7,7,7,7,7,7,7,7,7,7,7,7,7,7,7,7,7,7,7,7,7,7,7,7,7,7,7,7,7,7,8,8,8,8,8,8,8,8,8,8,8,8,8,8,8,8,8,8,8,8,8,8,8,8,8,8,8,8,8,8,8,8,8,8,8,8,8,8,8,8,8,8,8,8,8,8,8,8,8,8,8,8,8,8,8,8,8,8,8,8,8,8,8,8,8,8,8,8,8,8,8,8,8,8,8,8,8,8,8,8,8,8,8,8,8,8,8,8,8,8,8,8,8,8,8,8,8,8,8,8,8,8,8,8,8,8,8,8,8,8,8,8,8,8,8,8,8,8,8,8,8,8,8,8,8,8,8,8]⟩)) (.r 21)),op 23 (.iC .i64 (.r 22)),b2 24 .add 19 23,mv 2 24]<|.ret⟩
def SZ:An:=⟨[],[(4,[(0,true),(1,true),(2,true),(3,true),(4,true),(5,true),(6,true),(7,true),(8,true),(9,true),(10,true),(11,true),(12,true),(13,false),(14,true)]),(6,[(0,true),(1,true),(2,true),(3,true),(4,true),(5,true),(6,true),(7,true),(8,true),(9,true),(10,true),(11,true),(12,true),(13,true),(14,true),(15,false),(16,true),(17,false)])]⟩
def AD:Go.Rmp.Fn:=⟨49,3,[],so [mv 8 1,op 9 (.bin .add (.r 8) (.c (.int .i64 1))),mv 6 9]<|.block 0 (.loop (sq (so [mv 10 6,mv 11 2,b2 12 .lss 10 11]<|cx 12 0)<|sq (.block 1 (so [mv 15 6,mv 7 15]<|.block 2 (.loop (sq (so [mv 16 7,mv 17 1,b2 18 .gtr 16 17,mv 19 18,mt 20 0 19,mt 21 7 19,gt 22 19 (.eI 1 (.r 20) (.r 21)),gt 23 19 (.ld 1 false (.r 22)),mt 24 0 19,mt 25 7 19,gt 26 19 (.bin .sub (.r 25) (.c (.int .i64 1))),gt 27 19 (.eI 1 (.r 24) (.r 26)),gt 28 19 (.ld 1 false (.r 27)),⟨(some 29),.call 148 [.r 23,.r 28],(some (19,true)),[]⟩,op 30 (.pick (.r 19) (.r 29) (.c (.bool false)))]<|cx 30 2)<|sq (.block 3 (.ops [mv 33 0,mv 34 7,mv 35 0,mv 36 7,op 37 (.bin .sub (.r 36) (.c (.int .i64 1))),mv 38 0,mv 39 7,op 40 (.bin .sub (.r 39) (.c (.int .i64 1))),ia 41 1 38 40,l1 42 41,mv 43 0,mv 44 7,ia 45 1 43 44,l1 46 45,ia 47 1 33 34,se 1 47 42,ia 48 1 35 37,se 1 48 46]))<|.ops [mv 31 7,op 32 (.bin .sub (.r 31) (.c (.int .i64 1))),mv 7 32]))))<|.ops [mv 13 6,op 14 (.bin .add (.r 13) (.c (.int .i64 1))),mv 6 14]))⟩
def S0:An:=⟨[],[(10,[(0,true),(1,true),(2,true),(3,true),(4,true),(5,true),(6,true),(7,true),(8,true),(9,true),(10,true),(11,true),(12,true),(13,true),(14,true),(15,true),(16,true),(17,false),(18,true),(19,false)])]⟩
def FV:Go.Rmp.Fn:=⟨56,3,[],so [mv 11 1,mv 6 11]<|so [op 7 (.ay (.c (.int .i64 0)))]<|so [mv 12 2,mv 13 1,b2 14 .sub 12 13,mv 8 14]<|sq (so [mv 15 8,op 16 (.bin .sub (.r 15) (.c (.int .i64 1))),op 17 (.bin .quo (.r 16) (.c (.int .i64 2))),mv 9 17]<|.block 0 (.loop (sq (so [mv 18 9,op 19 (.bin .geq (.r 18) (.c (.int .i64 0)))]<|cx 19 0)<|sq (.block 1 (.ops [mv 22 0,mv 23 9,mv 24 8,mv 25 6,cl 26 158 [.r 22,.r 23,.r 24,.r 25]]))<|.ops [mv 20 9,op 21 (.bin .sub (.r 20) (.c (.int .i64 1))),mv 9 21])))<|so [mv 27 8,op 28 (.bin .sub (.r 27) (.c (.int .i64 1))),mv 10 28]<|.block 2 (.loop (sq (so [mv 29 10,op 30 (.bin .geq (.r 29) (.c (.int .i64 0)))]<|cx 30 2)<|sq (.block 3 (so [mv 33 0,mv 34 6,mv 35 0,mv 36 6,mv 37 10,b2 38 .add 36 37,mv 39 0,mv 40 6,mv 41 10,b2 42 .add 40 41,ia 43 1 39 42,l1 44 43,mv 45 0,mv 46 6,ia 47 1 45 46,l1 48 47,ia 49 1 33 34,se 1 49 44,ia 50 1 35 38,se 1 50 48]<|.ops [mv 51 0,mv 52 7,mv 53 10,mv 54 6,cl 55 158 [.r 51,.r 52,.r 53,.r 54]]))<|.ops [mv 31 10,op 32 (.bin .sub (.r 31) (.c (.int .i64 1))),mv 10 32]))⟩
def S4:An:=⟨[],[(10,[(0,true),(1,true),(2,true),(3,true),(4,true),(5,true),(6,true),(7,true),(8,true),(9,true),(10,true),(11,true),(12,true),(13,true),(14,true),(15,true),(16,true),(17,false),(18,true),(19,false)])]⟩
def FW:Go.Rmp.Fn:=⟨65,3,[],so [mv 11 2,mv 12 1,b2 13 .sub 11 12,mv 6 13]<|so [mv 14 6,op 15 (.bin .geq (.r 14) (.c (.int .i64 8)))]<|.cond (.r 15) (so [mv 16 6,op 17 (.iC .u64 (.r 16)),op 7 (.alloc [.int .u64 0]),se 1 7 17]<|so [mv 18 6,cl 19 154 [.r 18],mv 8 19]<|so [mv 20 1,mv 21 6,op 22 (.bin .quo (.r 21) (.c (.int .i64 4))),op 23 (.bin .mul (.r 22) (.c (.int .i64 2))),b2 24 .add 20 23,op 25 (.bin .sub (.r 24) (.c (.int .i64 1))),mv 9 25]<|.block 0 (.loop (sq (so [mv 26 9,mv 27 1,mv 28 6,op 29 (.bin .quo (.r 28) (.c (.int .i64 4))),op 30 (.bin .mul (.r 29) (.c (.int .i64 2))),b2 31 .add 27 30,op 32 (.bin .add (.r 31) (.c (.int .i64 1))),b2 33 .leq 26 32]<|cx 33 0)<|sq (.block 1 (so [cl 36 155 [.r 7],mv 37 8,op 38 (.bin .sub (.r 37) (.c (.int .u64 1))),b2 39 .and 36 38,op 40 (.iC .i64 (.r 39)),mv 10 40]<|sq (so [mv 41 10,mv 42 6,b2 43 .geq 41 42]<|.cond (.r 43) (.ops [mv 44 10,mv 45 6,b2 46 .sub 44 45,mv 10 46]) (.skip))<|.ops [mv 47 0,mv 48 9,mv 49 0,mv 50 1,mv 51 10,b2 52 .add 50 51,mv 53 0,mv 54 1,mv 55 10,b2 56 .add 54 55,ia 57 1 53 56,l1 58 57,mv 59 0,mv 60 9,ia 61 1 59 60,l1 62 61,ia 63 1 47 48,se 1 63 58,ia 64 1 49 52,se 1 64 62]))<|.ops [mv 34 9,op 35 (.bin .add (.r 34) (.c (.int .i64 1))),mv 9 35]))) (.skip)⟩
def S5:An:=⟨[],[]⟩
def AE:Go.Rmp.Fn:=⟨57,3,[.t 6,.t 7],so [op 6 (.ay (.c (.int .i64 0))),op 7 (.ay (.c (.int .i64 0)))]<|so [mv 13 2,mv 14 1,b2 15 .sub 13 14,mv 8 15]<|so [op 9 (.alloc [.int .i64 0])]<|so [mv 16 1,mv 17 8,op 18 (.bin .quo (.r 17) (.c (.int .i64 4))),op 19 (.bin .mul (.r 18) (.c (.int .i64 1))),b2 20 .add 16 19,mv 10 20]<|so [mv 21 1,mv 22 8,op 23 (.bin .quo (.r 22) (.c (.int .i64 4))),op 24 (.bin .mul (.r 23) (.c (.int .i64 2))),b2 25 .add 21 24,mv 11 25]<|so [mv 26 1,mv 27 8,op 28 (.bin .quo (.r 27) (.c (.int .i64 4))),op 29 (.bin .mul (.r 28) (.c (.int .i64 3))),b2 30 .add 26 29,mv 12 30]<|sq (so [mv 31 8,op 32 (.bin .geq (.r 31) (.c (.int .i64 8)))]<|.cond (.r 32) (sq (so [mv 33 8,op 34 (.bin .geq (.r 33) (.c (.int .i64 50)))]<|.cond (.r 34) (so [mv 35 0,mv 36 10,cl 37 159 [.r 35,.r 36,.r 9],mv 10 37]<|so [mv 38 0,mv 39 11,cl 40 159 [.r 38,.r 39,.r 9],mv 11 40]<|.ops [mv 41 0,mv 42 12,cl 43 159 [.r 41,.r 42,.r 9],mv 12 43]) (.skip))<|.ops [mv 44 0,mv 45 10,mv 46 11,mv 47 12,cl 48 160 [.r 44,.r 45,.r 46,.r 47,.r 9],mv 11 48]) (.skip))<|so [l1 49 9]<|.block 0 (so [op 52 (.bin .eql (.r 49) (.c (.int .i64 0))),mv 51 52]<|.cond (.r 51) (so [mv 53 11,mv 6 53,op 7 (.ay (.c (.int .i64 1)))]<|.ret) (so [op 55 (.bin .eql (.r 49) (.c (.int .i64 12))),mv 54 55]<|.cond (.r 54) (so [mv 56 11,mv 6 56,op 7 (.ay (.c (.int .i64 2)))]<|.ret) (so [mv 50 11,mv 6 50,op 7 (.ay (.c (.int .i64 0)))]<|.ret)))⟩
def S6:An:=⟨[],[(3,[(0,true),(1,true),(2,true),(3,true),(4,true),(5,true),(6,true),(7,true),(8,true),(9,true),(10,true),(11,true),(12,true),(13,false),(14,true),(15,false)])]⟩
def FX:Go.Rmp.Fn:=⟨32,3,[],so [mv 8 1,mv 6 8]<|so [mv 9 2,op 10 (.bin .sub (.r 9) (.c (.int .i64 1))),mv 7 10]<|.block 0 (.loop (sq (so [mv 11 6,mv 12 7,b2 13 .lss 11 12]<|cx 13 0)<|.block 1 (so [mv 14 0,mv 15 6,mv 16 0,mv 17 7,mv 18 0,mv 19 7,ia 20 1 18 19,l1 21 20,mv 22 0,mv 23 6,ia 24 1 22 23,l1 25 24,ia 26 1 14 15,se 1 26 21,ia 27 1 16 17,se 1 27 25]<|so [mv 28 6,op 29 (.bin .add (.r 28) (.c (.int .i64 1))),mv 6 29]<|.ops [mv 30 7,op 31 (.bin .sub (.r 30) (.c (.int .i64 1))),mv 7 31])))⟩
def S7:An:=⟨[],[(5,[(0,true),(1,true),(2,true),(3,true),(4,true),(5,true),(6,true),(7,true),(8,true),(9,true),(10,true),(11,true),(12,true),(13,false),(14,true),(15,true)]),(11,[(0,true),(1,true),(2,true),(3,true),(4,true),(5,true),(6,true),(7,true),(8,true),(9,true),(10,true),(11,true),(12,true),(13,true),(14,true),(15,false),(16,true),(17,false)]),(16,[(0,true),(1,true),(2,true),(3,true),(4,true),(5,true),(6,true),(7,true),(8,true),(9,false),(10,true)]),(17,[(0,true),(1,true),(2,true),(3,true),(4,true),(5,true),(6,true),(7,true),(8,true),(9,true),(10,true),(11,true),(12,true),(13,true),(14,true),(15,false),(16,true),(17,false)]),(22,[(0,true),(1,true),(2,true),(3,true),(4,true),(5,true),(6,true),(7,true),(8,true),(9,false),(10,true)]),(23,[(0,true),(1,true),(2,true),(3,true),(4,true),(5,true),(6,true),(7,true),(8,true),(9,true),(10,true),(11,true),(12,true),(13,true),(14,true),(15,false),(16,true),(17,false)])]⟩
def FY:Go.Rmp.Fn:=⟨133,3,[.t 6],so [op 6 (.ay (.c (.bool false)))]<|so [mv 11 1,op 12 (.bin .add (.r 11) (.c (.int .i64 1))),mv 7 12]<|sq (so [op 8 (.ay (.c (.int .i64 0)))]<|.block 0 (.loop (sq (so [mv 13 8,op 14 (.bin .lss (.r 13) (.c (.int .i64 5)))]<|cx 14 0)<|sq (.block 1 (sq (.block 2 (.loop (sq (so [mv 17 7,mv 18 2,b2 19 .lss 17 18,mv 20 19,mt 21 0 20,mt 22 7 20,gt 23 20 (.eI 1 (.r 21) (.r 22)),gt 24 20 (.ld 1 false (.r 23)),mt 25 0 20,mt 26 7 20,gt 27 20 (.bin .sub (.r 26) (.c (.int .i64 1))),gt 28 20 (.eI 1 (.r 25) (.r 27)),gt 29 20 (.ld 1 false (.r 28)),⟨(some 30),.call 148 [.r 24,.r 29],(some (20,true)),[]⟩,gt 31 20 (.un .not (.r 30)),op 32 (.pick (.r 20) (.r 31) (.c (.bool false)))]<|cx 32 2)<|.block 3 (.ops [mv 33 7,op 34 (.bin .add (.r 33) (.c (.int .i64 1))),mv 7 34]))))<|sq (so [mv 35 7,mv 36 2,b2 37 .eql 35 36]<|.cond (.r 37) (so [op 6 (.ay (.c (.bool true)))]<|.ret) (.skip))<|sq (so [mv 38 2,mv 39 1,b2 40 .sub 38 39,op 41 (.bin .lss (.r 40) (.c (.int .i64 50)))]<|.cond (.r 41) (so [op 6 (.ay (.c (.bool false)))]<|.ret) (.skip))<|so [mv 42 0,mv 43 7,mv 44 0,mv 45 7,op 46 (.bin .sub (.r 45) (.c (.int .i64 1))),mv 47 0,mv 48 7,op 49 (.bin .sub (.r 48) (.c (.int .i64 1))),ia 50 1 47 49,l1 51 50,mv 52 0,mv 53 7,ia 54 1 52 53,l1 55 54,ia 56 1 42 43,se 1 56 51,ia 57 1 44 46,se 1 57 55]<|sq (so [mv 58 7,mv 59 1,b2 60 .sub 58 59,op 61 (.bin .geq (.r 60) (.c (.int .i64 2)))]<|.cond (.r 61) (so [mv 62 7,op 63 (.bin .sub (.r 62) (.c (.int .i64 1))),mv 9 63]<|.block 4 (.loop (sq (so [mv 64 9,op 65 (.bin .geq (.r 64) (.c (.int .i64 1)))]<|cx 65 4)<|sq (.block 5 (sq (so [mv 68 0,mv 69 9,ia 70 1 68 69,l1 71 70,mv 72 0,mv 73 9,op 74 (.bin .sub (.r 73) (.c (.int .i64 1))),ia 75 1 72 74,l1 76 75,cl 77 148 [.r 71,.r 76],op 78 (.un .not (.r 77))]<|.cond (.r 78) (.exit 4) (.skip))<|.ops [mv 79 0,mv 80 9,mv 81 0,mv 82 9,op 83 (.bin .sub (.r 82) (.c (.int .i64 1))),mv 84 0,mv 85 9,op 86 (.bin .sub (.r 85) (.c (.int .i64 1))),ia 87 1 84 86,l1 88 87,mv 89 0,mv 90 9,ia 91 1 89 90,l1 92 91,ia 93 1 79 80,se 1 93 88,ia 94 1 81 83,se 1 94 92]))<|.ops [mv 66 9,op 67 (.bin .sub (.r 66) (.c (.int .i64 1))),mv 9 67]))) (.skip))<|so [mv 95 2,mv 96 7,b2 97 .sub 95 96,op 98 (.bin .geq (.r 97) (.c (.int .i64 2)))]<|.cond (.r 98) (so [mv 99 7,op 100 (.bin .add (.r 99) (.c (.int .i64 1))),mv 10 100]<|.block 6 (.loop (sq (so [mv 101 10,mv 102 2,b2 103 .lss 101 102]<|cx 103 6)<|sq (.block 7 (sq (so [mv 106 0,mv 107 10,ia 108 1 106 107,l1 109 108,mv 110 0,mv 111 10,op 112 (.bin .sub (.r 111) (.c (.int .i64 1))),ia 113 1 110 112,l1 114 113,cl 115 148 [.r 109,.r 114],op 116 (.un .not (.r 115))]<|.cond (.r 116) (.exit 6) (.skip))<|.ops [mv 117 0,mv 118 10,mv 119 0,mv 120 10,op 121 (.bin .sub (.r 120) (.c (.int .i64 1))),mv 122 0,mv 123 10,op 124 (.bin .sub (.r 123) (.c (.int .i64 1))),ia 125 1 122 124,l1 126 125,mv 127 0,mv 128 10,ia 129 1 127 128,l1 130 129,ia 131 1 117 118,se 1 131 126,ia 132 1 119 121,se 1 132 130]))<|.ops [mv 104 10,op 105 (.bin .add (.r 104) (.c (.int .i64 1))),mv 10 105]))) (.skip)))<|.ops [mv 15 8,op 16 (.bin .add (.r 15) (.c (.int .i64 1))),mv 8 16])))<|so [op 6 (.ay (.c (.bool false)))]<|.ret⟩
def S8:An:=⟨[],[]⟩
def FZ:Go.Rmp.Fn:=⟨17,2,[.t 4],so [op 4 (.ay (.c (.bool false)))]<|so [mv 5 0,cl 6 119 [.r 5],mv 7 6,mt 8 1 7,⟨(some 9),.call 119 [.r 8],(some (7,true)),[]⟩,gt 10 7 (.un .not (.r 9)),op 11 (.pick (.r 7) (.r 10) (.c (.bool false))),mv 12 11,mf 13 0 12,mf 14 1 12,gf 15 12 (.bin .lss (.r 13) (.r 14)),op 16 (.pick (.r 12) (.c (.bool true)) (.r 15)),mv 4 16]<|.ret⟩
def S9:An:=⟨[],[(1,[(0,true),(1,true),(2,true),(3,true),(4,true),(5,true),(6,true),(7,true),(8,true),(9,true),(10,true),(11,true),(12,true),(13,false),(14,true),(15,false)]),(3,[(0,true),(1,true),(2,true),(3,true),(4,true),(5,true),(6,true),(7,true),(8,true),(9,true),(10,true),(11,true),(12,false),(13,true),(14,true)]),(5,[(0,true),(1,true),(2,true),(3,true),(4,true),(5,true),(6,true),(7,true),(8,true),(9,true),(10,true),(11,true),(12,false),(13,true)]),(8,[(0,true),(1,true),(2,true),(3,true),(4,true),(5,true),(6,true),(7,true),(8,true),(9,true),(10,true),(11,true),(12,true),(13,false),(14,true),(15,false)])]⟩
def F4:Go.Rmp.Fn:=⟨84,4,[.t 8],so [op 8 (.ay (.c (.int .i64 0)))]<|so [mv 11 0,mv 12 1,mv 13 0,mv 14 3,mv 15 0,mv 16 3,ia 17 1 15 16,l1 18 17,mv 19 0,mv 20 1,ia 21 1 19 20,l1 22 21,ia 23 1 11 12,se 1 23 18,ia 24 1 13 14,se 1 24 22]<|so [mv 25 1,op 26 (.bin .add (.r 25) (.c (.int .i64 1))),mv 27 2,op 28 (.bin .sub (.r 27) (.c (.int .i64 1))),mv 9 26,mv 10 28]<|sq (.block 0 (.loop (.block 1 (sq (.block 2 (.loop (sq (so [mv 29 9,mv 30 10,b2 31 .leq 29 30,mv 32 31,mt 33 0 32,mt 34 1 32,gt 35 32 (.eI 1 (.r 33) (.r 34)),gt 36 32 (.ld 1 false (.r 35)),mt 37 0 32,mt 38 9 32,gt 39 32 (.eI 1 (.r 37) (.r 38)),gt 40 32 (.ld 1 false (.r 39)),⟨(some 41),.call 148 [.r 36,.r 40],(some (32,true)),[]⟩,gt 42 32 (.un .not (.r 41)),op 43 (.pick (.r 32) (.r 42) (.c (.bool false)))]<|cx 43 2)<|.block 3 (.ops [mv 44 9,op 45 (.bin .add (.r 44) (.c (.int .i64 1))),mv 9 45]))))<|sq (.block 4 (.loop (sq (so [mv 46 9,mv 47 10,b2 48 .leq 46 47,mv 49 48,mt 50 0 49,mt 51 1 49,gt 52 49 (.eI 1 (.r 50) (.r 51)),gt 53 49 (.ld 1 false (.r 52)),mt 54 0 49,mt 55 10 49,gt 56 49 (.eI 1 (.r 54) (.r 55)),gt 57 49 (.ld 1 false (.r 56)),⟨(some 58),.call 148 [.r 53,.r 57],(some (49,true)),[]⟩,op 59 (.pick (.r 49) (.r 58) (.c (.bool false)))]<|cx 59 4)<|.block 5 (.ops [mv 60 10,op 61 (.bin .sub (.r 60) (.c (.int .i64 1))),mv 10 61]))))<|sq (so [mv 62 9,mv 63 10,b2 64 .gtr 62 63]<|.cond (.r 64) (.exit 0) (.skip))<|so [mv 65 0,mv 66 9,mv 67 0,mv 68 10,mv 69 0,mv 70 10,ia 71 1 69 70,l1 72 71,mv 73 0,mv 74 9,ia 75 1 73 74,l1 76 75,ia 77 1 65 66,se 1 77 72,ia 78 1 67 68,se 1 78 76]<|so [mv 79 9,op 80 (.bin .add (.r 79) (.c (.int .i64 1))),mv 9 80]<|.ops [mv 81 10,op 82 (.bin .sub (.r 81) (.c (.int .i64 1))),mv 10 82]))))<|so [mv 83 9,mv 8 83]<|.ret⟩
def Ta:An:=⟨[],[(1,[(0,true),(1,true),(2,true),(3,true),(4,true),(5,true),(6,true),(7,true),(8,true),(9,true),(10,true),(11,true),(12,true),(13,false),(14,true),(15,false)]),(3,[(0,true),(1,true),(2,true),(3,true),(4,true),(5,true),(6,true),(7,true),(8,true),(9,true),(10,true),(11,true),(12,false),(13,true)]),(5,[(0,true),(1,true),(2,true),(3,true),(4,true),(5,true),(6,true),(7,true),(8,true),(9,true),(10,true),(11,true),(12,false),(13,true),(14,true)]),(8,[(0,true),(1,true),(2,true),(3,true),(4,true),(5,true),(6,true),(7,true),(8,true),(9,true),(10,true),(11,true),(12,true),(13,false),(14,true),(15,false)]),(10,[(0,true),(1,true),(2,true),(3,true),(4,true),(5,true),(6,true),(7,true),(8,true),(9,true),(10,true),(11,true),(12,true),(13,false),(14,true),(15,false)]),(13,[(0,true),(1,true),(2,true),(3,true),(4,true),(5,true),(6,true),(7,true),(8,true),(9,true),(10,true),(11,true),(12,false),(13,true)]),(15,[(0,true),(1,true),(2,true),(3,true),(4,true),(5,true),(6,true),(7,true),(8,true),(9,true),(10,true),(11,true),(12,false),(13,true),(14,true)]),(18,[(0,true),(1,true),(2,true),(3,true),(4,true),(5,true),(6,true),(7,true),(8,true),(9,true),(10,true),(11,true),(12,true),(13,false),(14,true),(15,false)]),(21,[(0,true),(1,true),(2,true),(3,true),(4,true),(5,true),(6,true),(7,true),(8,true),(9,true),(10,true),(11,true),(12,true),(13,false),(14,true),(15,false)])]⟩
def F5:Go.Rmp.Fn:=⟨168,4,[.t 8,.t 9],so [op 8 (.ay (.c (.int .i64 0))),op 9 (.ay (.c (.bool false)))]<|so [mv 12 0,mv 13 1,mv 14 0,mv 15 3,mv 16 0,mv 17 3,ia 18 1 16 17,l1 19 18,mv 20 0,mv 21 1,ia 22 1 20 21,l1 23 22,ia 24 1 12 13,se 1 24 19,ia 25 1 14 15,se 1 25 23]<|so [mv 26 1,op 27 (.bin .add (.r 26) (.c (.int .i64 1))),mv 28 2,op 29 (.bin .sub (.r 28) (.c (.int .i64 1))),mv 10 27,mv 11 29]<|sq (.block 0 (.loop (sq (so [mv 30 10,mv 31 11,b2 32 .leq 30 31,mv 33 32,mt 34 0 33,mt 35 10 33,gt 36 33 (.eI 1 (.r 34) (.r 35)),gt 37 33 (.ld 1 false (.r 36)),mt 38 0 33,mt 39 1 33,gt 40 33 (.eI 1 (.r 38) (.r 39)),gt 41 33 (.ld 1 false (.r 40)),⟨(some 42),.call 148 [.r 37,.r 41],(some (33,true)),[]⟩,op 43 (.pick (.r 33) (.r 42) (.c (.bool false)))]<|cx 43 0)<|.block 1 (.ops [mv 44 10,op 45 (.bin .add (.r 44) (.c (.int .i64 1))),mv 10 45]))))<|sq (.block 2 (.loop (sq (so [mv 46 10,mv 47 11,b2 48 .leq 46 47,mv 49 48,mt 50 0 49,mt 51 11 49,gt 52 49 (.eI 1 (.r 50) (.r 51)),gt 53 49 (.ld 1 false (.r 52)),mt 54 0 49,mt 55 1 49,gt 56 49 (.eI 1 (.r 54) (.r 55)),gt 57 49 (.ld 1 false (.r 56)),⟨(some 58),.call 148 [.r 53,.r 57],(some (49,true)),[]⟩,gt 59 49 (.un .not (.r 58)),op 60 (.pick (.r 49) (.r 59) (.c (.bool false)))]<|cx 60 2)<|.block 3 (.ops [mv 61 11,op 62 (.bin .sub (.r 61) (.c (.int .i64 1))),mv 11 62]))))<|sq (so [mv 63 10,mv 64 11,b2 65 .gtr 63 64]<|.cond (.r 65) (so [mv 66 0,mv 67 11,mv 68 0,mv 69 1,mv 70 0,mv 71 1,ia 72 1 70 71,l1 73 72,mv 74 0,mv 75 11,ia 76 1 74 75,l1 77 76,ia 78 1 66 67,se 1 78 73,ia 79 1 68 69,se 1 79 77]<|so [mv 80 11,mv 8 80,op 9 (.ay (.c (.bool true)))]<|.ret) (.skip))<|so [mv 81 0,mv 82 10,mv 83 0,mv 84 11,mv 85 0,mv 86 11,ia 87 1 85 86,l1 88 87,mv 89 0,mv 90 10,ia 91 1 89 90,l1 92 91,ia 93 1 81 82,se 1 93 88,ia 94 1 83 84,se 1 94 92]<|so [mv 95 10,op 96 (.bin .add (.r 95) (.c (.int .i64 1))),mv 10 96]<|so [mv 97 11,op 98 (.bin .sub (.r 97) (.c (.int .i64 1))),mv 11 98]<|sq (.block 4 (.loop (.block 5 (sq (.block 6 (.loop (sq (so [mv 99 10,mv 100 11,b2 101 .leq 99 100,mv 102 101,mt 103 0 102,mt 104 10 102,gt 105 102 (.eI 1 (.r 103) (.r 104)),gt 106 102 (.ld 1 false (.r 105)),mt 107 0 102,mt 108 1 102,gt 109 102 (.eI 1 (.r 107) (.r 108)),gt 110 102 (.ld 1 false (.r 109)),⟨(some 111),.call 148 [.r 106,.r 110],(some (102,true)),[]⟩,op 112 (.pick (.r 102) (.r 111) (.c (.bool false)))]<|cx 112 6)<|.block 7 (.ops [mv 113 10,op 114 (.bin .add (.r 113) (.c (.int .i64 1))),mv 10 114]))))<|sq (.block 8 (.loop (sq (so [mv 115 10,mv 116 11,b2 117 .leq 115 116,mv 118 117,mt 119 0 118,mt 120 11 118,gt 121 118 (.eI 1 (.r 119) (.r 120)),gt 122 118 (.ld 1 false (.r 121)),mt 123 0 118,mt 124 1 118,gt 125 118 (.eI 1 (.r 123) (.r 124)),gt 126 118 (.ld 1 false (.r 125)),⟨(some 127),.call 148 [.r 122,.r 126],(some (118,true)),[]⟩,gt 128 118 (.un .not (.r 127)),op 129 (.pick (.r 118) (.r 128) (.c (.bool false)))]<|cx 129 8)<|.block 9 (.ops [mv 130 11,op 131 (.bin .sub (.r 130) (.c (.int .i64 1))),mv 11 131]))))<|sq (so [mv 132 10,mv 133 11,b2 134 .gtr 132 133]<|.cond (.r 134) (.exit 4) (.skip))<|so [mv 135 0,mv 136 10,mv 137 0,mv 138 11,mv 139 0,mv 140 11,ia 141 1 139 140,l1 142 141,mv 143 0,mv 144 10,ia 145 1 143 144,l1 146 145,ia 147 1 135 136,se 1 147 142,ia 148 1 137 138,se 1 148 146]<|so [mv 149 10,op 150 (.bin .add (.r 149) (.c (.int .i64 1))),mv 10 150]<|.ops [mv 151 11,op 152 (.bin .sub (.r 151) (.c (.int .i64 1))),mv 11 152]))))<|so [mv 153 0,mv 154 11,mv 155 0,mv 156 1,mv 157 0,mv 158 1,ia 159 1 157 158,l1 160 159,mv 161 0,mv 162 11,ia 163 1 161 162,l1 164 163,ia 165 1 153 154,se 1 165 160,ia 166 1 155 156,se 1 166 164]<|so [mv 167 11,mv 8 167,op 9 (.ay (.c (.bool false)))]<|.ret⟩
def Tb:An:=⟨[],[]⟩
def F6:Go.Rmp.Fn:=⟨6,1,[.t 2],so [op 2 (.ay (.c (.bool false)))]<|so [mv 3 0,mv 4 0,b2 5 .neq 3 4,mv 2 5]<|.ret⟩
def Tc:An:=⟨[],[(3,[(0,true),(1,true),(2,true),(3,true),(4,true),(5,true),(6,true),(7,true),(8,true),(9,true),(10,true),(11,true),(12,true),(13,true),(14,true),(15,true),(16,true),(17,true),(18,true),(19,false),(20,true),(21,true)]),(5,[(0,true),(1,true),(2,true),(3,true),(4,true),(5,true),(6,true),(7,true),(8,true),(9,true),(10,true),(11,true),(12,true),(13,false),(14,true),(15,true)]),(6,[(0,true),(1,true),(2,true),(3,true),(4,true),(5,true),(6,true),(7,true),(8,true),(9,true),(10,true),(11,true),(12,true),(13,true),(14,true),(15,true),(16,true),(17,true),(18,true),(19,true),(20,true),(21,false),(22,true),(23,false)])]⟩
def F7:Go.Rmp.Fn:=⟨82,5,[],so [mv 12 1,mv 10 12]<|.block 0 (.loop (.block 1 (so [mv 13 10,op 14 (.bin .mul (.c (.int .i64 2)) (.r 13)),op 15 (.bin .add (.r 14) (.c (.int .i64 1))),mv 11 15]<|sq (so [mv 16 11,mv 17 2,b2 18 .geq 16 17]<|.cond (.r 18) (.exit 0) (.skip))<|sq (so [mv 19 11,op 20 (.bin .add (.r 19) (.c (.int .i64 1))),mv 21 2,b2 22 .lss 20 21,mv 23 22,mt 24 4 23,mt 25 0 23,mt 26 3 23,mt 27 11 23,gt 28 23 (.bin .add (.r 26) (.r 27)),gt 29 23 (.eI 2 (.r 25) (.r 28)),gt 30 23 (.ld 2 true (.r 29)),mt 31 0 23,mt 32 3 23,mt 33 11 23,gt 34 23 (.bin .add (.r 32) (.r 33)),gt 35 23 (.bin .add (.r 34) (.c (.int .i64 1))),gt 36 23 (.eI 2 (.r 31) (.r 35)),gt 37 23 (.ld 2 true (.r 36)),⟨(some 38),.bD (.r 24) [.r 30,.r 37],(some (23,true)),[]⟩,gt 39 23 (.bin .lss (.r 38) (.c (.int .i64 0))),op 40 (.pick (.r 23) (.r 39) (.c (.bool false)))]<|.cond (.r 40) (.ops [mv 41 11,op 42 (.bin .add (.r 41) (.c (.int .i64 1))),mv 11 42]) (.skip))<|sq (so [mv 43 4,mv 44 0,mv 45 3,mv 46 10,b2 47 .add 45 46,ia 48 2 44 47,ln 49 2 48,mv 50 0,mv 51 3,mv 52 11,b2 53 .add 51 52,ia 54 2 50 53,ln 55 2 54,⟨(some 56),.bD (.r 43) [.r 49,.r 55],none,[]⟩,op 57 (.bin .lss (.r 56) (.c (.int .i64 0))),op 58 (.un .not (.r 57))]<|.cond (.r 58) (.ret) (.skip))<|so [mv 59 0,mv 60 3,mv 61 10,b2 62 .add 60 61,mv 63 0,mv 64 3,mv 65 11,b2 66 .add 64 65,mv 67 0,mv 68 3,mv 69 11,b2 70 .add 68 69,ia 71 2 67 70,ln 72 2 71,mv 73 0,mv 74 3,mv 75 10,b2 76 .add 74 75,ia 77 2 73 76,ln 78 2 77,ia 79 2 59 62,se 2 79 72,ia 80 2 63 66,se 2 80 78]<|.ops [mv 81 11,mv 10 81])))⟩
def Td:An:=⟨[],[]⟩
def F9:Go.Rmp.Fn:=⟨7,1,[.t 2],so [op 2 (.ay (.c (.int .u64 0)))]<|so [mv 3 0,op 4 (.iC .u64 (.r 3)),cl 5 118 [.r 4],op 6 (.bin .shl (.c (.int .u64 1)) (.r 5)),mv 2 6]<|.ret⟩
def Te:An:=⟨[],[(1,[(0,true),(1,true),(2,true),(3,true),(4,true),(5,true),(6,true),(7,true),(8,true),(9,false)]),(2,[(0,true),(1,true),(2,true),(3,true),(4,true),(5,true),(6,true),(7,true),(8,true),(9,false)]),(3,[(0,true),(1,true),(2,true),(3,true),(4,true),(5,true),(6,true),(7,true),(8,true),(9,false)])]⟩
def Ga:Go.Rmp.Fn:=⟨33,1,[.t 2],so [op 2 (.ay (.c (.int .u64 0)))]<|so [mv 3 0,nc 4 3,l1 5 4,mv 6 0,nc 7 6,l1 8 7,op 9 (.bin .shl (.r 8) (.c (.int .u64 13))),b2 10 .xor 5 9,nc 11 3,se 1 11 10]<|so [mv 12 0,nc 13 12,l1 14 13,mv 15 0,nc 16 15,l1 17 16,op 18 (.bin .shr (.r 17) (.c (.int .u64 7))),b2 19 .xor 14 18,nc 20 12,se 1 20 19]<|so [mv 21 0,nc 22 21,l1 23 22,mv 24 0,nc 25 24,l1 26 25,op 27 (.bin .shl (.r 26) (.c (.int .u64 17))),b2 28 .xor 23 27,nc 29 21,se 1 29 28]<|so [mv 30 0,nc 31 30,l1 32 31,mv 2 32]<|.ret⟩
def Tf:An:=⟨[],[]⟩
def Gb:Go.Rmp.Fn:=⟨18,4,[.t 8],so [op 8 (.ay (.c (.int .i64 0)))]<|so [mv 9 0,mv 10 1,op 11 (.bin .sub (.r 10) (.c (.int .i64 1))),mv 12 1,mv 13 1,op 14 (.bin .add (.r 13) (.c (.int .i64 1))),mv 15 2,mv 16 3,cl 17 157 [.r 9,.r 11,.r 12,.r 14,.r 15,.r 16],mv 8 17]<|.ret⟩
def Tg:An:=⟨[],[]⟩
def Gc:Go.Rmp.Fn:=⟨41,6,[.t 12],so [op 12 (.ay (.c (.int .i64 0)))]<|so [mv 14 0,mv 15 1,mv 16 2,mv 17 4,mv 18 5,cl 19 162 [.r 14,.r 15,.r 16,.r 17,.r 18],mv 13 19,xt 20 0 13,xt 21 1 13,mv 1 20,mv 2 21]<|so [mv 23 0,mv 24 2,mv 25 3,mv 26 4,mv 27 5,cl 28 162 [.r 23,.r 24,.r 25,.r 26,.r 27],mv 22 28,xt 29 0 22,xt 30 1 22,mv 2 29,mv 3 30]<|so [mv 32 0,mv 33 1,mv 34 2,mv 35 4,mv 36 5,cl 37 162 [.r 32,.r 33,.r 34,.r 35,.r 36],mv 31 37,xt 38 0 31,xt 39 1 31,mv 1 38,mv 2 39]<|so [mv 40 2,mv 12 40]<|.ret⟩
def Th:An:=⟨[],[(3,[(0,true),(1,true),(2,true),(3,true),(4,true),(5,true),(6,true),(7,true),(8,true),(9,true),(10,true),(11,true),(12,true),(13,true),(14,true),(15,true),(16,true),(17,true),(18,false),(19,true)]),(5,[(0,true),(1,true),(2,true),(3,true),(4,true),(5,true),(6,true),(7,true),(8,true),(9,true),(10,true),(11,true),(12,false),(13,true)]),(6,[(0,true),(1,true),(2,true),(3,true),(4,true),(5,true),(6,true),(7,true),(8,true),(9,true),(10,true),(11,true),(12,true),(13,true),(14,true),(15,true),(16,true),(17,true),(18,true),(19,true),(20,true),(21,false),(22,true),(23,false)])]⟩
def Ge:Go.Rmp.Fn:=⟨76,4,[],so [mv 10 1,mv 8 10]<|.block 0 (.loop (.block 1 (so [mv 11 8,op 12 (.bin .mul (.c (.int .i64 2)) (.r 11)),op 13 (.bin .add (.r 12) (.c (.int .i64 1))),mv 9 13]<|sq (so [mv 14 9,mv 15 2,b2 16 .geq 14 15]<|.cond (.r 16) (.exit 0) (.skip))<|sq (so [mv 17 9,op 18 (.bin .add (.r 17) (.c (.int .i64 1))),mv 19 2,b2 20 .lss 18 19,mv 21 20,mt 22 0 21,mt 23 3 21,mt 24 9 21,gt 25 21 (.bin .add (.r 23) (.r 24)),gt 26 21 (.eI 1 (.r 22) (.r 25)),gt 27 21 (.ld 1 false (.r 26)),mt 28 0 21,mt 29 3 21,mt 30 9 21,gt 31 21 (.bin .add (.r 29) (.r 30)),gt 32 21 (.bin .add (.r 31) (.c (.int .i64 1))),gt 33 21 (.eI 1 (.r 28) (.r 32)),gt 34 21 (.ld 1 false (.r 33)),⟨(some 35),.call 148 [.r 27,.r 34],(some (21,true)),[]⟩,op 36 (.pick (.r 21) (.r 35) (.c (.bool false)))]<|.cond (.r 36) (.ops [mv 37 9,op 38 (.bin .add (.r 37) (.c (.int .i64 1))),mv 9 38]) (.skip))<|sq (so [mv 39 0,mv 40 3,mv 41 8,b2 42 .add 40 41,ia 43 1 39 42,l1 44 43,mv 45 0,mv 46 3,mv 47 9,b2 48 .add 46 47,ia 49 1 45 48,l1 50 49,cl 51 148 [.r 44,.r 50],op 52 (.un .not (.r 51))]<|.cond (.r 52) (.ret) (.skip))<|so [mv 53 0,mv 54 3,mv 55 8,b2 56 .add 54 55,mv 57 0,mv 58 3,mv 59 9,b2 60 .add 58 59,mv 61 0,mv 62 3,mv 63 9,b2 64 .add 62 63,ia 65 1 61 64,l1 66 65,mv 67 0,mv 68 3,mv 69 8,b2 70 .add 68 69,ia 71 1 67 70,l1 72 71,ia 73 1 53 56,se 1 73 66,ia 74 1 57 60,se 1 74 72]<|.ops [mv 75 9,mv 8 75])))⟩
def Ti:An:=⟨[],[]⟩
def Gf:Go.Rmp.Fn:=⟨15,3,[.t 6],so [op 6 (.ay (.c (.int .i64 0)))]<|so [mv 7 0,mv 8 1,op 9 (.bin .sub (.r 8) (.c (.int .i64 1))),mv 10 1,mv 11 1,op 12 (.bin .add (.r 11) (.c (.int .i64 1))),mv 13 2,cl 14 160 [.r 7,.r 9,.r 10,.r 12,.r 13],mv 6 14]<|.ret⟩
def Tj:An:=⟨[],[]⟩
def Gg:Go.Rmp.Fn:=⟨36,5,[.t 10],so [op 10 (.ay (.c (.int .i64 0)))]<|so [mv 12 0,mv 13 1,mv 14 2,mv 15 4,cl 16 163 [.r 12,.r 13,.r 14,.r 15],mv 11 16,xt 17 0 11,xt 18 1 11,mv 1 17,mv 2 18]<|so [mv 20 0,mv 21 2,mv 22 3,mv 23 4,cl 24 163 [.r 20,.r 21,.r 22,.r 23],mv 19 24,xt 25 0 19,xt 26 1 19,mv 2 25,mv 3 26]<|so [mv 28 0,mv 29 1,mv 30 2,mv 31 4,cl 32 163 [.r 28,.r 29,.r 30,.r 31],mv 27 32,xt 33 0 27,xt 34 1 27,mv 1 33,mv 2 34]<|so [mv 35 2,mv 10 35]<|.ret⟩
def Tk:An:=⟨[],[(1,[(0,true),(1,true),(2,true),(3,true),(4,true),(5,true),(6,true),(7,true),(8,true),(9,false),(10,true)])]⟩
def Gh:Go.Rmp.Fn:=⟨32,5,[.t 10,.t 11],so [op 10 (.ay (.c (.int .i64 0))),op 11 (.ay (.c (.int .i64 0)))]<|sq (so [mv 12 4,mv 13 0,mv 14 2,ia 15 2 13 14,ln 16 2 15,mv 17 0,mv 18 1,ia 19 2 17 18,ln 20 2 19,⟨(some 21),.bD (.r 12) [.r 16,.r 20],none,[]⟩,op 22 (.bin .lss (.r 21) (.c (.int .i64 0)))]<|.cond (.r 22) (so [mv 23 3,nc 24 23,l1 25 24,op 26 (.bin .add (.r 25) (.c (.int .i64 1))),nc 27 23,se 1 27 26]<|so [mv 28 2,mv 29 1,mv 10 28,mv 11 29]<|.ret) (.skip))<|so [mv 30 1,mv 31 2,mv 10 30,mv 11 31]<|.ret⟩
def Tm:An:=⟨[],[(1,[(0,true),(1,true),(2,true),(3,true),(4,true),(5,true),(6,true),(7,true),(8,false)])]⟩
def Gi:Go.Rmp.Fn:=⟨28,4,[.t 8,.t 9],so [op 8 (.ay (.c (.int .i64 0))),op 9 (.ay (.c (.int .i64 0)))]<|sq (so [mv 10 0,mv 11 2,ia 12 1 10 11,l1 13 12,mv 14 0,mv 15 1,ia 16 1 14 15,l1 17 16,cl 18 148 [.r 13,.r 17]]<|.cond (.r 18) (so [mv 19 3,nc 20 19,l1 21 20,op 22 (.bin .add (.r 21) (.c (.int .i64 1))),nc 23 19,se 1 23 22]<|so [mv 24 2,mv 25 1,mv 8 24,mv 9 25]<|.ret) (.skip))<|so [mv 26 1,mv 27 2,mv 8 26,mv 9 27]<|.ret⟩
theorem c6:aj Tryz.prog an6 6=some XO:=by kernel_rfl
theorem c8:aj Tryz.prog an8 8=some XP:=by kernel_rfl
theorem c9:aj Tryz.prog an9 9=some XQ:=by kernel_rfl
theorem c10:aj Tryz.prog XR 10=some NT:=by kernel_rfl
theorem c13:aj Tryz.prog XS 13=some JX:=by kernel_rfl
theorem c14:aj Tryz.prog XT 14=some NU:=by kernel_rfl
theorem Tn:aj Tryz.prog XU 15=some NV:=by kernel_rfl
theorem To:aj Tryz.prog XV 17=some Ca:=by kernel_rfl
theorem c18:aj Tryz.prog XW 18=some NW:=by kernel_rfl
theorem c19:aj Tryz.prog XX 19=some NX:=by kernel_rfl
theorem c20:aj Tryz.prog XY 20=some NY:=by kernel_rfl
theorem c23:aj Tryz.prog XZ 23=some JY:=by kernel_rfl
theorem c24:aj Tryz.prog X0 24=some Ft:=by kernel_rfl
theorem Tp:aj Tryz.prog X1 25=some Fu:=by kernel_rfl
theorem c26:aj Tryz.prog X2 26=some NZ:=by kernel_rfl
theorem c27:aj Tryz.prog X3 27=some N0:=by kernel_rfl
theorem c28:aj Tryz.prog X4 28=some N1:=by kernel_rfl
theorem c29:aj Tryz.prog X5 29=some N2:=by kernel_rfl
theorem c30:aj Tryz.prog X6 30=some N3:=by kernel_rfl
theorem c31:aj Tryz.prog X7 31=some N4:=by kernel_rfl
theorem c32:aj Tryz.prog X8 32=some N5:=by kernel_rfl
theorem c33:aj Tryz.prog X9 33=some N6:=by kernel_rfl
theorem c34:aj Tryz.prog Ya 34=some N7:=by kernel_rfl
theorem c35:aj Tryz.prog Yb 35=some N8:=by kernel_rfl
theorem c36:aj Tryz.prog Yc 36=some N9:=by kernel_rfl
theorem c46:aj Tryz.prog Yd 46=some Oa:=by kernel_rfl
theorem c48:aj Tryz.prog Ye 48=some Ob:=by kernel_rfl
theorem c49:aj Tryz.prog Yf 49=some Oc:=by kernel_rfl
theorem c50:aj Tryz.prog Yg 50=some Od:=by kernel_rfl
theorem c51:aj Tryz.prog Yh 51=some Oe:=by kernel_rfl
theorem c52:aj Tryz.prog Yi 52=some Of:=by kernel_rfl
theorem c53:aj Tryz.prog Yj 53=some Og:=by kernel_rfl
theorem c54:aj Tryz.prog Yk 54=some JZ:=by kernel_rfl
theorem c55:aj Tryz.prog Yl 55=some Oh:=by kernel_rfl
theorem c56:aj Tryz.prog Ym 56=some Oi:=by kernel_rfl
theorem c57:aj Tryz.prog Yn 57=some Fv:=by kernel_rfl
theorem c58:aj Tryz.prog Yo 58=some Oj:=by kernel_rfl
theorem c59:aj Tryz.prog Yp 59=some Ol:=by kernel_rfl
theorem c60:aj Tryz.prog Yq 60=some Om:=by kernel_rfl
theorem c61:aj Tryz.prog Yr 61=some On:=by kernel_rfl
theorem c62:aj Tryz.prog Ys 62=some Oo:=by kernel_rfl
theorem c63:aj Tryz.prog Yt 63=some Oq:=by kernel_rfl
theorem c64:aj Tryz.prog Yu 64=some Ot:=by kernel_rfl
theorem c65:aj Tryz.prog Yv 65=some Ou:=by kernel_rfl
theorem c66:aj Tryz.prog Yw 66=some J0:=by kernel_rfl
theorem c67:aj Tryz.prog Yx 67=some J1:=by kernel_rfl
theorem c68:aj Tryz.prog Yy 68=some Ov:=by kernel_rfl
theorem c69:aj Tryz.prog Yz 69=some vq:=by kernel_rfl
theorem c70:aj Tryz.prog YA 70=some Ox:=by kernel_rfl
theorem c71:aj Tryz.prog YB 71=some Oy:=by kernel_rfl
theorem c72:aj Tryz.prog YC 72=some Oz:=by kernel_rfl
theorem c73:aj Tryz.prog YD 73=some OA:=by kernel_rfl
theorem c74:aj Tryz.prog YE 74=some xz:=by kernel_rfl
theorem c83:aj Tryz.prog YF 83=some OB:=by kernel_rfl
theorem c89:aj Tryz.prog YG 89=some OC:=by kernel_rfl
theorem c90:aj Tryz.prog YH 90=some J2:=by kernel_rfl
theorem c91:aj Tryz.prog YI 91=some J3:=by kernel_rfl
theorem c92:aj Tryz.prog YJ 92=some OD:=by kernel_rfl
theorem c93:aj Tryz.prog YK 93=some J4:=by kernel_rfl
theorem c94:aj Tryz.prog YL 94=some OE:=by kernel_rfl
theorem c95:aj Tryz.prog YM 95=some OF:=by kernel_rfl
theorem c96:aj Tryz.prog YN 96=some OG:=by kernel_rfl
theorem c97:aj Tryz.prog YO 97=some OH:=by kernel_rfl
theorem c98:aj Tryz.prog YP 98=some OI:=by kernel_rfl
theorem c99:aj Tryz.prog YQ 99=some J5:=by kernel_rfl
theorem YR:aj Tryz.prog Sn 100=some Fx:=by kernel_rfl
theorem YS:aj Tryz.prog So 101=some Fy:=by kernel_rfl
theorem YT:aj Tryz.prog Sp 102=some Fz:=by kernel_rfl
theorem YU:aj Tryz.prog Sq 103=some FA:=by kernel_rfl
theorem YV:aj Tryz.prog Sr 104=some Mb:=by kernel_rfl
theorem YW:aj Tryz.prog Ss 105=some FB:=by kernel_rfl
theorem YX:aj Tryz.prog Su 106=some FC:=by kernel_rfl
theorem YY:aj Tryz.prog Sv 107=some FD:=by kernel_rfl
theorem YZ:aj Tryz.prog Sw 108=some FE:=by kernel_rfl
theorem Y0:aj Tryz.prog Sx 113=some Ay:=by kernel_rfl
theorem Y1:aj Tryz.prog Sy 115=some xA:=by kernel_rfl
theorem Y2:aj Tryz.prog Sz 116=some FF:=by kernel_rfl
theorem Y3:aj Tryz.prog SA 117=some eG:=by kernel_rfl
theorem Y4:aj Tryz.prog SB 118=some Az:=by kernel_rfl
theorem Y5:aj Tryz.prog SD 119=some FG:=by kernel_rfl
theorem Y6:aj Tryz.prog SE 120=some FH:=by kernel_rfl
theorem Y7:aj Tryz.prog SF 121=some FI:=by kernel_rfl
theorem Y8:aj Tryz.prog SG 122=some eH:=by kernel_rfl
theorem Y9:aj Tryz.prog SI 123=some FJ:=by kernel_rfl
theorem Za:aj Tryz.prog SJ 124=some FK:=by kernel_rfl
theorem Zb:aj Tryz.prog SL 125=some FL:=by kernel_rfl
theorem Zc:aj Tryz.prog SM 128=some FM:=by kernel_rfl
theorem Zd:aj Tryz.prog SN 129=some FN:=by kernel_rfl
theorem Ze:aj Tryz.prog SO 132=some AA:=by kernel_rfl
theorem Zf:aj Tryz.prog SP 133=some FO:=by kernel_rfl
theorem Zg:aj Tryz.prog SQ 134=some FP:=by kernel_rfl
theorem Zh:aj Tryz.prog SS 135=some AB:=by kernel_rfl
theorem Zi:aj Tryz.prog SU 136=some FQ:=by kernel_rfl
theorem Zj:aj Tryz.prog SV 137=some FR:=by kernel_rfl
theorem Zk:aj Tryz.prog SW 138=some FT:=by kernel_rfl
theorem Zl:aj Tryz.prog SX 139=some FU:=by kernel_rfl
theorem Zm:aj Tryz.prog SY 141=some uf:=by kernel_rfl
theorem Zn:aj Tryz.prog SZ 142=some AD:=by kernel_rfl
theorem Zo:aj Tryz.prog S0 143=some FV:=by kernel_rfl
theorem Zp:aj Tryz.prog S4 144=some FW:=by kernel_rfl
theorem Zq:aj Tryz.prog S5 145=some AE:=by kernel_rfl
theorem Zr:aj Tryz.prog S6 146=some FX:=by kernel_rfl
theorem Zs:aj Tryz.prog S7 147=some FY:=by kernel_rfl
theorem Zt:aj Tryz.prog S8 148=some FZ:=by kernel_rfl
theorem Zu:aj Tryz.prog S9 149=some F4:=by kernel_rfl
theorem Zv:aj Tryz.prog Ta 150=some F5:=by kernel_rfl
theorem Zw:aj Tryz.prog Tb 151=some F6:=by kernel_rfl
theorem Zx:aj Tryz.prog Tc 153=some F7:=by kernel_rfl
theorem Zy:aj Tryz.prog Td 154=some F9:=by kernel_rfl
theorem Zz:aj Tryz.prog Te 155=some Ga:=by kernel_rfl
theorem ZA:aj Tryz.prog Tf 156=some Gb:=by kernel_rfl
theorem ZB:aj Tryz.prog Tg 157=some Gc:=by kernel_rfl
theorem ZC:aj Tryz.prog Th 158=some Ge:=by kernel_rfl
theorem ZD:aj Tryz.prog Ti 159=some Gf:=by kernel_rfl
theorem ZE:aj Tryz.prog Tj 160=some Gg:=by kernel_rfl
theorem ZF:aj Tryz.prog Tk 162=some Gh:=by kernel_rfl
theorem ZG:aj Tryz.prog Tm 163=some Gi:=by kernel_rfl
def Mc:Nat→Option Go.Rmp.Fn
 | 6=>some XO
 | 8=>some XP
 | 9=>some XQ
 | 10=>some NT
 | 13=>some JX
 | 14=>some NU
 | 15=>some NV
 | 17=>some Ca
 | 18=>some NW
 | 19=>some NX
 | 20=>some NY
 | 23=>some JY
 | 24=>some Ft
 | 25=>some Fu
 | 26=>some NZ
 | 27=>some N0
 | 28=>some N1
 | 29=>some N2
 | 30=>some N3
 | 31=>some N4
 | 32=>some N5
 | 33=>some N6
 | 34=>some N7
 | 35=>some N8
 | 36=>some N9
 | 46=>some Oa
 | 48=>some Ob
 | 49=>some Oc
 | 50=>some Od
 | 51=>some Oe
 | 52=>some Of
 | 53=>some Og
 | 54=>some JZ
 | 55=>some Oh
 | 56=>some Oi
 | 57=>some Fv
 | 58=>some Oj
 | 59=>some Ol
 | 60=>some Om
 | 61=>some On
 | 62=>some Oo
 | 63=>some Oq
 | 64=>some Ot
 | 65=>some Ou
 | 66=>some J0
 | 67=>some J1
 | 68=>some Ov
 | 69=>some vq
 | 70=>some Ox
 | 71=>some Oy
 | 72=>some Oz
 | 73=>some OA
 | 74=>some xz
 | 83=>some OB
 | 89=>some OC
 | 90=>some J2
 | 91=>some J3
 | 92=>some OD
 | 93=>some J4
 | 94=>some OE
 | 95=>some OF
 | 96=>some OG
 | 97=>some OH
 | 98=>some OI
 | 99=>some J5
 | 100=>some Fx
 | 101=>some Fy
 | 102=>some Fz
 | 103=>some FA
 | 104=>some Mb
 | 105=>some FB
 | 106=>some FC
 | 107=>some FD
 | 108=>some FE
 | 113=>some Ay
 | 115=>some xA
 | 116=>some FF
 | 117=>some eG
 | 118=>some Az
 | 119=>some FG
 | 120=>some FH
 | 121=>some FI
 | 122=>some eH
 | 123=>some FJ
 | 124=>some FK
 | 125=>some FL
 | 128=>some FM
 | 129=>some FN
 | 132=>some AA
 | 133=>some FO
 | 134=>some FP
 | 135=>some AB
 | 136=>some FQ
 | 137=>some FR
 | 138=>some FT
 | 139=>some FU
 | 141=>some uf
 | 142=>some AD
 | 143=>some FV
 | 144=>some FW
 | 145=>some AE
 | 146=>some FX
 | 147=>some FY
 | 148=>some FZ
 | 149=>some F4
 | 150=>some F5
 | 151=>some F6
 | 153=>some F7
 | 154=>some F9
 | 155=>some Ga
 | 156=>some Gb
 | 157=>some Gc
 | 158=>some Ge
 | 159=>some Gf
 | 160=>some Gg
 | 162=>some Gh
 | 163=>some Gi
 | _=>none
def env:Env:=⟨Mc,fun _ _ _ _=>False,fun _ _ _ _ _ h _=>h⟩
theorem Tq:z8 Tryz.prog env where
 mixed:=by kernel_rfl
 fn:=by
  intro f fn h
  simp only[env,Mc]at h
  split at h
  ·cases h;exact⟨_,c6⟩
  ·cases h;exact⟨_,c8⟩
  ·cases h;exact⟨_,c9⟩
  ·cases h;exact⟨_,c10⟩
  ·cases h;exact⟨_,c13⟩
  ·cases h;exact⟨_,c14⟩
  ·cases h;exact⟨_,Tn⟩
  ·cases h;exact⟨_,To⟩
  ·cases h;exact⟨_,c18⟩
  ·cases h;exact⟨_,c19⟩
  ·cases h;exact⟨_,c20⟩
  ·cases h;exact⟨_,c23⟩
  ·cases h;exact⟨_,c24⟩
  ·cases h;exact⟨_,Tp⟩
  ·cases h;exact⟨_,c26⟩
  ·cases h;exact⟨_,c27⟩
  ·cases h;exact⟨_,c28⟩
  ·cases h;exact⟨_,c29⟩
  ·cases h;exact⟨_,c30⟩
  ·cases h;exact⟨_,c31⟩
  ·cases h;exact⟨_,c32⟩
  ·cases h;exact⟨_,c33⟩
  ·cases h;exact⟨_,c34⟩
  ·cases h;exact⟨_,c35⟩
  ·cases h;exact⟨_,c36⟩
  ·cases h;exact⟨_,c46⟩
  ·cases h;exact⟨_,c48⟩
  ·cases h;exact⟨_,c49⟩
  ·cases h;exact⟨_,c50⟩
  ·cases h;exact⟨_,c51⟩
  ·cases h;exact⟨_,c52⟩
  ·cases h;exact⟨_,c53⟩
  ·cases h;exact⟨_,c54⟩
  ·cases h;exact⟨_,c55⟩
  ·cases h;exact⟨_,c56⟩
  ·cases h;exact⟨_,c57⟩
  ·cases h;exact⟨_,c58⟩
  ·cases h;exact⟨_,c59⟩
  ·cases h;exact⟨_,c60⟩
  ·cases h;exact⟨_,c61⟩
  ·cases h;exact⟨_,c62⟩
  ·cases h;exact⟨_,c63⟩
  ·cases h;exact⟨_,c64⟩
  ·cases h;exact⟨_,c65⟩
  ·cases h;exact⟨_,c66⟩
  ·cases h;exact⟨_,c67⟩
  ·cases h;exact⟨_,c68⟩
  ·cases h;exact⟨_,c69⟩
  ·cases h;exact⟨_,c70⟩
  ·cases h;exact⟨_,c71⟩
  ·cases h;exact⟨_,c72⟩
  ·cases h;exact⟨_,c73⟩
  ·cases h;exact⟨_,c74⟩
  ·cases h;exact⟨_,c83⟩
  ·cases h;exact⟨_,c89⟩
  ·cases h;exact⟨_,c90⟩
  ·cases h;exact⟨_,c91⟩
  ·cases h;exact⟨_,c92⟩
  ·cases h;exact⟨_,c93⟩
  ·cases h;exact⟨_,c94⟩
  ·cases h;exact⟨_,c95⟩
  ·cases h;exact⟨_,c96⟩
  ·cases h;exact⟨_,c97⟩
  ·cases h;exact⟨_,c98⟩
  ·cases h;exact⟨_,c99⟩
  ·cases h;exact⟨_,YR⟩
  ·cases h;exact⟨_,YS⟩
  ·cases h;exact⟨_,YT⟩
  ·cases h;exact⟨_,YU⟩
  ·cases h;exact⟨_,YV⟩
  ·cases h;exact⟨_,YW⟩
  ·cases h;exact⟨_,YX⟩
  ·cases h;exact⟨_,YY⟩
  ·cases h;exact⟨_,YZ⟩
  ·cases h;exact⟨_,Y0⟩
  ·cases h;exact⟨_,Y1⟩
  ·cases h;exact⟨_,Y2⟩
  ·cases h;exact⟨_,Y3⟩
  ·cases h;exact⟨_,Y4⟩
  ·cases h;exact⟨_,Y5⟩
  ·cases h;exact⟨_,Y6⟩
  ·cases h;exact⟨_,Y7⟩
  ·cases h;exact⟨_,Y8⟩
  ·cases h;exact⟨_,Y9⟩
  ·cases h;exact⟨_,Za⟩
  ·cases h;exact⟨_,Zb⟩
  ·cases h;exact⟨_,Zc⟩
  ·cases h;exact⟨_,Zd⟩
  ·cases h;exact⟨_,Ze⟩
  ·cases h;exact⟨_,Zf⟩
  ·cases h;exact⟨_,Zg⟩
  ·cases h;exact⟨_,Zh⟩
  ·cases h;exact⟨_,Zi⟩
  ·cases h;exact⟨_,Zj⟩
  ·cases h;exact⟨_,Zk⟩
  ·cases h;exact⟨_,Zl⟩
  ·cases h;exact⟨_,Zm⟩
  ·cases h;exact⟨_,Zn⟩
  ·cases h;exact⟨_,Zo⟩
  ·cases h;exact⟨_,Zp⟩
  ·cases h;exact⟨_,Zq⟩
  ·cases h;exact⟨_,Zr⟩
  ·cases h;exact⟨_,Zs⟩
  ·cases h;exact⟨_,Zt⟩
  ·cases h;exact⟨_,Zu⟩
  ·cases h;exact⟨_,Zv⟩
  ·cases h;exact⟨_,Zw⟩
  ·cases h;exact⟨_,Zx⟩
  ·cases h;exact⟨_,Zy⟩
  ·cases h;exact⟨_,Zz⟩
  ·cases h;exact⟨_,ZA⟩
  ·cases h;exact⟨_,ZB⟩
  ·cases h;exact⟨_,ZC⟩
  ·cases h;exact⟨_,ZD⟩
  ·cases h;exact⟨_,ZE⟩
  ·cases h;exact⟨_,ZF⟩
  ·cases h;exact⟨_,ZG⟩
  ·cases h
 oO:=by intro f az H Q h;exact h.elim
end Go.Proofs.YtdcpehdijdllpaaGreat.Ir
end

section
namespace Go.Proofs.YtdcpehdijdllpaaGreat.St
open Go.Rmp Go.Proofs.YtdcpehdijdllpaaGreat.Ir
set_option maxRecDepth 10000
theorem cw {α:Type}{l:List α}{i:Nat}(h:i<l.length):∃x,l[i]?=some x:=⟨l[i],List.getElem?_eq_getElem h⟩
def eS (s:ByteArray):List T:=[.str s]
def eU (n:Nat):List T:=[.int .u64 n]
theorem xB {n:Nat}(h:n<256):IntKind.u8.wrap (n:Int)=(n:Int):=by
 unfold IntKind.wrap
 simp -implicitDefEqProofs only[IntKind.signed,IntKind.bits]
 simp
 omega
def iZ:List ByteArray→Bool
 | a :: b :: l=>strLt a b&&iZ (b :: l)
 | _=>true
theorem l9:∀(l:List ByteArray),iZ l=true↔∀(i:Nat) (a b:ByteArray),l[i]?=some a→l[i+1]?=some b→strLt a b=true
 | []=>by simp[iZ]
 | [a]=>by simp[iZ]
 | a :: b :: l=>by
  simp -implicitDefEqProofs only[iZ,Bool.and_eq_true,l9 (b :: l)]
  constructor
  ·rintro⟨h1,h2⟩ i x y hx hy
   cases i with
   | zero=>simp at hx hy;subst hx;subst hy;exact h1
   | succ i=>exact h2 i x y (by simpa using hx) (by simpa using hy)
  ·intro h
   exact⟨h 0 a b rfl rfl,fun i x y hx hy=>h (i+1) x y (by simpa using hx) (by simpa using hy)⟩
theorem n6 {l:List ByteArray}(h:iZ l=true):∀(q p:Nat) (a b:ByteArray),p<q→l[p]?=some a→l[q]?=some b→strLt a b=true
 | 0,p,_,_,Q9,_,_=>by omega
 | q+1,p,a,b,Q9,ha,hb=>by
  obtain⟨c,hc⟩:=cw (l:=l) (i:=q) (by have:=(List.getElem?_eq_some_iff.1 hb).1;omega)
  have h1:=(l9 l).1 h q c b hc hb
  by_cases e:p=q
  ·subst e;rw[ha]at hc;cases hc;exact h1
  ·exact eF (n6 h q p a c (by omega) ha hc) h1
theorem pU {n:Nat}(h:n<18446744073709551616):IntKind.u64.wrap (n:Int)=(n:Int):=by
 unfold IntKind.wrap
 simp -implicitDefEqProofs only[IntKind.signed,IntKind.bits]
 simp
 omega
theorem rB (n:Int)(H:af):W env (.call 67 [.int .i64 n]) H (oL (.bool (decide (0≤n)&&decide (n≤1099511627776))) H):=by
 refine W.bU rfl rfl rfl ?_
 by_cases h1:0≤n
 ·simp -implicitDefEqProofs only[J1,op,ef,cl,sq,reduceIte,q4,q5,q6,q7,q8,q9,j1,j2,j3,S1,h1]
 ·simp -implicitDefEqProofs only[J1,op,ef,cl,sq,reduceIte,q4,q5,q6,q7,q8,q9,j1,j2,j3,S1,h1,Bool.false_and]
theorem all_map {α:Type}{enc:α→List T}{n:Nat}(hn:∀x,(enc x).length=n)(l:List α):(l.map enc).all (·.length==n)=true:=by
 simp[List.all_map,hn]
theorem cE {α:Type}{l:List α}{i:Nat}{x:α}(h:l[i]?=some x):l.take (i+1)=l.take i++[x]:=by
 obtain⟨hi,e⟩:=List.getElem?_eq_some_iff.1 h
 rw[List.take_add_one,h];rfl
theorem gC {α:Type}{e:α→List T}{n:Nat}(hn:∀x,(e x).length=n)(h0:n≠0){l:List α}{k:SK}{i:Nat}{x:α}(h:l[i]?=some x):dw n i (.sl k (l.map e))=some (.dk (e x)):=by
 simp -implicitDefEqProofs only[dw,List.getElem?_map,h,Option.map_some,hn,h0,ne_eq,not_false_eq_true,and_self,if_true]
theorem ug {n b:Nat}(h:n≤16777216)(hb:b≤64):cU n b=true:=by
 simp -implicitDefEqProofs only[cU,decide_eq_true_eq]
 have:(n+n/4+512)*b≤(n+n/4+512)*64:=Nat.mul_le_mul_left _ hb
 omega
def iD {α:Type}(k:SK)(l:List α):Prop:=k=.nil→l=[]
theorem vt {H H':af}{bytes:Nat}{k k':SK}{es new Lw:List (List T)}(ha:gX H bytes k es new=some (.sl k' Lw,H'))(hn:new≠[]):k'≠.nil:=by
 rintro rfl
 unfold gX at ha
 split at ha
 ·exact hn rfl
 ·split at ha
  ·cases k<;>simp only at ha
   ·simp at ha
   ·cases ha
   ·simp at ha
   ·split at ha
    ·split at ha<;>simp at ha
    ·cases ha
  ·cases ha
theorem Gj (s:ByteArray)(H:af):W env (.call 119 [.str s]) H (oL (.bool false) H):=by
 refine W.bU rfl rfl rfl ?_
 simp -implicitDefEqProofs only[FG,op,ef,cl,sq,reduceIte,q4,q5,q6,q7,q8,q9,j1,j2,j3,S1,Bool.not_true]
theorem Ts (s:ByteArray)(H:af):W env (.call 151 [.str s]) H (oL (.bool false) H):=by
 refine W.bU rfl rfl rfl ?_
 simp -implicitDefEqProofs only[F6,op,ef,cl,sq,reduceIte,q4,q5,q6,q7,q8,q9,j1,j2,j3,S1,Bool.not_true]
theorem Gk (n:Nat)(H:af):W env (.call 120 [.int .u64 n]) H (oL (.bool false) H):=by
 refine W.bU rfl rfl rfl ?_
 simp -implicitDefEqProofs only[FH,op,ef,cl,sq,reduceIte,q4,q5,q6,q7,q8,q9,j1,j2,j3,S1]
theorem Tt (n:Nat)(H:af):W env (.call 125 [.int .u64 n]) H (oL (.bool false) H):=by
 refine W.bU rfl rfl rfl ?_
 simp -implicitDefEqProofs only[FL,op,ef,cl,sq,reduceIte,q4,q5,q6,q7,q8,q9,j1,j2,j3,S1]
def Cb (a b:ByteArray):Int:=if strLt a b=true then -1 else if strLt b a=true then 1 else 0
def Cc (a b:Nat):Int:=if a<b then -1 else if b<a then 1 else 0
theorem Tu (a b:ByteArray)(H:af):W env (.call 96 [.str a,.str b]) H (oL (.int .i64 (Cb a b)) H):=by
 refine W.bU rfl rfl rfl ?_
 simp -implicitDefEqProofs only[OG,op,ef,cl,sq,reduceIte,q4,q5,q6,q7,q8,q9,j1,j2,j3,S1]
 refine ae _ _ _ _ _ _ _ _ (Gj a _) ?_
 rintro u H1⟨hu,rfl⟩
 cases hu
 simp -implicitDefEqProofs only[op,ef,cl,sq,reduceIte,q4,q5,q6,q7,q8,q9,j1,j2,j3,S1]
 refine ae _ _ _ _ _ _ _ _ (Gj b _) ?_
 rintro u H1⟨hu,rfl⟩
 cases hu
 cases h1:strLt a b
 ·cases h2:strLt b a
  ·simp -implicitDefEqProofs only[op,ef,cl,sq,reduceIte,q4,q5,q6,q7,q8,q9,j1,j2,j3,S1,Cb,h1,h2]
  ·simp -implicitDefEqProofs only[op,ef,cl,sq,reduceIte,q4,q5,q6,q7,q8,q9,j1,j2,j3,S1,Cb,h1,h2]
 ·simp -implicitDefEqProofs only[op,ef,cl,sq,reduceIte,q4,q5,q6,q7,q8,q9,j1,j2,j3,S1,Cb,h1]
theorem Tv (a b:Nat)(H:af):W env (.call 97 [.int .u64 a,.int .u64 b]) H (oL (.int .i64 (Cc a b)) H):=by
 refine W.bU rfl rfl rfl ?_
 simp -implicitDefEqProofs only[OH,op,ef,cl,sq,reduceIte,q4,q5,q6,q7,q8,q9,j1,j2,j3,S1]
 refine ae _ _ _ _ _ _ _ _ (Gk a _) ?_
 rintro u H1⟨hu,rfl⟩
 cases hu
 simp -implicitDefEqProofs only[op,ef,cl,sq,reduceIte,q4,q5,q6,q7,q8,q9,j1,j2,j3,S1]
 refine ae _ _ _ _ _ _ _ _ (Gk b _) ?_
 rintro u H1⟨hu,rfl⟩
 cases hu
 by_cases h1:a<b
 ·simp -implicitDefEqProofs only[op,ef,cl,sq,reduceIte,q4,q5,q6,q7,q8,q9,j1,j2,j3,S1,Cc,h1]
 ·by_cases h2:b<a
  ·simp -implicitDefEqProofs only[op,ef,cl,sq,reduceIte,q4,q5,q6,q7,q8,q9,j1,j2,j3,S1,Cc,h1,h2]
  ·simp -implicitDefEqProofs only[op,ef,cl,sq,reduceIte,q4,q5,q6,q7,q8,q9,j1,j2,j3,S1,Cc,h1,h2]
theorem dS (a b:ByteArray)(H:af):W env (.call 148 [.str a,.str b]) H (oL (.bool (strLt a b)) H):=by
 refine W.bU rfl rfl rfl ?_
 simp -implicitDefEqProofs only[FZ,op,ef,cl,sq,reduceIte,q4,q5,q6,q7,q8,q9,j1,j2,j3,S1]
 refine ae _ _ _ _ _ _ _ _ (Gj a _) ?_
 rintro u H1⟨hu,rfl⟩
 cases hu
 simp -implicitDefEqProofs only[op,ef,cl,sq,reduceIte,q4,q5,q6,q7,q8,q9,j1,j2,j3,S1]
theorem OJ (a b:Nat)(H:af):W env (.call 124 [.int .u64 a,.int .u64 b]) H (oL (.bool (decide (a<b))) H):=by
 refine W.bU rfl rfl rfl ?_
 simp -implicitDefEqProofs only[FK,op,ef,cl,sq,reduceIte,q4,q5,q6,q7,q8,q9,j1,j2,j3,S1]
 refine ae _ _ _ _ _ _ _ _ (Gk a _) ?_
 rintro u H1⟨hu,rfl⟩
 cases hu
 simp -implicitDefEqProofs only[op,ef,cl,sq,reduceIte,q4,q5,q6,q7,q8,q9,j1,j2,j3,S1]
def QE (x y:Int):Int:=if x=0 then y else x
theorem ZH (x y:Int)(H:af):W env (.call 95 [.sl .full [[.int .i64 x],[.int .i64 y]]]) H (oL (.int .i64 (QE x y)) H):=by
 refine W.bU rfl rfl rfl ?_
 simp -implicitDefEqProofs only[OF,op,ef,cl,sq,reduceIte,q4,q5,q6,q7,q8,q9,j1,j2,j3,S1]
 refine W.cH (fun (i:Nat) R H'=>H'=H∧R 3=.int .i64 0∧R 6=.sl .full [[.int .i64 x],[.int .i64 y]]∧R 7=.int .i64 2∧R 8=.int .i64 i∧i≤2∧(1≤i→x=0)∧(2≤i→y=0)) (fun i=>2-i) 0 ⟨rfl,rfl,rfl,rfl,rfl,by omega,fun h=>by omega,fun h=>by omega⟩ ?_
 rintro i R _⟨rfl,h3,h6,h7,h8,hi,h1,h2⟩
 have hc:i=0∨i=1∨i=2:=by omega
 have i0:dw 1 0 (.sl .full [[T.int .i64 x],[.int .i64 y]])=some (.dk [.int .i64 x]):=rfl
 have i1:dw 1 1 (.sl .full [[T.int .i64 x],[.int .i64 y]])=some (.dk [.int .i64 y]):=rfl
 have n0:cq (.int .i64 ((0:Nat):Int))=some 0:=rfl
 have n1:cq (.int .i64 ((1:Nat):Int))=some 1:=rfl
 have l0:((0:Nat):Int)<2:=by decide
 have l1:((1:Nat):Int)<2:=by decide
 have l2:¬((2:Nat):Int)<2:=by decide
 have w0:IntKind.i64.wrap (((0:Nat):Int)+1)=((1:Nat):Int):=by decide
 have w1:IntKind.i64.wrap (((1:Nat):Int)+1)=((2:Nat):Int):=by decide
 rcases hc with rfl|rfl|rfl
 ·by_cases hx:x=0
  ·subst hx
   simp -implicitDefEqProofs only[op,ef,cl,sq,reduceIte,q4,q5,q6,q7,q8,q9,j1,j2,j3,S1,h3,h6,h7,h8,l0,i0,n0,w0]
   exact⟨1,by decide,rfl,by omega⟩
  ·have jk:(x != 0)=true:=by simpa using hx
   simp -implicitDefEqProofs only[op,ef,cl,sq,reduceIte,q4,q5,q6,q7,q8,q9,j1,j2,j3,S1,h3,h6,h7,h8,l0,i0,n0,jk,QE,hx]
 ·have hx:=h1 (by decide)
  subst hx
  by_cases hy:y=0
  ·subst hy
   simp -implicitDefEqProofs only[op,ef,cl,sq,reduceIte,q4,q5,q6,q7,q8,q9,j1,j2,j3,S1,h3,h6,h7,h8,l1,i1,n1,w1]
   exact⟨2,by decide,rfl,by omega⟩
  ·have HX:(y != 0)=true:=by simpa using hy
   simp -implicitDefEqProofs only[op,ef,cl,sq,reduceIte,q4,q5,q6,q7,q8,q9,j1,j2,j3,S1,h3,h6,h7,h8,l1,i1,n1,HX,QE]
 ·have hx:=h1 (by decide)
  have hy:=h2 (by decide)
  subst hx hy
  simp -implicitDefEqProofs only[op,ef,cl,sq,reduceIte,q4,q5,q6,q7,q8,q9,j1,j2,j3,S1,h3,h6,h7,h8,l2,QE]
abbrev Nm:=ByteArray×Nat
def eN (n:Nm):List T:=[.str n.1,.int .u64 n.2]
def kN (n:Nm):T:=.agg (eN n)
theorem vu:ru (.st [.str,.int]) kN:=⟨fun _=>rfl,fun a b=>by
 simp -implicitDefEqProofs only[kN,eN,gW,cd,ji,gr,if_true,RW]
 congr 1
 rw[Bool.eq_iff_iff]
 simp[Prod.ext_iff]⟩
def dJ (a b:Nm):Int:=QE (Cb a.1 b.1) (Cc a.2 b.2)
theorem cg (a b:Nm)(H:af):W env (.call 61 [kN a,kN b]) H (Ew (.int .i64 (dJ a b)) H):=by
 refine W.bU rfl rfl rfl ?_
 simp -implicitDefEqProofs only[On,kN,eN,op,ef,cl,sq,reduceIte,q4,q5,q6,q7,q8,q9,j1,j2,j3,S1,S2,S3]
 refine ae _ _ _ _ _ _ _ _ (Tu _ _ _) ?_
 rintro u H1⟨hu,rfl⟩
 cases hu
 simp -implicitDefEqProofs only[op,ef,cl,sq,reduceIte,q4,q5,q6,q7,q8,q9,j1,j2,j3,S1,S2,S3]
 refine ae _ _ _ _ _ _ _ _ (Tv _ _ _) ?_
 rintro u H1⟨hu,rfl⟩
 cases hu
 simp -implicitDefEqProofs only[op,ef,cl,sq,reduceIte,q4,q5,q6,q7,q8,q9,j1,j2,j3,S1,S2,S3]
 refine ae _ _ _ _ _ _ _ _ (ZH _ _ _) ?_
 rintro u H1⟨hu,rfl⟩
 cases hu
 simp -implicitDefEqProofs only[op,ef,cl,sq,reduceIte,q4,q5,q6,q7,q8,q9,j1,j2,j3,S1]
 exact⟨rfl,(Ext.rfl'.app _).app _⟩
theorem half (i j:Nat)(h:i+j<9223372036854775807):IntKind.i64.wrap ((IntKind.u64.wrap (IntKind.i64.wrap ((i:Int)+(j:Int)))).fdiv (2^(min (1:Int).toNat IntKind.u64.bits)))=(((i+j)/2:Nat):Int):=by
 rw[wrap64 (n:=(i:Int)+j) (by omega),u3 (n:=(i:Int)+j) (by omega)]
 have e:(2:Int)^(min (1:Int).toNat IntKind.u64.bits)=2:=by decide
 rw[e,Int.fdiv_eq_ediv_of_nonneg _ (by omega),wrap64 (by omega)]
 omega
def n9 (l:List ByteArray)(x:ByteArray):Bool:=l.any fun y=>decide (y=x)
theorem oa {l:List ByteArray}{x:ByteArray}:n9 l x=true↔x∈l:=by simp[n9]
theorem qt {l:List ByteArray}{x:ByteArray}:n9 l x=false↔x∉l:=by rw[←oa];simp
def Gl (l:List ByteArray)(i:Nat):Prop:=∀x,l[i]?=some x→x.size≤65535∧(0<i→∀y,l[i-1]?=some y→strLt y x=true)
def gu (l:List ByteArray):Prop:=(∀i,i<l.length→Gl l i)∧1≤l.length∧l.length≤1024
def kz (l:List ByteArray):Bool:=iZ l&&l.all (fun x=>decide (x.size≤65535))&&decide (1≤l.length)&&decide (l.length≤1024)
theorem dP {l:List ByteArray}:kz l=true↔gu l:=by
 simp -implicitDefEqProofs only[kz,Bool.and_eq_true,decide_eq_true_eq,List.all_eq_true,gu,l9]
 constructor
 ·rintro⟨⟨⟨h1,h2⟩,h3⟩,h4⟩
  refine⟨fun i hi x hx=>⟨h2 x (List.mem_of_getElem? hx),fun h0 y hy=>h1 (i-1) y x hy (by rw[show i-1+1=i by omega];exact hx)⟩,h3,h4⟩
 ·rintro⟨h1,h3,h4⟩
  refine⟨⟨⟨fun i a b ha hb=>?_,fun x hx=>?_⟩,h3⟩,h4⟩
  ·exact(h1 (i+1) (List.getElem?_eq_some_iff.1 hb).1 b hb).2 (by omega) a (by simpa using ha)
  ·obtain⟨i,hi,rfl⟩:=List.getElem_of_mem hx
   exact(h1 i hi _ (List.getElem?_eq_getElem hi)).1
theorem xC {l:List ByteArray}(h:¬gu l):kz l=false:=by
 cases e:kz l with
 | false=>rfl
 | true=>exact absurd (dP.1 e) h
theorem gu.iZ {l:List ByteArray}(h:gu l):iZ l=true:=(l9 l).2 fun i a b ha hb=>by
 have:=(h.1 (i+1) (List.getElem?_eq_some_iff.1 hb).1 b hb).2 (by omega) a (by simpa using ha)
 exact this
theorem xD (k:SK)(l:List ByteArray)(H:af)(hl:l.length<9223372036854775807):W env (.call 101 [.sl k (l.map eS)]) H (fun o H'=>o=.val (.bool (kz l))∧H'=H):=by
 refine W.bU rfl rfl rfl ?_
 simp -implicitDefEqProofs only[Fy,op,ef,cl,sq,reduceIte,q4,q5,q6,q7,q8,q9,j1,j2,j3,S1,List.length_map]
 refine W.cH (fun (i:Nat) R H'=>H'=H∧R 0=.sl k (l.map eS)∧R 5=.sl k (l.map eS)∧R 6=.int .i64 l.length∧R 7=.int .i64 i∧i≤l.length∧∀j,j<i→Gl l j) (fun i=>l.length-i) 0 ⟨rfl,rfl,rfl,rfl,rfl,Nat.zero_le _,fun j h=>by omega⟩ ?_
 rintro i R _⟨rfl,h0,h5,h6,h7,hi,qj⟩
 by_cases aw:i<l.length
 ·obtain⟨x,hx⟩:=cw aw
  have ws:=aC (show i<9223372036854775807 by omega)
  have we:=gC (e:=eS) (n:=1) (fun _=>rfl) (by decide) (k:=k) hx
  have bad:¬Gl l i→kz l=false:=fun hb=>xC fun h=>hb (h.1 i aw)
  by_cases a9:65535<x.size
  ·have:=bad fun h=>by have:=(h x hx).1;omega
   simp -implicitDefEqProofs only[op,ef,cl,sq,reduceIte,q4,q5,q6,q7,q8,q9,j1,j2,j3,S1,h0,h5,h6,h7,aw,aa,we,eS,a9,this]
  ·by_cases oM:0<i
   ·obtain⟨y,hy⟩:=cw (l:=l) (i:=i-1) (by omega)
    have wp:=l3 (show i<9223372036854775807 by omega) oM
    have hiy:=gC (e:=eS) (n:=1) (fun _=>rfl) (by decide) (k:=k) hy
    cases hc:strLt y x
    ·have:=bad fun h=>by have:=(h x hx).2 oM y hy;rw[hc]at this;cases this
     simp -implicitDefEqProofs only[op,ef,cl,sq,reduceIte,q4,q5,q6,q7,q8,q9,j1,j2,j3,S1,h0,h5,h6,h7,aw,aa,we,hiy,eS,a9,oM,wp,hc,this]
    ·simp -implicitDefEqProofs only[op,ef,cl,sq,reduceIte,q4,q5,q6,q7,q8,q9,j1,j2,j3,S1,h0,h5,h6,h7,aw,aa,we,hiy,eS,a9,oM,wp,hc,ws]
     refine⟨i+1,by omega,rfl,by omega,fun j hj=>?_⟩
     by_cases e:j=i
     ·subst e;intro x' jk;rw[hx]at jk;cases jk
      exact⟨by omega,fun _ y' HX=>by rw[hy]at HX;cases HX;exact hc⟩
     ·exact qj j (by omega)
   ·simp -implicitDefEqProofs only[op,ef,cl,sq,reduceIte,q4,q5,q6,q7,q8,q9,j1,j2,j3,S1,h0,h5,h6,h7,aw,aa,we,eS,a9,oM,ws]
    refine⟨i+1,by omega,rfl,by omega,fun j hj=>?_⟩
    by_cases e:j=i
    ·subst e;intro x' jk;rw[hx]at jk;cases jk
     exact⟨by omega,fun h=>absurd h oM⟩
    ·exact qj j (by omega)
 ·have lx:i=l.length:=by omega
  subst lx
  by_cases h1:1≤l.length
  ·have e:kz l=decide (l.length≤1024):=by
    rw[Bool.eq_iff_iff,dP];simp -implicitDefEqProofs only[decide_eq_true_eq]
    exact⟨fun h=>h.2.2,fun h=>⟨qj,h1,h⟩⟩
   simp -implicitDefEqProofs only[op,ef,cl,sq,reduceIte,q4,q5,q6,q7,q8,q9,j1,j2,j3,S1,h0,h5,h6,h7,aw,List.length_map,h1,e]
  ·have e:kz l=false:=xC fun h=>h1 h.2.1
   simp -implicitDefEqProofs only[op,ef,cl,sq,reduceIte,q4,q5,q6,q7,q8,q9,j1,j2,j3,S1,h0,h5,h6,h7,aw,List.length_map,h1,e]
theorem ZI (k:SK)(l:List ByteArray)(x:ByteArray)(H:af)(hl:l.length<4611686018427387903)(hr:iZ l=true) :
  W env (.call 123 [.sl k (l.map eS),.str x]) H (fun o H'=>∃i:Nat,o=.val (.bJ [.int .i64 i,.bool (n9 l x)])∧H'=H):=by
 refine W.bU rfl rfl rfl ?_
 simp -implicitDefEqProofs only[FJ,op,ef,cl,sq,reduceIte,q4,q5,q6,q7,q8,q9,j1,j2,j3,S1,List.length_map]
 refine W.cH (fun (s:Nat×Nat) R H'=>H'=H∧R 0=.sl k (l.map eS)∧R 1=.str x∧R 6=.int .i64 l.length∧R 7=.int .i64 s.1∧R 8=.int .i64 s.2∧s.1≤s.2∧s.2≤l.length∧(∀p a,p<s.1→l[p]?=some a→strLt a x=true)∧∀p a,s.2≤p→l[p]?=some a→strLt a x=false)
  (fun s=>s.2-s.1) (0,l.length) ⟨rfl,rfl,rfl,rfl,rfl,rfl,Nat.zero_le _,Nat.le_refl _,fun p a h=>by omega,fun p a h ha=>by rw[List.getElem?_eq_none h]at ha;cases ha⟩ ?_
 rintro⟨i,j⟩ R _ ⟨rfl,h0,h1,h6,h7,h8,rC,yF,kx,zV⟩
 simp -implicitDefEqProofs only[op,ef,cl,sq,reduceIte,q4,q5,q6,q7,q8,q9,j1,j2,j3,S1,h0,h1,h6,h7,h8,List.length_map]
 by_cases aw:i<j
 ·obtain⟨y,hy⟩:=cw (l:=l) (i:=(i+j)/2) (by omega)
  have we:=gC (e:=eS) (n:=1) (fun _=>rfl) (by decide) (k:=k) hy
  simp -implicitDefEqProofs only[aw,op,ef,cl,sq,reduceIte,q4,q5,q6,q7,q8,q9,j1,j2,j3,S1,h0,h1,h6,h7,h8,half i j (by omega),we,eS]
  refine ae _ _ _ _ _ _ _ _ (dS y x _) ?_
  rintro v H'⟨hv,rfl⟩
  cases hv
  simp -implicitDefEqProofs only[op,ef,cl,sq,reduceIte,q4,q5,q6,q7,q8,q9,j1,j2,j3,S1,h0,h1,h6,h7,h8]
  cases hc:strLt y x
  ·simp -implicitDefEqProofs only[op,ef,cl,sq,reduceIte,q4,q5,q6,q7,q8,q9,j1,j2,j3,S1,h0,h1,h6,h7,h8]
   refine⟨(i,(i+j)/2),by omega,rfl,rfl,by omega,by omega,kx,fun p a hp ha=>?_⟩
   by_cases e:p=(i+j)/2
   ·subst e;rw[hy]at ha;cases ha;exact hc
   ·cases hh:strLt a x with
    | false=>rfl
    | true=>rw[eF (n6 hr p ((i+j)/2) y a (by omega) hy ha) hh]at hc;cases hc
  ·simp -implicitDefEqProofs only[op,ef,cl,sq,reduceIte,q4,q5,q6,q7,q8,q9,j1,j2,j3,S1,h0,h1,h6,h7,h8,aC (show(i+j)/2<9223372036854775807 by omega)]
   refine⟨((i+j)/2+1,j),by omega,rfl,rfl,by omega,by omega,fun p a hp ha=>?_,zV⟩
   by_cases e:p=(i+j)/2
   ·subst e;rw[hy]at ha;cases ha;exact hc
   ·exact eF (n6 hr ((i+j)/2) p a y (by omega) ha hy) hc
 ·have OK:i=j:=by simp only at rC;omega
  subst OK
  by_cases iW:i<l.length
  ·obtain⟨y,hy⟩:=cw iW
   have we:=gC (e:=eS) (n:=1) (fun _=>rfl) (by decide) (k:=k) hy
   by_cases OL:y=x
   ·have:n9 l x=true:=oa.2 (OL▸List.mem_of_getElem? hy)
    simp -implicitDefEqProofs only[op,ef,cl,sq,reduceIte,q4,q5,q6,q7,q8,q9,j1,j2,j3,S1,h0,h1,h6,h7,h8,List.length_map,aw,iW,we,eS,OL,this]
    exact⟨i,rfl⟩
   ·have:n9 l x=false:=qt.2 fun hm=>by
     obtain⟨p,hp,e⟩:=List.getElem_of_mem hm
     have QF:l[p]?=some x:=by rw[List.getElem?_eq_getElem hp,e]
     rcases Nat.lt_trichotomy p i with h|h|h
     ·have:=kx p x h QF;rw[fk]at this;cases this
     ·subst h;rw[hy]at QF;cases QF;exact OL rfl
     ·have a1:=zV i y (Nat.le_refl _) hy
      rw[n6 hr p i y x h hy QF]at a1;cases a1
    simp -implicitDefEqProofs only[op,ef,cl,sq,reduceIte,q4,q5,q6,q7,q8,q9,j1,j2,j3,S1,h0,h1,h6,h7,h8,List.length_map,aw,iW,we,eS,OL]
    refine ae _ _ _ _ _ _ _ _ (Ts y _) ?_
    rintro v H'⟨hv,rfl⟩
    cases hv
    simp -implicitDefEqProofs only[op,ef,cl,sq,reduceIte,q4,q5,q6,q7,q8,q9,j1,j2,j3,S1,this]
    exact⟨i,rfl⟩
  ·have:n9 l x=false:=qt.2 fun hm=>by
    obtain⟨p,hp,e⟩:=List.getElem_of_mem hm
    have QF:l[p]?=some x:=by rw[List.getElem?_eq_getElem hp,e]
    have:=kx p x (by omega) QF;rw[fk]at this;cases this
   simp -implicitDefEqProofs only[op,ef,cl,sq,reduceIte,q4,q5,q6,q7,q8,q9,j1,j2,j3,S1,h0,h1,h6,h7,h8,List.length_map,aw,iW,this]
   exact⟨i,rfl⟩
theorem Gm (k:SK)(l:List ByteArray)(x:ByteArray)(H:af)(hl:l.length<4611686018427387903)(hr:iZ l=true):W env (.call 102 [.sl k (l.map eS),.str x]) H (oL (.bool (n9 l x)) H):=by
 refine W.bU rfl rfl rfl ?_
 simp -implicitDefEqProofs only[Fz,op,ef,cl,sq,reduceIte,q4,q5,q6,q7,q8,q9,j1,j2,j3,S1]
 refine ae _ _ _ _ _ _ _ _ (ZI k l x _ hl hr) ?_
 rintro v H'⟨i,hv,rfl⟩
 cases hv
 simp -implicitDefEqProofs only[op,ef,cl,sq,reduceIte,q4,q5,q6,q7,q8,q9,j1,j2,j3,S1]
def eP (p:ByteArray×ByteArray):List T:=[.str p.1,.str p.2]
def rD (l:List (ByteArray×ByteArray))(ks:List ByteArray)(i:Nat):Prop:=∀p,l[i]?=some p→(0<i→∀q,l[i-1]?=some q→strLt q.1 p.1=true)∧p.1∈ks∧p.2.size≤65535
def mC (n:Nat)(l:List (ByteArray×ByteArray))(ks:List ByteArray):Prop:=65536≤n∧gu ks∧1≤l.length∧∀i,i<l.length→rD l ks i
theorem Md (n:Nat)(k k':SK)(l:List (ByteArray×ByteArray))(ks:List ByteArray)(H:af)(hl:l.length<9223372036854775807)(Qn:ks.length<4611686018427387903) :
  W env (.call 66 [.int .u64 n,.sl k (l.map eP),.sl k' (ks.map eS)]) H (fun o H'=>Ext H H'∧∃b,o=.val (.bool b)∧(b=true↔mC n l ks)):=by
 refine W.bU rfl rfl rfl ?_
 have no:¬mC n l ks→((false:Bool)=true↔mC n l ks):=fun h=>⟨fun e=>(by cases e),fun e=>absurd e h⟩
 by_cases hn:n<65536
 ·simp -implicitDefEqProofs only[J0,op,ef,cl,sq,reduceIte,q4,q5,q6,q7,q8,q9,j1,j2,j3,S1,hn]
  exact⟨Ext.rfl',false,rfl,no fun h=>by have:=h.1;omega⟩
 simp -implicitDefEqProofs only[J0,op,ef,cl,sq,reduceIte,q4,q5,q6,q7,q8,q9,j1,j2,j3,S1,hn]
 refine ae _ _ _ _ _ _ _ _ (xD k' ks _ (by omega)) ?_
 rintro u H1⟨hu,rfl⟩
 cases hu
 cases hg:kz ks
 ·simp -implicitDefEqProofs only[op,ef,cl,sq,reduceIte,q4,q5,q6,q7,q8,q9,j1,j2,j3,S1]
  exact⟨Ext.rfl',false,rfl,no fun h=>by have:=dP.2 h.2.1;rw[hg]at this;cases this⟩
 have HY:=dP.1 hg
 by_cases Tw:l.length<1
 ·simp -implicitDefEqProofs only[op,ef,cl,sq,reduceIte,q4,q5,q6,q7,q8,q9,j1,j2,j3,S1,List.length_map,Tw]
  exact⟨Ext.rfl',false,rfl,no fun h=>by have:=h.2.2.1;omega⟩
 simp -implicitDefEqProofs only[op,ef,cl,sq,reduceIte,q4,q5,q6,q7,q8,q9,j1,j2,j3,S1,List.length_map,Tw]
 refine W.cH (fun (i:Nat) R H'=>At H' (fun H'=>Ext H1 H')∧R 0=.int .u64 n∧R 1=.sl k (l.map eP)∧R 2=.sl k' (ks.map eS)∧R 21=.sl k (l.map eP)∧R 22=.int .i64 l.length∧R 23=.int .i64 i∧i≤l.length∧∀j,j<i→rD l ks j) (fun i=>l.length-i) 0 ⟨.i Ext.rfl',rfl,rfl,rfl,rfl,rfl,rfl,Nat.zero_le _,fun j h=>by omega⟩ ?_
 rintro i R H2⟨hx,h0,h1,h2,Ji,QG,QH,hi,qj⟩
 have hx:Ext H1 H2:=hx
 by_cases aw:i<l.length
 ·obtain⟨p,hp⟩:=cw aw
  have ws:=aC (show i<9223372036854775807 by omega)
  have we:=gC (e:=eP) (n:=2) (fun _=>rfl) (by decide) (k:=k) hp
  have bad:¬rD l ks i→((false:Bool)=true↔mC n l ks):=fun hb=>no fun h=>hb (h.2.2.2 i aw)
  have yf:∀y:B,Ext H1 (H2++[y]):=fun y=>hx.app _
  have key:(0<i→∀q,l[i-1]?=some q→strLt q.1 p.1=true)→∀c:Bool,c=n9 ks p.1→(c=false∨65535<p.2.size→¬rD l ks i)∧(c=true→¬65535<p.2.size→∀j,j<i+1→rD l ks j):=by
   rintro hs c rfl
   refine⟨fun h ho=>?_,fun hc a9 j hj=>?_⟩
   ·have:=(ho p hp).2
    rcases h with h|h
    ·exact qt.1 h this.1
    ·omega
   ·by_cases e:j=i
    ·subst e;intro p' vX;rw[hp]at vX;cases vX
     exact⟨hs,oa.1 hc,by omega⟩
    ·exact qj j (by omega)
  by_cases oM:0<i
  ·obtain⟨q,hq⟩:=cw (l:=l) (i:=i-1) (by omega)
   have wp:=l3 (show i<9223372036854775807 by omega) oM
   have hiq:=gC (e:=eP) (n:=2) (fun _=>rfl) (by decide) (k:=k) hq
   cases hc:strLt q.1 p.1
   ·simp -implicitDefEqProofs only[op,ef,cl,sq,reduceIte,q4,q5,q6,q7,q8,q9,j1,j2,j3,S1,S2,S3,h0,h1,h2,Ji,QG,QH,aw,aa,we,hiq,eP,oM,wp,hc]
    exact⟨(hx.app _),false,rfl,bad fun h=>by have:=(h p hp).1 oM q hq;rw[hc]at this;cases this⟩
   ·have hk:=key (fun _ q' Ri=>by rw[hq]at Ri;cases Ri;exact hc) (n9 ks p.1) rfl
    simp -implicitDefEqProofs only[op,ef,cl,sq,reduceIte,q4,q5,q6,q7,q8,q9,j1,j2,j3,S1,S2,S3,h0,h1,h2,Ji,QG,QH,aw,aa,we,hiq,eP,oM,wp,hc]
    refine ae _ _ _ _ _ _ _ _ (Gm k' ks p.1 _ (by omega) HY.iZ) ?_
    rintro u H3⟨hu,rfl⟩
    cases hu
    cases hm:n9 ks p.1
    ·simp -implicitDefEqProofs only[op,ef,cl,sq,reduceIte,q4,q5,q6,q7,q8,q9,j1,j2,j3,S1]
     exact⟨(hx.app _),false,rfl,bad (hk.1 (.inl hm))⟩
    ·by_cases a9:65535<p.2.size
     ·simp -implicitDefEqProofs only[op,ef,cl,sq,reduceIte,q4,q5,q6,q7,q8,q9,j1,j2,j3,S1,S2,S3,a9]
      exact⟨(hx.app _),false,rfl,bad (hk.1 (.inr a9))⟩
     ·simp -implicitDefEqProofs only[op,ef,cl,sq,reduceIte,q4,q5,q6,q7,q8,q9,j1,j2,j3,S1,S2,S3,a9,h0,h1,h2,Ji,QG,QH,ws]
      exact⟨i+1,by omega,.i (hx.app _),rfl,by omega,hk.2 hm a9⟩
  ·have hk:=key (fun h=>absurd h oM) (n9 ks p.1) rfl
   simp -implicitDefEqProofs only[op,ef,cl,sq,reduceIte,q4,q5,q6,q7,q8,q9,j1,j2,j3,S1,S2,S3,h0,h1,h2,Ji,QG,QH,aw,aa,we,eP,oM]
   refine ae _ _ _ _ _ _ _ _ (Gm k' ks p.1 _ (by omega) HY.iZ) ?_
   rintro u H3⟨hu,rfl⟩
   cases hu
   cases hm:n9 ks p.1
   ·simp -implicitDefEqProofs only[op,ef,cl,sq,reduceIte,q4,q5,q6,q7,q8,q9,j1,j2,j3,S1]
    exact⟨(hx.app _),false,rfl,bad (hk.1 (.inl hm))⟩
   ·by_cases a9:65535<p.2.size
    ·simp -implicitDefEqProofs only[op,ef,cl,sq,reduceIte,q4,q5,q6,q7,q8,q9,j1,j2,j3,S1,S2,S3,a9]
     exact⟨(hx.app _),false,rfl,bad (hk.1 (.inr a9))⟩
    ·simp -implicitDefEqProofs only[op,ef,cl,sq,reduceIte,q4,q5,q6,q7,q8,q9,j1,j2,j3,S1,S2,S3,a9,h0,h1,h2,Ji,QG,QH,ws]
     exact⟨i+1,by omega,.i (hx.app _),rfl,by omega,hk.2 hm a9⟩
 ·have lx:i=l.length:=by omega
  subst lx
  simp -implicitDefEqProofs only[op,ef,cl,sq,reduceIte,q4,q5,q6,q7,q8,q9,j1,j2,j3,S1,h0,h1,h2,Ji,QG,QH,aw]
  exact⟨hx,true,rfl,⟨fun _=>⟨by omega,HY,by omega,qj⟩,fun _=>rfl⟩⟩
theorem u9 (l:List ByteArray):(l.map eS).map (·.map T.erase)=l.map eS:=by simp[List.map_map,Function.comp_def,eS,T.erase]
theorem qu (k:SK)(l:List ByteArray)(H:af)(hk:iD k l)(hl:l.length≤16777216):W env (.call 69 [.sl k (l.map eS)]) H (fun o H'=>Ext H H'∧∃k',iD k' l∧o=.val (.sl k' (l.map eS))):=by
 refine W.bU rfl rfl rfl ?_
 have app:l≠[]→∃k' H',gX H 16 .full [] (l.map eS)=some (.sl k' (l.map eS),H')∧Ext H H'∧k'≠.nil:=fun bK=>by
  obtain⟨k',H',ha,ob,dD⟩:=lJ (n0:=H.length) (H:=H) (bytes:=16) (k:=.full) [] (l.map eS) (.inr (.inl rfl)) (Nat.le_refl _) (by simpa using bK) (ug (by simp;omega) (by omega))
  rw[List.nil_append,u9]at ha
  refine⟨k',H',ha,dD.ext H (Nat.le_refl _) Ext.rfl',fun h=>?_⟩
  subst h
  unfold gX at ha
  cases hl:l.map eS with
  | nil=>simp at hl;exact bK hl
  | cons c cs=>rw[hl]at ha;simp only at ha;split at ha<;>simp at ha
 cases k with
 | nil =>
  have:=hk rfl;subst this
  simp -implicitDefEqProofs only[vq,op,ef,cl,sq,reduceIte,q4,q5,q6,q7,q8,q9,j1,j2,j3,S1,dn,kv]
  exact⟨Ext.rfl',.nil,fun _=>rfl,rfl⟩
 | arg =>
  cases l with
  | nil =>
   simp -implicitDefEqProofs only[vq,op,ef,cl,sq,reduceIte,q4,q5,q6,q7,q8,q9,j1,j2,j3,S1,dn,kv,Option.map_none]
   refine fun t=>?_
   cases t
   ·simp -implicitDefEqProofs only[op,ef,cl,sq,reduceIte,q4,q5,q6,q7,q8,q9,j1,j2,j3,S1,gX]
    exact⟨Ext.rfl',.full,fun h=>rfl,rfl⟩
   ·simp -implicitDefEqProofs only[op,ef,cl,sq,reduceIte,q4,q5,q6,q7,q8,q9,j1,j2,j3,S1]
    exact⟨Ext.rfl',.nil,fun _=>rfl,rfl⟩
  | cons a l =>
   obtain⟨k',H',ha,hx,kW⟩:=app (by simp)
   have h1:=all_map (enc:=eS) (n:=1) (fun _=>rfl) (a :: l)
   simp -implicitDefEqProofs only[List.map_cons]at ha h1
   simp -implicitDefEqProofs only[vq,op,ef,cl,sq,reduceIte,q4,q5,q6,q7,q8,q9,j1,j2,j3,S1,dn,kv,ha,h1]
   exact⟨hx,k',fun h=>absurd h kW,rfl⟩
 | full =>
  cases l with
  | nil =>
   simp -implicitDefEqProofs only[vq,op,ef,cl,sq,reduceIte,q4,q5,q6,q7,q8,q9,j1,j2,j3,S1,dn,kv,gX]
   exact⟨Ext.rfl',.full,fun h=>rfl,rfl⟩
  | cons a l =>
   obtain⟨k',H',ha,hx,kW⟩:=app (by simp)
   have h1:=all_map (enc:=eS) (n:=1) (fun _=>rfl) (a :: l)
   simp -implicitDefEqProofs only[List.map_cons]at ha h1
   simp -implicitDefEqProofs only[vq,op,ef,cl,sq,reduceIte,q4,q5,q6,q7,q8,q9,j1,j2,j3,S1,dn,kv,ha,h1]
   exact⟨hx,k',fun h=>absurd h kW,rfl⟩
 | own t e =>
  cases l with
  | nil =>
   simp -implicitDefEqProofs only[vq,op,ef,cl,sq,reduceIte,q4,q5,q6,q7,q8,q9,j1,j2,j3,S1,dn,kv,gX]
   exact⟨Ext.rfl',.full,fun h=>rfl,rfl⟩
  | cons a l =>
   obtain⟨k',H',ha,hx,kW⟩:=app (by simp)
   have h1:=all_map (enc:=eS) (n:=1) (fun _=>rfl) (a :: l)
   simp -implicitDefEqProofs only[List.map_cons]at ha h1
   simp -implicitDefEqProofs only[vq,op,ef,cl,sq,reduceIte,q4,q5,q6,q7,q8,q9,j1,j2,j3,S1,dn,kv,ha,h1]
   exact⟨hx,k',fun h=>absurd h kW,rfl⟩
def bm (F:Nat→Prop)(H H':af):Prop:=H.length≤H'.length∧∀c,c<H.length→¬F c→H'[c]?=H[c]?
theorem bm.refl (F:Nat→Prop)(H:af):bm F H H:=⟨Nat.le_refl _,fun _ _ _=>rfl⟩
theorem bm.trans {F G:Nat→Prop}{H H' wC:af}(h:bm F H H')(h':bm G H' wC)(hg:∀c,G c→F c∨H.length≤c):bm F H wC :=
 ⟨Nat.le_trans h.1 h'.1,fun c hc hf=>by rw[h'.2 c (Nat.lt_of_lt_of_le hc h.1) (fun hgc=>(hg c hgc).elim hf (fun h=>by omega)),h.2 c hc hf]⟩
theorem aB {F:Nat→Prop}{H H':af}(h:Ext H H'):bm F H H':=⟨h.len,fun c hc _=>by
 obtain⟨m,rfl⟩:=h;rw[List.getElem?_append_left hc]⟩
theorem bm.set {F:Nat→Prop}{H H':af}(h:bm F H H'){b:Nat}(hb:F b∨H.length≤b)(y:B):bm F H (H'.set b y) :=
 ⟨by rw[List.length_set];exact h.1,fun c hc hf=>by
  have:b≠c:=by rintro rfl;rcases hb with hb|hb;exact hf hb;omega
  rw[bj this,h.2 c hc hf]⟩
theorem bm.app {F:Nat→Prop}{H H':af}(h:bm F H H')(l:af):bm F H (H'++l):=⟨by rw[List.length_append];have:=h.1;omega,fun c hc hf=>by
 rw[List.getElem?_append_left (Nat.lt_of_lt_of_le hc h.1),h.2 c hc hf]⟩
theorem bm.get {F:Nat→Prop}{H H':af}(h:bm F H H'){c:Nat}{x:B}(hx:H[c]?=some x)(hf:¬F c):H'[c]?=some x:=by rw[h.2 c (aY hx) hf];exact hx
theorem bm.mono {F G:Nat→Prop}{H H':af}(h:bm F H H')(hg:∀c,F c→G c):bm G H H':=⟨h.1,fun c hc hf=>h.2 c hc fun hh=>hf (hg c hh)⟩
theorem po {α:Type}{enc:α→List T}(hn:∀x,(enc x).length=1){n0:Nat}{H:af}{t:T}{l:List α}(hm:pS enc 1 n0 H t l){i:Nat}{x:α}(hx:l[i]?=some x):∃b,H[b]?=some (.cells (aE enc l))∧dw 1 i t=some (.ptr b (i*1))∧ph 1 (i*1) (some (.cells (aE enc l)))=some (enc x):=by
 have hi:=(List.getElem?_eq_some_iff.1 hx).1
 rcases hm with⟨rfl,_⟩|⟨b,rfl,hb,_⟩
 ·simp at hi
 ·refine⟨b,hb,by rw[fL];simp[hi],?_⟩
  have:=gb hn hx 0 1 (by decide)
  simp -implicitDefEqProofs only[Nat.add_zero,List.drop_zero]at this
  rw[this,List.take_of_length_le (by rw[hn];omega)]
def xE (l:List Nat):Prop:=∀(i j a b:Nat),i<j→l[i]?=some a→l[j]?=some b→a<b
theorem ZJ (n0:Nat)(t:T)(l:List Nat)(x:Nat)(H:af)(hm:pS eU 1 n0 H t l)(hl:l.length<4611686018427387903)(hr:xE l) :
  W env (.call 103 [t,.int .u64 x]) H (fun o H'=>∃(i:Nat) (fd:Bool),o=.val (.bJ [.int .i64 i,.bool fd])∧H'=H∧i≤l.length∧(∀p a,p<i→l[p]?=some a→a<x)∧∀p a,i≤p→l[p]?=some a→x≤a):=by
 refine W.bU rfl rfl rfl ?_
 have hlen:=hm.len
 simp -implicitDefEqProofs only[FA,op,ef,cl,sq,reduceIte,q4,q5,q6,q7,q8,q9,j1,j2,j3,S1,hlen]
 refine W.cH (fun (s:Nat×Nat) R H'=>H'=H∧R 0=t∧R 1=.int .u64 x∧R 6=.int .i64 l.length∧R 7=.int .i64 s.1∧R 8=.int .i64 s.2∧s.1≤s.2∧s.2≤l.length∧(∀p a,p<s.1→l[p]?=some a→a<x)∧∀p a,s.2≤p→l[p]?=some a→x≤a)
  (fun s=>s.2-s.1) (0,l.length) ⟨rfl,rfl,rfl,rfl,rfl,rfl,Nat.zero_le _,Nat.le_refl _,fun p a h=>by omega,fun p a h ha=>by rw[List.getElem?_eq_none h]at ha;cases ha⟩ ?_
 rintro⟨i,j⟩ R _ ⟨rfl,h0,h1,h6,h7,h8,rC,yF,kx,zV⟩
 simp -implicitDefEqProofs only[op,ef,cl,sq,reduceIte,q4,q5,q6,q7,q8,q9,j1,j2,j3,S1,h0,h1,h6,h7,h8]
 by_cases aw:i<j
 ·obtain⟨y,hy⟩:=cw (l:=l) (i:=(i+j)/2) (by omega)
  obtain⟨b,g1,g2,g3⟩:=po (enc:=eU) (fun _=>rfl) hm hy
  simp -implicitDefEqProofs only[aw,op,ef,cl,sq,reduceIte,q4,q5,q6,q7,q8,q9,j1,j2,j3,S1,h0,h1,h6,h7,h8,half i j (by omega),aa,g1,g2,g3,eU]
  refine ae _ _ _ _ _ _ _ _ (OJ y x _) ?_
  rintro v H'⟨hv,rfl⟩
  cases hv
  simp -implicitDefEqProofs only[op,ef,cl,sq,reduceIte,q4,q5,q6,q7,q8,q9,j1,j2,j3,S1,h0,h1,h6,h7,h8]
  by_cases hc:y<x
  ·simp -implicitDefEqProofs only[op,ef,cl,sq,reduceIte,q4,q5,q6,q7,q8,q9,j1,j2,j3,S1,h0,h1,h6,h7,h8,hc,aC (show(i+j)/2<9223372036854775807 by omega)]
   refine⟨((i+j)/2+1,j),by omega,rfl,rfl,by omega,by omega,fun p a hp ha=>?_,zV⟩
   by_cases e:p=(i+j)/2
   ·subst e;rw[hy]at ha;cases ha;exact hc
   ·have:=hr p ((i+j)/2) a y (by omega) ha hy;omega
  ·simp -implicitDefEqProofs only[op,ef,cl,sq,reduceIte,q4,q5,q6,q7,q8,q9,j1,j2,j3,S1,h0,h1,h6,h7,h8,hc]
   refine⟨(i,(i+j)/2),by omega,rfl,rfl,by omega,by omega,kx,fun p a hp ha=>?_⟩
   by_cases e:p=(i+j)/2
   ·subst e;rw[hy]at ha;cases ha;omega
   ·have:=hr ((i+j)/2) p y a (by omega) hy ha;omega
 ·have OK:i=j:=by simp only at rC;omega
  subst OK
  by_cases iW:i<l.length
  ·obtain⟨y,hy⟩:=cw iW
   obtain⟨b,g1,g2,g3⟩:=po (enc:=eU) (fun _=>rfl) hm hy
   by_cases OL:y=x
   ·simp -implicitDefEqProofs only[op,ef,cl,sq,reduceIte,q4,q5,q6,q7,q8,q9,j1,j2,j3,S1,h0,h1,h6,h7,h8,aw,iW,aa,g1,g2,g3,eU,OL]
    exact⟨i,true,rfl,yF,kx,zV⟩
   ·simp -implicitDefEqProofs only[op,ef,cl,sq,reduceIte,q4,q5,q6,q7,q8,q9,j1,j2,j3,S1,h0,h1,h6,h7,h8,aw,iW,aa,g1,g2,g3,eU,OL]
    refine ae _ _ _ _ _ _ _ _ (Tt y _) ?_
    rintro v H'⟨hv,rfl⟩
    cases hv
    simp -implicitDefEqProofs only[op,ef,cl,sq,reduceIte,q4,q5,q6,q7,q8,q9,j1,j2,j3,S1]
    exact⟨i,false,rfl,yF,kx,zV⟩
  ·simp -implicitDefEqProofs only[op,ef,cl,sq,reduceIte,q4,q5,q6,q7,q8,q9,j1,j2,j3,S1,h0,h1,h6,h7,h8,aw,iW]
   exact⟨i,false,rfl,yF,kx,zV⟩
theorem Tx (y x:Nat)(c:Nat)(H:af)(hc:H[c]?=some (.cells (eU x))):W env (.call 106 [(.int .u64 y),.ptr c 0]) H (oL (.bool (decide (y=x))) H):=by
 refine W.bU rfl rfl rfl ?_
 simp -implicitDefEqProofs only[FC,op,ef,cl,sq,reduceIte,q4,q5,q6,q7,q8,q9,j1,j2,j3,S1,hc,eU]
theorem Ty (y x:ByteArray)(c:Nat)(H:af)(hc:H[c]?=some (.cells (eS x))):W env (.call 108 [(.str y),.ptr c 0]) H (oL (.bool (decide (y=x))) H):=by
 refine W.bU rfl rfl rfl ?_
 simp -implicitDefEqProofs only[FE,op,ef,cl,sq,reduceIte,q4,q5,q6,q7,q8,q9,j1,j2,j3,S1,hc,eS]
theorem Tz (n0:Nat)(t:T)(l:List Nat)(x:Nat)(c:Nat)(H:af)(hc:H[c]?=some (.cells (eU x)))(hm:pS eU 1 n0 H t l)(hl:l.length<4611686018427387903) :
  W env (.call 128 [t,.fn 106 [.ptr c 0]]) H (fun o H'=>H'=H∧((x∉l∧o=.val (.int .i64 (-1)))∨∃i:Nat,o=.val (.int .i64 i)∧l[i]?=some x∧∀p a,p<i→l[p]?=some a→a≠x)):=by
 refine W.bU rfl rfl rfl ?_
 have hlen:=hm.len
 simp -implicitDefEqProofs only[FM,op,ef,cl,sq,reduceIte,q4,q5,q6,q7,q8,q9,j1,j2,j3,S1,hlen]
 refine W.cH (fun (i:Nat) R H'=>H'=H∧R 0=t∧R 1=.fn 106 [.ptr c 0]∧R 7=.int .i64 l.length∧R 8=.int .i64 i∧i≤l.length∧∀p a,p<i→l[p]?=some a→a≠x) (fun i=>l.length-i) 0 ⟨rfl,rfl,rfl,rfl,rfl,Nat.zero_le _,fun p a h=>by omega⟩ ?_
 rintro i R _⟨rfl,h0,h1,h7,h8,hi,gI⟩
 by_cases aw:i<l.length
 ·obtain⟨y,hy⟩:=cw aw
  obtain⟨b,g1,g2,g3⟩:=po (enc:=eU) (fun _=>rfl) hm hy
  have ws:=aC (show i<9223372036854775807 by omega)
  simp -implicitDefEqProofs only[op,ef,cl,sq,reduceIte,q4,q5,q6,q7,q8,q9,j1,j2,j3,S1,h0,h1,h7,h8,aw,aa,g1,g2,g3,eU]
  refine Wc _ _ _ _ _ _ _ ?_
  simp -implicitDefEqProofs only[op,ef,cl,sq,reduceIte,q4,q5,q6,q7,q8,q9,j1,j2,j3,S1,h1,cz]
  refine ae _ _ _ _ _ _ _ _ (Tx y x c _ hc) ?_
  rintro v H'⟨hv,rfl⟩
  cases hv
  by_cases e:y=x
  ·simp -implicitDefEqProofs only[op,ef,cl,sq,reduceIte,q4,q5,q6,q7,q8,q9,j1,j2,j3,S1,e]
   exact .inr ⟨i,rfl,by rw[hy,e],gI⟩
  ·simp -implicitDefEqProofs only[op,ef,cl,sq,reduceIte,q4,q5,q6,q7,q8,q9,j1,j2,j3,S1,h0,h1,h7,h8,e,ws]
   refine⟨i+1,by omega,rfl,by omega,fun p a hp ha=>?_⟩
   by_cases e':p=i
   ·subst e';rw[hy]at ha;cases ha;exact e
   ·exact gI p a (by omega) ha
 ·simp -implicitDefEqProofs only[op,ef,cl,sq,reduceIte,q4,q5,q6,q7,q8,q9,j1,j2,j3,S1,h0,h1,h7,h8,aw]
  refine .inl fun hm=>?_
  obtain⟨p,hp,e⟩:=List.getElem_of_mem hm
  exact gI p x (by omega) (by rw[List.getElem?_eq_getElem hp,e]) rfl
theorem TA (n0:Nat)(t:T)(l:List ByteArray)(x:ByteArray)(c:Nat)(H:af)(hc:H[c]?=some (.cells (eS x)))(hm:pS eS 1 n0 H t l)(hl:l.length<4611686018427387903) :
  W env (.call 129 [t,.fn 108 [.ptr c 0]]) H (fun o H'=>H'=H∧((x∉l∧o=.val (.int .i64 (-1)))∨∃i:Nat,o=.val (.int .i64 i)∧l[i]?=some x∧∀p a,p<i→l[p]?=some a→a≠x)):=by
 refine W.bU rfl rfl rfl ?_
 have hlen:=hm.len
 simp -implicitDefEqProofs only[FN,op,ef,cl,sq,reduceIte,q4,q5,q6,q7,q8,q9,j1,j2,j3,S1,hlen]
 refine W.cH (fun (i:Nat) R H'=>H'=H∧R 0=t∧R 1=.fn 108 [.ptr c 0]∧R 7=.int .i64 l.length∧R 8=.int .i64 i∧i≤l.length∧∀p a,p<i→l[p]?=some a→a≠x) (fun i=>l.length-i) 0 ⟨rfl,rfl,rfl,rfl,rfl,Nat.zero_le _,fun p a h=>by omega⟩ ?_
 rintro i R _⟨rfl,h0,h1,h7,h8,hi,gI⟩
 by_cases aw:i<l.length
 ·obtain⟨y,hy⟩:=cw aw
  obtain⟨b,g1,g2,g3⟩:=po (enc:=eS) (fun _=>rfl) hm hy
  have ws:=aC (show i<9223372036854775807 by omega)
  simp -implicitDefEqProofs only[op,ef,cl,sq,reduceIte,q4,q5,q6,q7,q8,q9,j1,j2,j3,S1,h0,h1,h7,h8,aw,aa,g1,g2,g3,eS]
  refine Wc _ _ _ _ _ _ _ ?_
  simp -implicitDefEqProofs only[op,ef,cl,sq,reduceIte,q4,q5,q6,q7,q8,q9,j1,j2,j3,S1,h1,cz]
  refine ae _ _ _ _ _ _ _ _ (Ty y x c _ hc) ?_
  rintro v H'⟨hv,rfl⟩
  cases hv
  by_cases e:y=x
  ·simp -implicitDefEqProofs only[op,ef,cl,sq,reduceIte,q4,q5,q6,q7,q8,q9,j1,j2,j3,S1,e]
   exact .inr ⟨i,rfl,by rw[hy,e],gI⟩
  ·simp -implicitDefEqProofs only[op,ef,cl,sq,reduceIte,q4,q5,q6,q7,q8,q9,j1,j2,j3,S1,h0,h1,h7,h8,e,ws]
   refine⟨i+1,by omega,rfl,by omega,fun p a hp ha=>?_⟩
   by_cases e':p=i
   ·subst e';rw[hy]at ha;cases ha;exact e
   ·exact gI p a (by omega) ha
 ·simp -implicitDefEqProofs only[op,ef,cl,sq,reduceIte,q4,q5,q6,q7,q8,q9,j1,j2,j3,S1,h0,h1,h7,h8,aw]
  refine .inl fun hm=>?_
  obtain⟨p,hp,e⟩:=List.getElem_of_mem hm
  exact gI p x (by omega) (by rw[List.getElem?_eq_getElem hp,e]) rfl
def ey {α:Type}[DecidableEq α](l:List α)(x:α):List α:=l.filter fun y=>!decide (y=x)
structure Cut {α:Type}[DecidableEq α](l arr:List α)(x:α)(i j:Nat):Prop where
 len:arr.length=l.length
 ij:i<j
 dQ:arr.take i=ey (l.take j) x
 rest:∀p,j≤p→arr[p]?=l[p]?
theorem Cut.start {α:Type}[DecidableEq α]{l:List α}{x:α}{i:Nat}(hi:l[i]?=some x)(gI:∀p a,p<i→l[p]?=some a→a≠x):Cut l l x i (i+1):=by
 refine⟨rfl,by omega,?_,fun _ _=>rfl⟩
 rw[cE hi,ey,List.filter_append]
 have h1:(l.take i).filter (fun y=>!decide (y=x))=l.take i:=List.filter_eq_self.2 fun a ha=>by
  obtain⟨p,hp,e⟩:=List.getElem_of_mem ha
  have vX:p<i∧p<l.length:=by simp -implicitDefEqProofs only[List.length_take]at hp;omega
  have:=gI p a vX.1 (by rw[←e];simp[List.getElem?_eq_getElem vX.2])
  simp[this]
 rw[h1];simp
theorem Cut.same {α:Type}[DecidableEq α]{l arr:List α}{x:α}{i j:Nat}(h:Cut l arr x i j)(hx:l[j]?=some x):Cut l arr x i (j+1):=by
 refine⟨h.len,by have:=h.ij;omega,?_,fun p hp=>h.rest p (by omega)⟩
 rw[cE hx,ey,List.filter_append,h.dQ];simp[ey]
theorem Cut.move {α:Type}[DecidableEq α]{l arr:List α}{x y:α}{i j:Nat}(h:Cut l arr x i j)(hy:l[j]?=some y)(bK:y≠x):Cut l (arr.set i y) x (i+1) (j+1):=by
 have hj:=(List.getElem?_eq_some_iff.1 hy).1
 have hi:i<arr.length:=by have:=h.ij;rw[h.len];omega
 refine⟨by simp[h.len],by have:=h.ij;omega,?_,fun p hp=>by rw[List.getElem?_set_ne (by have:=h.ij;omega)];exact h.rest p (by omega)⟩
 have e1:(arr.set i y).take (i+1)=arr.take i++[y]:=by
  rw[cE (x:=y) (by rw[List.getElem?_set_self hi]),List.take_set_of_le (Nat.le_refl _)]
 rw[e1,h.dQ,cE hy]
 simp[ey,bK]
theorem Cut.Cd {α:Type}[DecidableEq α]{l arr:List α}{x:α}{i:Nat}(h:Cut l arr x i l.length):arr.take i=ey l x:=by
 rw[h.dQ,List.take_length]
def J6 {α:Type}[DecidableEq α](enc:α→List T)(b:Nat)(l:List α)(x:α)(H:af):Out→af→Prop:=fun o H'=>o=.val (.ax b 0 (ey l x).length 1)∧H'[b]?=some (.cells (aE enc (ey l x)))∧bm (fun c=>c=b) H H'
theorem AF {α:Type}[DecidableEq α]{l:List α}{x:α}(h:x∉l):ey l x=l:=List.filter_eq_self.2 fun a ha=>by
 have:a≠x:=by rintro rfl;exact h ha
 simp[this]
theorem TB (b:Nat)(l:List Nat)(x:Nat)(c:Nat)(H:af)(hc:H[c]?=some (.cells (eU x)))(hb:H[b]?=some (.cells (aE eU l)))(bK:c≠b)(hl:l.length<4611686018427387903) :
  W env (.call 105 [.ax b 0 l.length 1,.fn 106 [.ptr c 0]]) H (J6 eU b l x H):=by
 refine .shr (fun o H'=>∃n:Nat,o=.val (.ax b 0 (ey l x).length 1)∧∃cs,H'[b]?=some (.cells cs)∧cs.take n=aE eU (ey l x)∧bm (fun c=>c=b) H H') ?_ ?_
 rotate_left
 ·rintro o H'⟨n,ho,cs,h1,h2,h3⟩
  refine⟨_,b,cs,n,ho,rfl,h1,rfl,by rw[h2];exact bX (aY h1),h3.set (.inl rfl) _⟩
 refine W.bU rfl rfl rfl ?_
 simp -implicitDefEqProofs only[FB,op,ef,cl,sq,reduceIte,q4,q5,q6,q7,q8,q9,j1,j2,j3,S1]
 refine ae _ _ _ _ _ _ _ _ (Tz 0 _ l x c H hc (.inr ⟨b,rfl,hb,Nat.zero_le _⟩) hl) ?_
 rintro u H1⟨rfl,⟨gI,hu⟩|⟨i,hu,hi,OM⟩⟩
 ·cases hu
  have e:((-1:Int)==-1)=true:=rfl
  simp -implicitDefEqProofs only[op,ef,cl,sq,reduceIte,q4,q5,q6,q7,q8,q9,j1,j2,j3,S1]
  rw[AF gI]
  exact⟨l.length,rfl,_,hb,List.take_of_length_le (by rw[da (enc:=eU) (n:=1) (fun _=>rfl)];omega),bm.refl _ _⟩
 cases hu
 have lx:=(List.getElem?_eq_some_iff.1 hi).1
 have Ce:¬((i:Int)=-1):=by omega
 have ws:=aC (show i<9223372036854775807 by omega)
 have e1:((i:Int)==-1)=false:=by simpa using Ce
 simp -implicitDefEqProofs only[op,ef,cl,sq,reduceIte,q4,q5,q6,q7,q8,q9,j1,j2,j3,S1,e1,ws]
 refine W.cH (fun (s:Nat×Nat) R H'=>At H' (fun H'=>∃arr,H'[b]?=some (.cells (aE eU arr))∧Cut l arr x s.1 s.2∧bm (fun c=>c=b) H1 H')∧R 0=.ax b 0 l.length 1∧R 1=.fn 106 [.ptr c 0]∧R 5=.int .i64 s.1∧R 6=.int .i64 s.2∧s.2≤l.length) (fun s=>l.length-s.2) (i,i+1) ⟨.i ⟨l,hb,Cut.start hi OM,bm.refl _ _⟩,rfl,rfl,rfl,rfl,by simp only;omega⟩ ?_
 rintro⟨i,j⟩ R H2 ⟨⟨arr,kQ,lM,au⟩,h0,h1,h5,h6,hj⟩
 have rC:=lM.ij
 by_cases aw:j<l.length
 ·obtain⟨y,hy⟩:=cw aw
  have ZK:arr[j]?=some y:=by rw[lM.rest j (Nat.le_refl _)];exact hy
  have g1:dw 1 j (.ax b 0 l.length 1)=some (.ptr b (j*1)):=by rw[fL];simp[aw]
  have ni:i<l.length:=by simp only at rC;omega
  have g4:dw 1 i (.ax b 0 l.length 1)=some (.ptr b (i*1)):=by rw[fL];simp[ni]
  obtain⟨z,hz⟩:=cw (l:=arr) (i:=i) (by rw[lM.len];exact ni)
  have g2:=gb (enc:=eU) (n:=1) (fun _=>rfl) ZK 0 1 (by decide)
  have g3:=fun Hx=>ke (enc:=eU) (n:=1) (y:=y) (fun _=>rfl) hz Hx b (eU y) 0 (by simp[eU]) (by simp[eU])
  simp -implicitDefEqProofs only[Nat.add_zero,List.drop_zero,eU,List.take_succ_cons,List.take_zero]at g2 g3
  have oK:H2[c]?=some (.cells (eU x)):=au.get hc bK
  have ws:=aC (show j<9223372036854775807 by omega)
  have wi:=aC (show i<9223372036854775807 by omega)
  simp -implicitDefEqProofs only[op,ef,cl,sq,reduceIte,q4,q5,q6,q7,q8,q9,j1,j2,j3,S1,h0,h1,h5,h6,aw,aa,g1,kQ,g2,eU]
  refine Wc _ _ _ _ _ _ _ ?_
  simp -implicitDefEqProofs only[op,ef,cl,sq,reduceIte,q4,q5,q6,q7,q8,q9,j1,j2,j3,S1,h1,cz]
  refine ae _ _ _ _ _ _ _ _ (Tx y x c _ oK) ?_
  rintro v H3⟨hv,rfl⟩
  cases hv
  by_cases e:y=x
  ·simp -implicitDefEqProofs only[op,ef,cl,sq,reduceIte,q4,q5,q6,q7,q8,q9,j1,j2,j3,S1,h0,h1,h5,h6,e,ws]
   exact⟨(i,j+1),by simp only;omega,.i ⟨arr,kQ,lM.same (e▸hy),au⟩,rfl,rfl,by simp only;omega⟩
  ·simp -implicitDefEqProofs only[op,ef,cl,sq,reduceIte,q4,q5,q6,q7,q8,q9,j1,j2,j3,S1,h0,h1,h5,h6,e,aa,g4,kQ,g3,ws,wi]
   exact⟨(i+1,j+1),by simp only;omega,.i ⟨_,bX (aY kQ),lM.move hy e,au.set (.inl rfl) _⟩,rfl,rfl,by simp only;omega⟩
 ·have Qq:j=l.length:=by simp only at hj;omega
  subst Qq
  have ni:i<l.length:=by simpa using rC
  have hle:i≤l.length:=by omega
  have e2:¬(i=l.length):=by omega
  have lR:(aE eU arr).length=l.length:=by rw[da (enc:=eU) (n:=1) (fun _=>rfl),lM.len];omega
  have e3:i*1+(l.length-i)*1≤(aE eU arr).length:=by rw[lR];omega
  simp -implicitDefEqProofs only[op,ef,cl,sq,reduceIte,q4,q5,q6,q7,q8,q9,j1,j2,j3,S1,h0,h1,h5,h6,aw,aa,Nat.le_refl,hle,e2,and_self,nW,kQ,JS,e3]
  have hw:=lM.Cd
  have Cf:(ey l x).length=i:=by rw[←hw,List.length_take,lM.len];omega
  have Gn:∀m:List T,(((aE eU arr).take (i*1))++m).take (i*1)=aE eU (ey l x):=fun m=>by
   rw[List.take_append_of_le_length (by rw[List.length_take,lR];omega),List.take_take,Nat.min_self,←hw,jG (n:=1) (fun _=>rfl)]
  by_cases oM:i=0
  ·subst oM
   simp -implicitDefEqProofs only[op,ef,cl,sq,reduceIte,q4,q5,q6,q7,q8,q9,j1,j2,j3,S1,h0,h5,aa,hle,Nat.zero_le,Nat.le_refl,and_self]
   refine⟨0*1,by rw[Cf],_,bX (aY kQ),?_,au.set (.inl rfl) _⟩
   rw[List.append_assoc];exact Gn _
  ·have ZL:¬(0=i):=fun e=>oM e.symm
   simp -implicitDefEqProofs only[op,ef,cl,sq,reduceIte,q4,q5,q6,q7,q8,q9,j1,j2,j3,S1,h0,h5,aa,ZL,hle,Nat.zero_le,Nat.le_refl,and_self]
   refine⟨i*1,by rw[Cf];simp,_,bX (aY kQ),?_,au.set (.inl rfl) _⟩
   rw[List.append_assoc];exact Gn _
theorem TC (b:Nat)(l:List ByteArray)(x:ByteArray)(c:Nat)(H:af)(hc:H[c]?=some (.cells (eS x)))(hb:H[b]?=some (.cells (aE eS l)))(bK:c≠b)(hl:l.length<4611686018427387903) :
  W env (.call 107 [.ax b 0 l.length 1,.fn 108 [.ptr c 0]]) H (J6 eS b l x H):=by
 refine .shr (fun o H'=>∃n:Nat,o=.val (.ax b 0 (ey l x).length 1)∧∃cs,H'[b]?=some (.cells cs)∧cs.take n=aE eS (ey l x)∧bm (fun c=>c=b) H H') ?_ ?_
 rotate_left
 ·rintro o H'⟨n,ho,cs,h1,h2,h3⟩
  refine⟨_,b,cs,n,ho,rfl,h1,rfl,by rw[h2];exact bX (aY h1),h3.set (.inl rfl) _⟩
 refine W.bU rfl rfl rfl ?_
 simp -implicitDefEqProofs only[FD,op,ef,cl,sq,reduceIte,q4,q5,q6,q7,q8,q9,j1,j2,j3,S1]
 refine ae _ _ _ _ _ _ _ _ (TA 0 _ l x c H hc (.inr ⟨b,rfl,hb,Nat.zero_le _⟩) hl) ?_
 rintro u H1⟨rfl,⟨gI,hu⟩|⟨i,hu,hi,OM⟩⟩
 ·cases hu
  have e:((-1:Int)==-1)=true:=rfl
  simp -implicitDefEqProofs only[op,ef,cl,sq,reduceIte,q4,q5,q6,q7,q8,q9,j1,j2,j3,S1]
  rw[AF gI]
  exact⟨l.length,rfl,_,hb,List.take_of_length_le (by rw[da (enc:=eS) (n:=1) (fun _=>rfl)];omega),bm.refl _ _⟩
 cases hu
 have lx:=(List.getElem?_eq_some_iff.1 hi).1
 have Ce:¬((i:Int)=-1):=by omega
 have ws:=aC (show i<9223372036854775807 by omega)
 have e1:((i:Int)==-1)=false:=by simpa using Ce
 simp -implicitDefEqProofs only[op,ef,cl,sq,reduceIte,q4,q5,q6,q7,q8,q9,j1,j2,j3,S1,e1,ws]
 refine W.cH (fun (s:Nat×Nat) R H'=>At H' (fun H'=>∃arr,H'[b]?=some (.cells (aE eS arr))∧Cut l arr x s.1 s.2∧bm (fun c=>c=b) H1 H')∧R 0=.ax b 0 l.length 1∧R 1=.fn 108 [.ptr c 0]∧R 5=.int .i64 s.1∧R 6=.int .i64 s.2∧s.2≤l.length) (fun s=>l.length-s.2) (i,i+1) ⟨.i ⟨l,hb,Cut.start hi OM,bm.refl _ _⟩,rfl,rfl,rfl,rfl,by simp only;omega⟩ ?_
 rintro⟨i,j⟩ R H2 ⟨⟨arr,kQ,lM,au⟩,h0,h1,h5,h6,hj⟩
 have rC:=lM.ij
 by_cases aw:j<l.length
 ·obtain⟨y,hy⟩:=cw aw
  have ZK:arr[j]?=some y:=by rw[lM.rest j (Nat.le_refl _)];exact hy
  have g1:dw 1 j (.ax b 0 l.length 1)=some (.ptr b (j*1)):=by rw[fL];simp[aw]
  have ni:i<l.length:=by simp only at rC;omega
  have g4:dw 1 i (.ax b 0 l.length 1)=some (.ptr b (i*1)):=by rw[fL];simp[ni]
  obtain⟨z,hz⟩:=cw (l:=arr) (i:=i) (by rw[lM.len];exact ni)
  have g2:=gb (enc:=eS) (n:=1) (fun _=>rfl) ZK 0 1 (by decide)
  have g3:=fun Hx=>ke (enc:=eS) (n:=1) (y:=y) (fun _=>rfl) hz Hx b (eS y) 0 (by simp[eS]) (by simp[eS])
  simp -implicitDefEqProofs only[Nat.add_zero,List.drop_zero,eS,List.take_succ_cons,List.take_zero]at g2 g3
  have oK:H2[c]?=some (.cells (eS x)):=au.get hc bK
  have ws:=aC (show j<9223372036854775807 by omega)
  have wi:=aC (show i<9223372036854775807 by omega)
  simp -implicitDefEqProofs only[op,ef,cl,sq,reduceIte,q4,q5,q6,q7,q8,q9,j1,j2,j3,S1,h0,h1,h5,h6,aw,aa,g1,kQ,g2,eS]
  refine Wc _ _ _ _ _ _ _ ?_
  simp -implicitDefEqProofs only[op,ef,cl,sq,reduceIte,q4,q5,q6,q7,q8,q9,j1,j2,j3,S1,h1,cz]
  refine ae _ _ _ _ _ _ _ _ (Ty y x c _ oK) ?_
  rintro v H3⟨hv,rfl⟩
  cases hv
  by_cases e:y=x
  ·simp -implicitDefEqProofs only[op,ef,cl,sq,reduceIte,q4,q5,q6,q7,q8,q9,j1,j2,j3,S1,h0,h1,h5,h6,e,ws]
   exact⟨(i,j+1),by simp only;omega,.i ⟨arr,kQ,lM.same (e▸hy),au⟩,rfl,rfl,by simp only;omega⟩
  ·simp -implicitDefEqProofs only[op,ef,cl,sq,reduceIte,q4,q5,q6,q7,q8,q9,j1,j2,j3,S1,h0,h1,h5,h6,e,aa,g4,kQ,g3,ws,wi]
   exact⟨(i+1,j+1),by simp only;omega,.i ⟨_,bX (aY kQ),lM.move hy e,au.set (.inl rfl) _⟩,rfl,rfl,by simp only;omega⟩
 ·have Qq:j=l.length:=by simp only at hj;omega
  subst Qq
  have ni:i<l.length:=by simpa using rC
  have hle:i≤l.length:=by omega
  have e2:¬(i=l.length):=by omega
  have lR:(aE eS arr).length=l.length:=by rw[da (enc:=eS) (n:=1) (fun _=>rfl),lM.len];omega
  have e3:i*1+(l.length-i)*1≤(aE eS arr).length:=by rw[lR];omega
  simp -implicitDefEqProofs only[op,ef,cl,sq,reduceIte,q4,q5,q6,q7,q8,q9,j1,j2,j3,S1,h0,h1,h5,h6,aw,aa,Nat.le_refl,hle,e2,and_self,nW,kQ,JS,e3]
  have hw:=lM.Cd
  have Cf:(ey l x).length=i:=by rw[←hw,List.length_take,lM.len];omega
  have Gn:∀m:List T,(((aE eS arr).take (i*1))++m).take (i*1)=aE eS (ey l x):=fun m=>by
   rw[List.take_append_of_le_length (by rw[List.length_take,lR];omega),List.take_take,Nat.min_self,←hw,jG (n:=1) (fun _=>rfl)]
  by_cases oM:i=0
  ·subst oM
   simp -implicitDefEqProofs only[op,ef,cl,sq,reduceIte,q4,q5,q6,q7,q8,q9,j1,j2,j3,S1,h0,h5,aa,hle,Nat.zero_le,Nat.le_refl,and_self]
   refine⟨0*1,by rw[Cf],_,bX (aY kQ),?_,au.set (.inl rfl) _⟩
   rw[List.append_assoc];exact Gn _
  ·have ZL:¬(0=i):=fun e=>oM e.symm
   simp -implicitDefEqProofs only[op,ef,cl,sq,reduceIte,q4,q5,q6,q7,q8,q9,j1,j2,j3,S1,h0,h5,aa,ZL,hle,Nat.zero_le,Nat.le_refl,and_self]
   refine⟨i*1,by rw[Cf];simp,_,bX (aY kQ),?_,au.set (.inl rfl) _⟩
   rw[List.append_assoc];exact Gn _
theorem ZM (b:Nat)(l:List Nat)(x:Nat)(H:af)(hb:H[b]?=some (.cells (aE eU l)))(hl:l.length<4611686018427387903):W env (.call 70 [.ax b 0 l.length 1,(.int .u64 x)]) H (J6 eU b l x H):=by
 refine W.bU rfl rfl rfl ?_
 have J7:=aY hb
 simp -implicitDefEqProofs only[Ox,op,ef,cl,sq,reduceIte,q4,q5,q6,q7,q8,q9,j1,j2,j3,S1]
 refine ae _ _ _ _ _ _ _ _ (TB b l x H.length _ (by rw[aO rfl];rfl) (by rw[aQ J7];exact hb) (by omega) hl) ?_
 rintro u H1⟨hu,h1,h2⟩
 cases hu
 simp -implicitDefEqProofs only[op,ef,cl,sq,reduceIte,q4,q5,q6,q7,q8,q9,j1,j2,j3,S1]
 exact⟨rfl,h1,(aB (Ext.rfl'.app _)).trans h2 fun c h=>.inl h⟩
theorem ZN (b:Nat)(l:List ByteArray)(x:ByteArray)(H:af)(hb:H[b]?=some (.cells (aE eS l)))(hl:l.length<4611686018427387903):W env (.call 71 [.ax b 0 l.length 1,(.str x)]) H (J6 eS b l x H):=by
 refine W.bU rfl rfl rfl ?_
 have J7:=aY hb
 simp -implicitDefEqProofs only[Oy,op,ef,cl,sq,reduceIte,q4,q5,q6,q7,q8,q9,j1,j2,j3,S1]
 refine ae _ _ _ _ _ _ _ _ (TC b l x H.length _ (by rw[aO rfl];rfl) (by rw[aQ J7];exact hb) (by omega) hl) ?_
 rintro u H1⟨hu,h1,h2⟩
 cases hu
 simp -implicitDefEqProofs only[op,ef,cl,sq,reduceIte,q4,q5,q6,q7,q8,q9,j1,j2,j3,S1]
 exact⟨rfl,h1,(aB (Ext.rfl'.app _)).trans h2 fun c h=>.inl h⟩
theorem TD (t:T)(l:List Nat)(i x bv:Nat)(H:af)(hm:pS eU 1 0 H t l)(hv:H[bv]?=some (.cells (eU x)))(bK:∀off len n,t≠.ax bv off len n)(hi:i≤l.length)(hl:l.length≤16777215) :
  W env (.call 104 [t,.int .i64 i,.ax bv 0 1 1]) H (NP eU 1 0 H t (l.take i++x :: l.drop i)):=by
 rcases hm with⟨rfl,rfl⟩|⟨b,rfl,hb,HW⟩
 ·have oM:i=0:=by simpa using hi
  subst oM
  exact JU (f:=104) (bytes:=8) (fr:=127) (enc:=eU) (fun _=>rfl) (by decide) 0 rfl 0 bv x H (Nat.zero_le _) hv (ug (by omega) (by omega))
 ·exact JV (f:=104) (bytes:=8) (fr:=127) (enc:=eU) (fun _=>rfl) (by decide) 0 rfl 0 bv b i x l H (Nat.zero_le _) hv hb HW (fun h=>bK 0 l.length 1 (by rw[h])) hi (by omega) (ug (by omega) (by omega))
section
variable {α β γ:Type} [DecidableEq α]
theorem fV (f:β→γ)(es:List (α×β))(k:α):ai (es.map fun e=>(e.1,f e.2)) k=(ai es k).map f:=by
 induction es with
 | nil=>rfl
 | cons e es ih=>simp -implicitDefEqProofs only[List.map_cons,bM,ih];split<;>rfl
theorem oc (f:β→γ)(es:List (α×β))(k:α)(v:β):cu (es.map fun e=>(e.1,f e.2)) k (f v)=(cu es k v).map fun e=>(e.1,f e.2):=by
 induction es with
 | nil=>rfl
 | cons e es ih=>simp -implicitDefEqProofs only[List.map_cons,pn,ih];split<;>simp
theorem Cg {es:List (α×β)}{k:α}{v:β}(h:ai es k=some v):(k,v)∈es:=by
 induction es with
 | nil=>cases h
 | cons e es ih =>
  rw[bM]at h
  split at h
  ·rename_i hk;cases h;subst hk;exact List.mem_cons_self
  ·exact List.mem_cons_of_mem _ (ih h)
theorem cA {es:List (α×β)}{k:α}:ai es k=none↔k∉es.map (·.1):=by
 induction es with
 | nil=>simp[dN]
 | cons e es ih =>
  rw[bM]
  by_cases hk:k=e.1
  ·simp[hk]
  ·simp -implicitDefEqProofs only[hk,if_false,ih,List.map_cons,List.mem_cons,false_or]
theorem Ch (es:List (α×β))(k:α)(v:β):(cu es k v).map (·.1)=if k∈es.map (·.1)then es.map (·.1)else es.map (·.1)++[k]:=by
 induction es with
 | nil=>rfl
 | cons e es ih =>
  rw[pn]
  by_cases hk:k=e.1
  ·simp[hk]
  ·simp -implicitDefEqProofs only[hk,if_false,List.map_cons,ih,List.mem_cons,false_or]
   split<;>simp
theorem db {es:List (α×β)}(h:(es.map (·.1)).Nodup)(k:α)(v:β):((cu es k v).map (·.1)).Nodup:=by
 rw[Ch];split
 ·exact h
 ·rename_i hk;rw[List.nodup_append];exact⟨h,by simp,fun a ha b hb=>by simp at hb;subst hb;rintro rfl;exact hk ha⟩
theorem uh (e:α×T)(es:List (α×T))(k:α):qc (e :: es) k=if k=e.1 then es else e :: qc es k:=by
 unfold qc
 rw[List.findIdx?_cons]
 by_cases hk:k=e.1
 ·simp[hk]
 ·simp -implicitDefEqProofs only[hk,decide_false,if_false,Bool.false_eq_true]
  cases List.findIdx? (fun e=>decide (k=e.1)) es<;>simp
theorem ma {es:List (α×T)}(h:(es.map (·.1)).Nodup)(k k':α):ai (qc es k) k'=if k'=k then none else ai es k':=by
 induction es with
 | nil=>simp[qc,dN]
 | cons e es ih =>
  rw[List.map_cons,List.nodup_cons]at h
  rw[uh]
  by_cases hk:k=e.1
  ·subst hk
   by_cases kW:k'=e.1
   ·subst kW;simp -implicitDefEqProofs only[if_true];exact cA.2 h.1
   ·simp[bM,kW]
  ·simp -implicitDefEqProofs only[hk,if_false,bM,ih h.2]
   by_cases kW:k'=e.1
   ·subst kW;simp[Ne.symm hk]
   ·simp[kW]
theorem yW {es:List (α×T)}(h:(es.map (·.1)).Nodup)(k:α):((qc es k).map (·.1)).Nodup:=by
 induction es with
 | nil=>simp[qc]
 | cons e es ih =>
  rw[List.map_cons,List.nodup_cons]at h
  rw[uh];split
  ·exact h.2
  ·rw[List.map_cons,List.nodup_cons]
   refine⟨fun hm=>h.1 ?_,ih h.2⟩
   have:ai (qc es k) e.1≠none:=fun hn=>cA.1 hn hm
   rw[ma h.2]at this
   split at this
   ·exact absurd rfl this
   ·exact Classical.byContradiction fun hh=>this (cA.2 hh)
end
structure Hd where
 value:ByteArray
 kk:SK
 keys:List ByteArray
 bg:Int
def fo (h:Hd):T:=.agg [.str h.value,.sl h.kk (h.keys.map eS),.int .i64 h.bg]
def dZ (vs:List (Nm×Hd)):List (Nm×T):=vs.map fun e=>(e.1,fo e.2)
def kF (ls:List (ByteArray×Nat)):List (ByteArray×T):=ls.map fun e=>(e.1,T.int .u64 e.2)
structure dy where
 vs:List (Nm×Hd)
 ls:List (ByteArray×Nat)
 ids:ByteArray→List Nat
 dh:Nat→List ByteArray
 n:Nat
structure gv (s:dy):Prop where
 xF:∀k,xE (s.ids k)
 HZ:∀k n,n∈s.ids k↔(ai s.vs (k,n)).isSome=true
 ON:∀n,(s.dh n).Nodup
 J8:∀n k,k∈s.dh n↔(ai s.vs (k,n)).isSome=true
 nd:(s.vs.map (·.1)).Nodup
 TE:∀m h,ai s.vs m=some h→iD h.kk h.keys∧h.keys.length≤1024
 bi:∀k,(s.ids k).length≤s.n
 bp:∀n,(s.dh n).length≤s.n
 yX:(s.ls.map (·.1)).Nodup
def Ia {α:Type}(enc:α→List T)(F:Nat→Prop)(H:af)(o:Option T)(l:List α):Prop:=match o with
 | .none=>l=[]
 | some t=>∃b,t=.ax b 0 l.length 1∧H[b]?=some (.cells (aE enc l))∧F b
def eg:Option T→Option Nat
 | some (.ax b _ _ _)=>some b
 | _=>.none
theorem Ia.mut {α:Type}{enc:α→List T}{F:Nat→Prop}{H:af}{o:Option T}{l:List α}(h:Ia enc F H o l):pS enc 1 0 H (jo o (.sl .nil []) false) l:=by
 cases o with
 | none=>have h:l=[]:=h;exact .inl ⟨h,rfl⟩
 | some t=>obtain⟨b,rfl,h1,_⟩:=h;exact .inr ⟨b,rfl,h1,Nat.zero_le _⟩
theorem Ia.dQ {α:Type}{enc:α→List T}{F F':Nat→Prop}{H H':af}{o:Option T}{l:List α}(h:Ia enc F H o l)(hk:∀b x,eg o=some b→H[b]?=some x→H'[b]?=some x)(hF:∀b,eg o=some b→F b→F' b):Ia enc F' H' o l:=by
 cases o with
 | none=>exact h
 | some t=>obtain⟨b,rfl,h1,h2⟩:=h;exact⟨b,rfl,hk b _ rfl h1,hF b rfl h2⟩
theorem Ia.cells {α:Type}{enc:α→List T}{F:Nat→Prop}{H:af}{o:Option T}{l:List α}(h:Ia enc F H o l){b:Nat}(hb:eg o=some b):H[b]?=some (.cells (aE enc l))∧F b:=by
 cases o with
 | none=>cases hb
 | some t=>obtain⟨b',rfl,h1,h2⟩:=h;cases hb;exact⟨h1,h2⟩
structure Bk where
 s:Nat
 v:Nat
 i:Nat
 p:Nat
 l:Nat
structure ui (H:af)(b:Bk)(im:List (ByteArray×T))(pm:List (Nat×T))(s:dy)(F:Nat→Prop):Prop where
 hs:H[b.s]?=some (.cells [.map b.v,.map b.i,.map b.p,.map b.l])
 hv:H[b.v]?=some (.map (bh kN (dZ s.vs)))
 hi:H[b.i]?=some (.map (bh T.str im))
 hp:H[b.p]?=some (.map (bh kU pm))
 hl:H[b.l]?=some (.map (bh T.str (kF s.ls)))
 vi:b.v≠b.i
 vp:b.v≠b.p
 vl:b.v≠b.l
 ip:b.i≠b.p
 il:b.i≠b.l
 pl:b.p≠b.l
 F0:F b.s∧F b.v∧F b.i∧F b.p∧F b.l
 oi:∀k,Ia eU F H (ai im k) (s.ids k)
 op:∀n,Ia eS F H (ai pm n) (s.dh n)
 si:∀k k' c,eg (ai im k)=some c→eg (ai im k')=some c→k=k'
 sp:∀n n' c,eg (ai pm n)=some c→eg (ai pm n')=some c→n=n'
 sx:∀k n c,eg (ai im k)=some c→eg (ai pm n)=some c→False
 np:(pm.map (·.1)).Nodup
def SH (H:af)(b:Bk)(s:dy)(F:Nat→Prop):Prop:=∃im pm,ui H b im pm s F
theorem e9 {H:af}{b c:Nat}{es:List (T×T)}{cs:List T}(h:H[b]?=some (.map es))(h':H[c]?=some (.cells cs)):b≠c:=by rintro rfl;rw[h]at h';cases h'
theorem ui.ne {H:af}{b:Bk}{im:List (ByteArray×T)}{pm:List (Nat×T)}{s:dy}{F:Nat→Prop}(h:ui H b im pm s F):b.v≠b.s∧b.i≠b.s∧b.p≠b.s∧b.l≠b.s:=⟨e9 h.hv h.hs,e9 h.hi h.hs,e9 h.hp h.hs,e9 h.hl h.hs⟩
theorem AG {α:Type}{enc:α→List T}(hn:∀x,∃t,enc x=[t]∧∀b,t≠.map b){l:List α}{a b c d:Nat}:aE enc l≠[.map a,.map b,.map c,.map d]:=by
 intro h
 cases l with
 | nil=>simp[aE]at h
 | cons x l =>
  obtain⟨t,ht,hm⟩:=hn x
  simp -implicitDefEqProofs only[aE,List.flatMap_cons,ht,List.cons_append,List.nil_append,List.cons.injEq]at h
  exact hm _ h.1
theorem ui.jq {H:af}{b:Bk}{im:List (ByteArray×T)}{pm:List (Nat×T)}{s:dy}{F:Nat→Prop}(h:ui H b im pm s F){k:ByteArray}{c:Nat}(hc:eg (ai im k)=some c):c≠b.s∧c≠b.v∧c≠b.i∧c≠b.p∧c≠b.l∧F c∧c<H.length:=by
 obtain⟨h1,h2⟩:=(h.oi k).cells hc
 refine⟨?_,Ne.symm (e9 h.hv h1),Ne.symm (e9 h.hi h1),Ne.symm (e9 h.hp h1),Ne.symm (e9 h.hl h1),h2,aY h1⟩
 rintro rfl
 rw[h.hs]at h1
 exact AG (enc:=eU) (fun x=>⟨_,rfl,fun _ h=>by cases h⟩) (B.cells.inj (Option.some.inj h1)).symm
theorem ui.kG {H:af}{b:Bk}{im:List (ByteArray×T)}{pm:List (Nat×T)}{s:dy}{F:Nat→Prop}(h:ui H b im pm s F){n:Nat}{c:Nat}(hc:eg (ai pm n)=some c):c≠b.s∧c≠b.v∧c≠b.i∧c≠b.p∧c≠b.l∧F c∧c<H.length:=by
 obtain⟨h1,h2⟩:=(h.op n).cells hc
 refine⟨?_,Ne.symm (e9 h.hv h1),Ne.symm (e9 h.hi h1),Ne.symm (e9 h.hp h1),Ne.symm (e9 h.hl h1),h2,aY h1⟩
 rintro rfl
 rw[h.hs]at h1
 exact AG (enc:=eS) (fun x=>⟨_,rfl,fun _ h=>by cases h⟩) (B.cells.inj (Option.some.inj h1)).symm
theorem ui.jv {H H':af}{b:Bk}{im:List (ByteArray×T)}{pm:List (Nat×T)}{s:dy}{F G:Nat→Prop}(h:ui H b im pm s F)(hf:bm G H H')(hg:∀c,F c→c<H.length→¬G c):ui H' b im pm s F:=by
 obtain⟨f0,f1,f2,f3,f4⟩:=h.F0
 have k:∀{c x},F c→H[c]?=some x→H'[c]?=some x:=fun hF hx=>hf.get hx (hg _ hF (aY hx))
 exact⟨k f0 h.hs,k f1 h.hv,k f2 h.hi,k f3 h.hp,k f4 h.hl,h.vi,h.vp,h.vl,h.ip,h.il,h.pl,h.F0,
  fun q=>(h.oi q).dQ (fun c x hc hx=>k (h.jq hc).2.2.2.2.2.1 hx) (fun _ _ h=>h),fun q=>(h.op q).dQ (fun c x hc hx=>k (h.kG hc).2.2.2.2.2.1 hx) (fun _ _ h=>h),h.si,h.sp,h.sx,h.np⟩
theorem vw {l:List Nat}:xE l↔l.Pairwise (· < ·):=by
 rw[List.pairwise_iff_getElem]
 constructor
 ·intro h i j hi hj rC
  exact h i j _ _ rC (List.getElem?_eq_getElem hi) (List.getElem?_eq_getElem hj)
 ·intro h i j a b rC ha hb
  obtain⟨hi,e1⟩:=List.getElem?_eq_some_iff.1 ha
  obtain⟨hj,e2⟩:=List.getElem?_eq_some_iff.1 hb
  have:=h i j hi hj rC
  rw[e1,e2]at this;exact this
theorem Gp {l:List Nat}{i x:Nat}(h:xE l)(hx:x∉l)(h1:∀p a,p<i→l[p]?=some a→a<x)(h2:∀p a,i≤p→l[p]?=some a→x≤a):xE (l.take i++x :: l.drop i):=by
 rw[vw]at h ⊢
 have m1:∀a∈l.take i,a<x:=fun a ha=>by
  obtain⟨p,hp,e⟩:=List.getElem_of_mem ha
  have vX:p<i∧p<l.length:=by simp -implicitDefEqProofs only[List.length_take]at hp;omega
  exact h1 p a vX.1 (by rw[←e];simp[List.getElem?_eq_getElem vX.2])
 have m2:∀a∈l.drop i,x<a:=fun a ha=>by
  obtain⟨p,hp,e⟩:=List.getElem_of_mem ha
  have vX:i+p<l.length:=by simp -implicitDefEqProofs only[List.length_drop]at hp;omega
  have h3:=h2 (i+p) a (by omega) (by rw[←e];simp[List.getElem?_eq_getElem vX])
  have:a≠x:=by rintro rfl;exact hx (List.mem_of_mem_drop ha)
  omega
 rw[List.pairwise_append]
 refine⟨h.sublist (List.take_sublist _ _),?_,fun a ha b hb=>?_⟩
 ·rw[List.pairwise_cons]
  exact⟨m2,h.sublist (List.drop_sublist _ _)⟩
 ·have:=m1 a ha
  rcases List.mem_cons.1 hb with rfl|hb
  ·exact this
  ·have:=m2 b hb;omega
theorem J9 {l:List Nat}{i x a:Nat}:a∈l.take i++x :: l.drop i↔a=x∨a∈l:=by
 conv=>rhs;rw[←List.take_append_drop i l]
 simp -implicitDefEqProofs only[List.mem_append,List.mem_cons]
 constructor
 ·rintro (h|h|h)
  ·exact .inr (.inl h)
  ·exact .inl h
  ·exact .inr (.inr h)
 ·rintro (h|h|h)
  ·exact .inr (.inl h)
  ·exact .inl h
  ·exact .inr (.inr h)
theorem qv {o:Option T}{c off len m:Nat}(h:jo o (.sl .nil []) false=.ax c off len m):eg o=some c:=by
 cases o with
 | none=>cases h
 | some t=>have h:t=_:=h;subst h;rfl
def dy.put (s:dy)(k:ByteArray)(n:Nat)(h:Hd)(l:List Nat):dy:=⟨cu s.vs (k,n) h,s.ls,fun k'=>if k'=k then l else s.ids k',fun n'=>if n'=n then s.dh n++[k]else s.dh n',s.n+1⟩
theorem gv.put {s:dy}(hi:gv s){k:ByteArray}{n:Nat}{h:Hd}(gI:ai s.vs (k,n)=none)(hk:iD h.kk h.keys∧h.keys.length≤1024){i:Nat}(h1:∀p a,p<i→(s.ids k)[p]?=some a→a<n)(h2:∀p a,i≤p→(s.ids k)[p]?=some a→n≤a):gv (s.put k n h ((s.ids k).take i++n :: (s.ids k).drop i)):=by
 have hx:n∉s.ids k:=fun hm=>by rw[hi.HZ,gI]at hm;cases hm
 have hp:k∉s.dh n:=fun hm=>by rw[hi.J8,gI]at hm;cases hm
 refine⟨fun k'=>?_,fun k' n'=>?_,fun n'=>?_,fun n' k'=>?_,db hi.nd _ _,fun m h' hm=>?_,fun k'=>?_,fun n'=>?_,hi.yX⟩
 ·simp -implicitDefEqProofs only[dy.put];split
  ·exact Gp (hi.xF k) hx h1 h2
  ·exact hi.xF k'
 ·simp -implicitDefEqProofs only[dy.put,br]
  by_cases e:k'=k
  ·subst e
   simp -implicitDefEqProofs only[if_true,J9,hi.HZ,Prod.mk.injEq,true_and]
   by_cases e2:n'=n<;>simp[e2]
  ·simp[e,hi.HZ]
 ·simp -implicitDefEqProofs only[dy.put];split
  ·rw[List.nodup_append];exact⟨hi.ON n,by simp,fun a ha c hc=>by simp at hc;subst hc;rintro rfl;exact hp ha⟩
  ·exact hi.ON n'
 ·simp -implicitDefEqProofs only[dy.put,br]
  by_cases e:n'=n
  ·subst e
   simp -implicitDefEqProofs only[if_true,List.mem_append,List.mem_singleton,hi.J8,Prod.mk.injEq,and_true]
   by_cases e2:k'=k<;>simp[e2]
  ·simp[e,hi.J8]
 ·simp -implicitDefEqProofs only[dy.put,br]at hm
  split at hm
  ·cases hm;exact hk
  ·exact hi.TE m h' hm
 ·have:=hi.bi k'
  simp -implicitDefEqProofs only[dy.put];split
  ·rename_i e;subst e;simp -implicitDefEqProofs only[List.length_append,List.length_take,List.length_cons,List.length_drop];omega
  ·omega
 ·have:=hi.bp n'
  simp -implicitDefEqProofs only[dy.put];split
  ·rename_i e;subst e;simp -implicitDefEqProofs only[List.length_append,List.length_singleton];omega
  ·omega
theorem Me (b:Bk)(s:dy)(F:Nat→Prop)(k:ByteArray)(n:Nat)(h:Hd)(H:af)(hs:SH H b s F)(hi:gv s)(gI:ai s.vs (k,n)=none)(hn:s.n≤8000000)(hk:iD h.kk h.keys∧h.keys.length≤1024) :
  W env (.call 68 [.ptr b.s 0,kN (k,n),fo h]) H (fun o H'=>o=.val (.bJ [])∧∃s' F',SH H' b s' F'∧gv s'∧s'.vs=cu s.vs (k,n) h∧s'.ls=s.ls∧s'.n=s.n+1∧bm F H H'∧∀c,F' c→F c∨(H.length≤c∧c<H'.length)):=by
 obtain⟨im,pm,sa⟩:=hs
 obtain⟨sv,si,sp,sl⟩:=sa.ne
 have l0:=aY sa.hs
 have lv:=aY sa.hv
 have li:=aY sa.hi
 have lp:=aY sa.hp
 have ll:=aY sa.hl
 obtain⟨t,ht⟩:∃t,jo (ai im k) (.sl .nil []) false=t:=⟨_,rfl⟩
 have AH:=(sa.oi k).mut
 rw[ht]at AH
 have AI:=fun Hx v=>u7 vu Hx b.v (dZ s.vs) (k,n) v
 simp -implicitDefEqProofs only[kN,eN]at AI
 refine W.bU rfl rfl rfl ?_
 simp -implicitDefEqProofs only[Ov,kN,eN,fo,op,ef,cl,sq,reduceIte,q4,q5,q6,q7,q8,q9,j1,j2,j3,S1,S2,S3,List.length_set,sa.hs,sa.hv,l0,lv,AI,sv,li,sa.hi,sa.vi,fC,ht]
 generalize wh:H.set b.v (B.map (bh kN (cu (dZ s.vs) (k,n) (T.agg [T.str h.value,T.sl h.kk (h.keys.map eS),T.int IntKind.i64 h.bg]))))++[B.cells [T.str k,T.int IntKind.u64 n]]++[B.cells [T.str h.value,T.sl h.kk (h.keys.map eS),T.int IntKind.i64 h.bg]]=H1
 have ZO:H1.length=H.length+2:=by rw[←wh];simp
 have gJ:∀{c x},c≠b.v→H[c]?=some x→H1[c]?=some x:=fun hc hx=>by
  have:=aY hx
  rw[←wh,aQ (by simp;omega),aQ (by simpa using this),bj (Ne.symm hc)];exact hx
 have c1:H1[H.length]?=some (.cells [T.str k,T.int IntKind.u64 n]):=by rw[←wh,aQ (by simp),aO (by simp)]
 have v1:H1[b.v]?=some (.map (bh kN (dZ (cu s.vs (k,n) h)))):=by
  rw[←wh,aQ (by simp;omega),aQ (by simpa using lv),bX lv]
  congr 3;exact oc fo s.vs (k,n) h
 have s1:=gJ (Ne.symm sv) sa.hs
 have i1:=gJ (Ne.symm sa.vi) sa.hi
 have p1:=gJ (Ne.symm sa.vp) sa.hp
 have w1:=gJ (Ne.symm sa.vl) sa.hl
 have TF:pS eU 1 0 H1 t (s.ids k):=by
  have:=((sa.oi k).dQ (F':=F) (H':=H1) (fun c x hc hx=>gJ (sa.jq hc).2.1 hx) (fun _ _ h=>h)).mut
  rwa[ht]at this
 refine ae _ _ _ _ _ _ _ _ (ZJ 0 t (s.ids k) n H1 TF (by have:=hi.bi k;omega) (hi.xF k)) ?_
 rintro u H2⟨i,fd,hu,rfl,Ce,hi2,TG⟩
 cases hu
 have l10:b.s<H2.length:=aY s1
 have l11:H.length<H2.length:=aY c1
 have l12:b.i<H2.length:=aY i1
 have l13:b.p<H2.length:=aY p1
 simp -implicitDefEqProofs only[op,ef,cl,sq,reduceIte,q4,q5,q6,q7,q8,q9,j1,j2,j3,S1,S2,S3,s1,c1,i1,l10,l11,l12,fC,ht]
 have tne:∀c,(∀c',eg (ai im k)=some c'→c'≠c)→∀off len m,t≠.ax c off len m:=fun c hc off len m he=>hc c (qv (ht.trans he)) rfl
 have Ac:∀y:B,Ext H2 (H2++[y]):=fun y=>⟨_,rfl⟩
 have h60:=TD t (s.ids k) i n H2.length _ (TF.ext (Ac (.cells [.int .u64 n]))) (aO rfl) (fun off len m he=>by have:=(sa.jq (qv (ht.trans he))).2.2.2.2.2.2;omega) Ce (by have:=hi.bi k;omega)
 obtain⟨ys,Qk⟩:∃ys,ys=(s.ids k).take i++n :: (s.ids k).drop i:=⟨_,rfl⟩
 rw[←Qk]at h60
 refine ae _ _ _ _ _ _ _ _ h60 ?_
 rintro u H3⟨b',hu,jt,_,dD,au⟩
 cases hu
 have gw:∀{c x},H2[c]?=some x→(∀c',eg (ai im k)=some c'→c'≠c)→H3[c]?=some x:=fun hx hc=>dD.get _ _ ((Ac _).get hx) (tne _ hc)
 have s3:=gw s1 fun c' hc=>(sa.jq hc).1
 have v3:=gw v1 fun c' hc=>(sa.jq hc).2.1
 have i3:=gw i1 fun c' hc=>(sa.jq hc).2.2.1
 have p3:=gw p1 fun c' hc=>(sa.jq hc).2.2.2.1
 have w3:=gw w1 fun c' hc=>(sa.jq hc).2.2.2.2.1
 have c3:=gw c1 fun c' hc=>by have:=(sa.jq hc).2.2.2.2.2.2;omega
 have l30:=aY s3
 have l31:=aY c3
 have l32:=aY i3
 have l33:=aY p3
 have ZP:H2.length+1≤H3.length:=by have:=dD.len;simpa using this
 have bH:b.i≠H.length:=by omega
 obtain⟨t2,V1⟩:∃t2,jo (ai pm n) (.sl .nil []) false=t2:=⟨_,rfl⟩
 obtain⟨H4,Wh⟩:∃H4,H4=H3.set b.i (.map (bh T.str (cu im k (.ax b' 0 ys.length 1)))):=⟨_,rfl⟩
 have gx:∀{c x},H3[c]?=some x→c≠b.i→H4[c]?=some x:=fun hx hc=>by rw[Wh,bj (Ne.symm hc)];exact hx
 have s4:=gx s3 (Ne.symm si)
 have c4:=gx c3 (Ne.symm bH)
 have p4:=gx p3 (Ne.symm sa.ip)
 have v4:=gx v3 sa.vi
 have w4:=gx w3 (Ne.symm sa.il)
 have i4:H4[b.i]?=some (.map (bh T.str (cu im k (.ax b' 0 ys.length 1)))):=by rw[Wh,bX l32]
 have kP:∀n' c x,eg (ai pm n')=some c→H[c]?=some x→H4[c]?=some x:=fun n' c x hc hx=>by
  obtain⟨e1,e2,e3,e4,e5,_,e6⟩:=sa.kG hc
  exact gx (gw (gJ e2 hx) fun c' iS e=>sa.sx k n' c (e▸iS) hc) e3
 have Ka:pS eS 1 0 H4 t2 (s.dh n):=by
  have:=((sa.op n).dQ (F':=F) (H':=H4) (fun c x hc hx=>kP n c x hc hx) (fun _ _ h=>h)).mut
  rwa[V1]at this
 have sm:uF t2=t2:=by
  rcases Ka with⟨_,rfl⟩|⟨_,rfl,_⟩<;>rfl
 obtain⟨t3,H5,ob,TH,Ci⟩:=l6 (enc:=eS) (n:=1) (n0:=0) (bytes:=16) (fun _=>rfl) [k] Ka (Nat.zero_le _) (by simp) (ug (by have:=hi.bp n;simp;omega) (by omega))
 simp -implicitDefEqProofs only[List.map_cons,List.map_nil,eS]at ob
 have ZQ:∀c,(∀c',eg (ai pm n)=some c'→c'≠c)→∀off len m,t2≠.ax c off len m:=fun c hc off len m he=>hc c (qv (V1.trans he)) rfl
 have fM:∀{c x},H4[c]?=some x→(∀c',eg (ai pm n)=some c'→c'≠c)→H5[c]?=some x:=fun hx hc=>Ci.get _ _ hx (ZQ _ hc)
 have s5:=fM s4 fun c' hc=>(sa.kG hc).1
 have v5:=fM v4 fun c' hc=>(sa.kG hc).2.1
 have i5:=fM i4 fun c' hc=>(sa.kG hc).2.2.1
 have p5:=fM p4 fun c' hc=>(sa.kG hc).2.2.2.1
 have w5:=fM w4 fun c' hc=>(sa.kG hc).2.2.2.2.1
 have c5:=fM c4 fun c' hc=>by have:=(sa.kG hc).2.2.2.2.2.2;omega
 simp -implicitDefEqProofs only[op,ef,cl,sq,reduceIte,q4,q5,q6,q7,q8,q9,j1,j2,j3,S1,S2,s3,c3,i3,ng,←Wh,s4,c4,p4,s5,c5,p5,lH,V1,sm,ob,rv]
 have yc:s.dh n++[k]≠[]:=by simp
 obtain⟨b3,rfl,C0,_⟩:∃b3,t3=.ax b3 0 (s.dh n++[k]).length 1∧H5[b3]?=some (.cells (aE eS (s.dh n++[k])))∧0≤b3:=by
  rcases TH with⟨h,_⟩|h
  ·exact absurd h yc
  ·exact h
 have CY:H4.length≤b3:=vj ob (by simp)
 have aeX:H4.length=H3.length:=by rw[Wh];simp
 have lb':=aY jt
 have lb3:=aY C0
 have nb:H.length≤b'∨eg (ai im k)=some b':=by
  rcases au with h|⟨off,len,m,h⟩
  ·rw[List.length_append]at h;exact .inl (by omega)
  ·exact .inr (qv (ht.trans h))
 have nbS:∀{c},c<H.length→(∀c',eg (ai im k)=some c'→c'≠c)→b'≠c:=fun hc hh=>nb.elim (fun h=>by omega) fun h=>hh _ h
 have od:∀{c x},H5[c]?=some x→c≠b.p→(H5.set b.p (.map (bh kU (cu pm n (.ax b3 0 (s.dh n++[k]).length 1)))))[c]?=some x:=fun hx hc=>by rw[bj (Ne.symm hc)];exact hx
 have kI:∀k' c x,k'≠k→eg (ai im k')=some c→H[c]?=some x→(H5.set b.p (.map (bh kU (cu pm n (.ax b3 0 (s.dh n++[k]).length 1)))))[c]?=some x:=fun k' c x hk hc hx=>by
  obtain⟨e1,e2,e3,e4,e5,_,e6⟩:=sa.jq hc
  exact od (fM (gx (gw (gJ e2 hx) fun c' iS e=>hk (sa.si k' k c hc (e▸iS))) e3) fun c' iS e=>sa.sx k' n c hc (e▸iS)) e4
 refine⟨rfl,s.put k n h ys,fun c=>F c∨(H.length≤c∧c<H5.length),⟨cu im k (.ax b' 0 ys.length 1),cu pm n (.ax b3 0 (s.dh n++[k]).length 1),?_⟩,by rw[Qk];exact hi.put gI hk hi2 TG,rfl,rfl,rfl,?_,fun c h=>h⟩
 ·refine⟨od s5 (Ne.symm sp),od v5 sa.vp,od i5 sa.ip,bX (aY p5),od w5 (Ne.symm sa.pl),sa.vi,sa.vp,sa.vl,sa.ip,sa.il,sa.pl,⟨.inl sa.F0.1,.inl sa.F0.2.1,.inl sa.F0.2.2.1,.inl sa.F0.2.2.2.1,.inl sa.F0.2.2.2.2⟩,fun k'=>?_,fun n'=>?_,fun k1 k2 c h1 h2=>?_,fun n1 n2 c h1 h2=>?_,fun k1 n1 c h1 h2=>?_,db sa.np _ _⟩
  ·simp -implicitDefEqProofs only[dy.put,br]
   by_cases e:k'=k
   ·simp -implicitDefEqProofs only[e,if_true]
    refine⟨b',rfl,od (fM (gx jt (nbS li fun c' iS=>(sa.jq iS).2.2.1)) fun c' iS e'=>?_) (nbS lp fun c' iS=>(sa.jq iS).2.2.2.1),nb.elim (fun h=>.inr ⟨h,by have:=Ci.len;omega⟩) fun h=>.inl (sa.jq h).2.2.2.2.2.1⟩
    subst e'
    exact nb.elim (fun h=>by have:=(sa.kG iS).2.2.2.2.2.2;omega) fun h=>sa.sx k n _ h iS
   ·simp -implicitDefEqProofs only[e,if_false]
    exact(sa.oi k').dQ (fun c x hc hx=>kI k' c x e hc hx) fun c _ h=>.inl h
  ·simp -implicitDefEqProofs only[dy.put,br]
   by_cases e:n'=n
   ·simp -implicitDefEqProofs only[e,if_true]
    exact⟨b3,rfl,od C0 (by omega),.inr ⟨by omega,lb3⟩⟩
   ·simp -implicitDefEqProofs only[e,if_false]
    refine(sa.op n').dQ (fun c x hc hx=>od (fM (kP n' c x hc hx) fun c' iS e'=>e (sa.sp n' n c hc (e'▸iS))) (sa.kG hc).2.2.2.1) fun c _ h=>.inl h
  ·simp -implicitDefEqProofs only[br]at h1 h2
   by_cases e1:k1=k
   ·by_cases e2:k2=k
    ·rw[e1,e2]
    ·simp -implicitDefEqProofs only[e1,if_true,eg,Option.some.injEq]at h1
     simp -implicitDefEqProofs only[e2,if_false]at h2
     subst h1
     exact absurd (nb.elim (fun h=>by have:=(sa.jq h2).2.2.2.2.2.2;omega) fun h=>sa.si _ _ _ h2 h) e2
   ·by_cases e2:k2=k
    ·simp -implicitDefEqProofs only[e2,if_true,eg,Option.some.injEq]at h2
     simp -implicitDefEqProofs only[e1,if_false]at h1
     subst h2
     exact absurd (nb.elim (fun h=>by have:=(sa.jq h1).2.2.2.2.2.2;omega) fun h=>sa.si _ _ _ h1 h) e1
    ·simp -implicitDefEqProofs only[e1,e2,if_false]at h1 h2
     exact sa.si _ _ _ h1 h2
  ·simp -implicitDefEqProofs only[br]at h1 h2
   by_cases e1:n1=n
   ·by_cases e2:n2=n
    ·rw[e1,e2]
    ·simp -implicitDefEqProofs only[e1,if_true,eg,Option.some.injEq]at h1
     simp -implicitDefEqProofs only[e2,if_false]at h2
     have:=(sa.kG h2).2.2.2.2.2.2;omega
   ·by_cases e2:n2=n
    ·simp -implicitDefEqProofs only[e2,if_true,eg,Option.some.injEq]at h2
     simp -implicitDefEqProofs only[e1,if_false]at h1
     have:=(sa.kG h1).2.2.2.2.2.2;omega
    ·simp -implicitDefEqProofs only[e1,e2,if_false]at h1 h2
     exact sa.sp _ _ _ h1 h2
  ·simp -implicitDefEqProofs only[br]at h1 h2
   by_cases e1:k1=k
   ·simp -implicitDefEqProofs only[e1,if_true,eg,Option.some.injEq]at h1
    by_cases e2:n1=n
    ·simp -implicitDefEqProofs only[e2,if_true,eg,Option.some.injEq]at h2
     omega
    ·simp -implicitDefEqProofs only[e2,if_false]at h2
     subst h1
     exact nb.elim (fun h=>by have:=(sa.kG h2).2.2.2.2.2.2;omega) fun h=>sa.sx _ _ _ h h2
   ·simp -implicitDefEqProofs only[e1,if_false]at h1
    by_cases e2:n1=n
    ·simp -implicitDefEqProofs only[e2,if_true,eg,Option.some.injEq]at h2
     have:=(sa.jq h1).2.2.2.2.2.2;omega
    ·simp -implicitDefEqProofs only[e2,if_false]at h2
     exact sa.sx _ _ _ h1 h2
 ·refine⟨by have:=Ci.len;rw[List.length_set];omega,fun c hc hF=>?_⟩
  obtain⟨x,hx⟩:=cw hc
  have ne:∀{c'},F c'→c≠c':=fun h e=>hF (e▸h)
  rw[hx]
  exact od (fM (gx (gw (gJ (ne sa.F0.2.1) hx) fun c' iS=>Ne.symm (ne (sa.jq iS).2.2.2.2.2.1)) (ne sa.F0.2.2.1)) fun c' iS=>Ne.symm (ne (sa.kG iS).2.2.2.2.2.1)) (ne sa.F0.2.2.2.1)
def dy.emp:dy:=⟨[],[],fun _=>[],fun _=>[],0⟩
theorem gv.emp:gv dy.emp:=⟨fun _ i j a b _ h=>by simp[dy.emp]at h,fun k n=>by simp[dy.emp,dN],fun _=>by simp[dy.emp],fun n k=>by simp[dy.emp,dN],by simp[dy.emp],fun m h hm=>by simp[dy.emp,dN]at hm,fun _=>by simp[dy.emp],fun _=>by simp[dy.emp],by simp[dy.emp]⟩
theorem ZR (H:af):W env (.call 28 []) H (fun o H'=>Ext H H'∧∃b F,o=.val (.ptr b.s 0)∧SH H' b dy.emp F∧∀c,F c→H.length≤c∧c<H'.length):=by
 refine W.bU rfl rfl rfl ?_
 simp -implicitDefEqProofs only[N1,op,ef,cl,sq,reduceIte,q4,q5,q6,q7,q8,q9,j1,j2,j3,S1,S3]
 refine⟨(((((Ext.rfl'.app _).app _).app _).app _).app _),⟨H.length+4,H.length,H.length+1,H.length+2,H.length+3⟩,fun c=>H.length≤c∧c<H.length+5,rfl,⟨[],[],?_⟩,fun c h=>⟨h.1,by have:=h.2;simp;omega⟩⟩
 refine⟨?_,?_,?_,?_,?_,by simp,by simp,by simp,by simp,by simp,by simp,by simp,fun _=>rfl,fun _=>rfl,fun k k' c h=>by simp[dN,eg]at h,fun k k' c h=>by simp[dN,eg]at h,fun k k' c h=>by simp[dN,eg]at h,by simp⟩
 ·rw[aO (by simp)]
 ·rw[aQ (by simp<;>omega),aQ (by simp<;>omega),aQ (by simp<;>omega),aQ (by simp),aO (by simp)];rfl
 ·rw[aQ (by simp),aQ (by simp),aQ (by simp),aO (by simp)];rfl
 ·rw[aQ (by simp),aQ (by simp),aO (by simp)];rfl
 ·rw[aQ (by simp),aO (by simp)];rfl
def qd (o:Option Hd):Hd:=o.getD ⟨⟨#[]⟩,.nil,[],0⟩
theorem yY (vs:List (Nm×Hd))(n:Nm):jo (ai (dZ vs) n) (.agg [.str ⟨#[]⟩,.sl .nil [],.int .i64 0]) false=fo (qd (ai vs n)):=by
 unfold dZ;rw[fV]
 cases ai vs n<;>rfl
def TI (k:ByteArray)(n:Nat)(v:ByteArray)(kk:SK)(keys:List ByteArray):List T:=[.str k,.int .u64 n,.str v,.sl kk (keys.map eS)]
def ZS (H:af)(k:ByteArray)(n:Nat)(h:Hd):Out→af→Prop:=fun o H'=>Ext H H'∧∃kk,iD kk h.keys∧o=.val (.agg (TI k n h.value kk h.keys))
theorem Cj (b:Bk)(s:dy)(F:Nat→Prop)(k:ByteArray)(n:Nat)(H:af)(hs:SH H b s F)(hi:gv s):W env (.call 62 [.ptr b.s 0,kN (k,n)]) H (ZS H k n (qd (ai s.vs (k,n)))):=by
 obtain⟨im,pm,sa⟩:=hs
 have l0:=aY sa.hs
 have lv:=aY sa.hv
 have iG:=fun Hx z ok=>lG vu z ok Hx (dZ s.vs) (k,n)
 simp -implicitDefEqProofs only[kN,eN]at iG
 have hh:=yY s.vs (k,n)
 obtain⟨h,tf⟩:∃h,h=qd (ai s.vs (k,n)):=⟨_,rfl⟩
 have pq:iD h.kk h.keys∧h.keys.length≤1024:=by
  rw[tf]
  cases e:ai s.vs (k,n)with
  | none=>exact⟨fun _=>rfl,by simp[qd]⟩
  | some h=>exact hi.TE _ _ e
 rw[←tf]at hh ⊢
 refine W.bU rfl rfl rfl ?_
 simp -implicitDefEqProofs only[Oo,kN,eN,op,ef,cl,sq,reduceIte,q4,q5,q6,q7,q8,q9,j1,j2,j3,S1,S2,S3,List.length_set,sa.hs,sa.hv,l0,lv,iG,hh,fo]
 refine ae _ _ _ _ _ _ _ _ (qu h.kk h.keys _ pq.1 (by omega)) ?_
 rintro u H2⟨hx,kk,bL,hu⟩
 cases hu
 have c0:H2[H.length]?=some (.cells [.str k,.int .u64 n]):=hx.get (by rw[aQ (by simp<;>omega),aQ (by simp),aO rfl])
 have c1:H2[H.length+1]?=some (.cells [.str ⟨#[]⟩,.int .u64 0,.str ⟨#[]⟩,.sl .nil []]):=hx.get (by rw[aQ (by simp),aO (by simp)])
 have c2:H2[H.length+2]?=some (.cells [.str h.value,.sl h.kk (h.keys.map eS),.int .i64 h.bg]):=hx.get (by rw[aO (by simp)])
 have k1:=aY c1
 simp -implicitDefEqProofs only[op,ef,cl,sq,reduceIte,q4,q5,q6,q7,q8,q9,j1,j2,j3,S1,c0,c1,c2,S2,k1]
 exact⟨((((Ext.rfl'.app _).app _).app _).trans hx).set (by omega) _,kk,bL,rfl⟩
theorem yZ (ls:List (ByteArray×Nat))(k:ByteArray):ai (kF ls) k=(ai ls k).map fun n:Nat=>T.int .u64 n:=fV (fun n:Nat=>T.int .u64 n) ls k
def bN (s:dy)(k:ByteArray):Nat:=(ai s.ls k).getD 0
theorem oe (s:dy)(k:ByteArray):jo (ai (kF s.ls) k) (.int .u64 0) false=.int .u64 (bN s k):=by
 unfold bN;rw[yZ]
 cases ai s.ls k<;>rfl
structure kH (s s':dy)(n:Nat)(l:List (ByteArray×ByteArray))(ks:List ByteArray)(now:Int)(fr:Bool):Prop where
 other:∀m:Nm,(m.2≠n∨m.1∉l.map (·.1))→ai s'.vs m=ai s.vs m
 jP:∀p∈l,∀h,ai s.vs (p.1,n)=some h→ai s'.vs (p.1,n)=some h
 new:∀p∈l,ai s.vs (p.1,n)=none→∃kk,iD kk ks∧ai s'.vs (p.1,n)=some ⟨p.2,kk,ks,if n<bN s p.1 then now else -1⟩
 fresh:fr=true↔∃p∈l,ai s.vs (p.1,n)=none
 ls:s'.ls=s.ls
theorem kH.nil (s:dy)(n:Nat)(ks:List ByteArray)(now:Int):kH s s n [] ks now false:=⟨fun _ _=>rfl,by simp,by simp,by simp,rfl⟩
theorem kH.there {s s':dy}{n:Nat}{l:List (ByteArray×ByteArray)}{ks:List ByteArray}{now:Int}{fr:Bool}(h:kH s s' n l ks now fr){p:ByteArray×ByteArray}{hd:Hd}(hp:p.1∉l.map (·.1))(ht:ai s'.vs (p.1,n)=some hd):kH s s' n (l++[p]) ks now fr:=by
 have e:=h.other (p.1,n) (.inr hp)
 rw[ht]at e
 refine⟨fun m hm=>h.other m ?_,fun q hq h' hh=>?_,fun q hq hn=>?_,?_,h.ls⟩
 ·simp -implicitDefEqProofs only[List.map_append,List.mem_append,not_or]at hm
  exact hm.imp id (·.1)
 ·rcases List.mem_append.1 hq with hq|hq
  ·exact h.jP q hq h' hh
  ·simp at hq;subst hq;rw[←e]at hh;rw[ht];exact hh
 ·rcases List.mem_append.1 hq with hq|hq
  ·exact h.new q hq hn
  ·simp at hq;subst hq;rw[←e]at hn;cases hn
 ·rw[h.fresh]
  constructor
  ·rintro⟨q,hq,hn⟩;exact⟨q,List.mem_append_left _ hq,hn⟩
  ·rintro⟨q,hq,hn⟩
   rcases List.mem_append.1 hq with hq|hq
   ·exact⟨q,hq,hn⟩
   ·simp at hq;subst hq;rw[←e]at hn;cases hn
theorem kH.add {s s' s2:dy}{n:Nat}{l:List (ByteArray×ByteArray)}{ks:List ByteArray}{now:Int}{fr:Bool}(h:kH s s' n l ks now fr){p:ByteArray×ByteArray}{kk:SK}(hp:p.1∉l.map (·.1))(bL:iD kk ks)(ht:ai s'.vs (p.1,n)=none)
  (hv:s2.vs=cu s'.vs (p.1,n) ⟨p.2,kk,ks,if n<bN s p.1 then now else -1⟩) (hl:s2.ls=s'.ls):kH s s2 n (l++[p]) ks now true:=by
 have e:=h.other (p.1,n) (.inr hp)
 rw[ht]at e
 have key:∀q∈l,(q.1,n)≠(p.1,n):=fun q hq hh=>hp (List.mem_map.2 ⟨q,hq,(Prod.mk.inj hh).1⟩)
 refine⟨fun m hm=>?_,fun q hq h' hh=>?_,fun q hq hn=>?_,⟨fun _=>⟨p,by simp,e.symm⟩,fun _=>rfl⟩,hl.trans h.ls⟩
 ·simp -implicitDefEqProofs only[List.map_append,List.mem_append,not_or]at hm
  rw[hv,br,if_neg]
  ·exact h.other m (hm.imp id (·.1))
  ·rintro rfl
   rcases hm with hm|hm
   ·exact hm rfl
   ·exact hm.2 (by simp)
 ·rw[hv,br]
  rcases List.mem_append.1 hq with hq|hq
  ·rw[if_neg (key q hq)];exact h.jP q hq h' hh
  ·simp at hq;subst hq;rw[←e]at hh;cases hh
 ·rw[hv,br]
  rcases List.mem_append.1 hq with hq|hq
  ·rw[if_neg (key q hq)];exact h.new q hq hn
  ·simp at hq;subst hq;rw[if_pos rfl];exact⟨kk,bL,rfl⟩
theorem rE {n:Nat}{l:List (ByteArray×ByteArray)}{ks:List ByteArray}(h:mC n l ks):∀(i j:Nat) p q,i<j→l[i]?=some p→l[j]?=some q→strLt p.1 q.1=true
 | i,0,_,_,rC,_,_=>by omega
 | i,j+1,p,q,rC,hp,hq=>by
  have hj:=(List.getElem?_eq_some_iff.1 hq).1
  obtain⟨r,hr⟩:=cw (l:=l) (i:=j) (by omega)
  have h1:=(h.2.2.2 (j+1) hj q hq).1 (by omega) r (by simpa using hr)
  by_cases e:i=j
  ·subst e;rw[hp]at hr;cases hr;exact h1
  ·exact eF (rE h i j p r (by omega) hp hr) h1
def bq (n:Int):Prop:=0≤n∧n≤1099511627776
def ZT (b:Bk)(s:dy)(F:Nat→Prop)(n:Nat)(l:List (ByteArray×ByteArray))(ks:List ByteArray)(now:Int)(H:af):Out→af→Prop:=fun o H' =>
 ∃s' F' fr,o=.val (.bJ [.bool fr,.int .i64 0])∧SH H' b s' F'∧gv s'∧kH s s' n l ks now fr∧s'.n≤s.n+l.length∧bm F H H'∧∀c,F' c→F c∨(H.length≤c∧c<H'.length)
theorem TJ (b:Bk)(s:dy)(F:Nat→Prop)(n:Nat)(k k':SK)(l:List (ByteArray×ByteArray))(ks:List ByteArray)(now:Int)(H:af)(hs:SH H b s F)(hi:gv s)(hn:s.n+l.length≤8000000)(pq:iD k' ks)(hm:mC n l ks)(ht:bq now) :
  W env (.call 23 [.ptr b.s 0,.int .u64 n,.sl k (l.map eP),.sl k' (ks.map eS),.int .i64 now]) H (ZT b s F n l ks now H):=by
 have Qn:=hm.2.1.2.2
 refine W.bU rfl rfl rfl ?_
 simp -implicitDefEqProofs only[JY,op,ef,cl,sq,reduceIte,q4,q5,q6,q7,q8,q9,j1,j2,j3,S1]
 refine ae _ _ _ _ _ _ _ _ (Md n k k' l ks _ (by omega) (by omega)) ?_
 rintro u H1⟨gz,bb,hu,hb⟩
 have NR:bb=true:=hb.2 hm
 subst NR
 cases hu
 simp -implicitDefEqProofs only[op,ef,cl,sq,reduceIte,q4,q5,q6,q7,q8,q9,j1,j2,j3,S1]
 refine ae _ _ _ _ _ _ _ _ (rB now _) ?_
 rintro u H1⟨hu,rfl⟩
 have y0:(decide (0≤now)&&decide (now≤1099511627776))=true:=by simp[ht.1,ht.2]
 rw[y0]at hu
 cases hu
 simp -implicitDefEqProofs only[op,ef,cl,sq,reduceIte,q4,q5,q6,q7,q8,q9,j1,j2,j3,S1,List.length_map]
 refine W.cH (fun (i:Nat) R H'=>At H' (fun H'=>∃s' F' fr,R 12=.bool fr∧SH H' b s' F'∧gv s'∧kH s s' n (l.take i) ks now fr∧s'.n≤s.n+i∧bm F H H'∧∀c,F' c→F c∨(H.length≤c∧c<H'.length))∧R 0=.ptr b.s 0∧R 1=.int .u64 n∧R 3=.sl k' (ks.map eS)∧R 4=.int .i64 now∧R 29=.sl k (l.map eP)∧R 30=.int .i64 l.length∧R 31=.int .i64 i∧i≤l.length) (fun i=>l.length-i) 0 ?_ ?_
 ·obtain⟨im,pm,sa⟩:=hs
  refine⟨.i ⟨s,F,false,rfl,⟨im,pm,sa.jv (aB (F:=fun _=>False) gz) (fun _ _ _ h=>h)⟩,hi,by rw[List.take_zero];exact kH.nil s n ks now,Nat.le_refl _,aB gz,fun c h=>.inl h⟩,rfl,rfl,rfl,rfl,rfl,rfl,rfl,Nat.zero_le _⟩
 rintro i R H2⟨⟨s',F',fr,aD,JM,ZU,mD,uJ,au,hF⟩,h0,h1,h3,h4,ZV,Wi,Wj,lx⟩
 by_cases aw:i<l.length
 ·obtain⟨p,hp⟩:=cw aw
  have ws:=aC (show i<9223372036854775807 by omega)
  have we:=gC (e:=eP) (n:=2) (fun _=>rfl) (by decide) (k:=k) hp
  have V8:p.1∉(l.take i).map (·.1):=fun hh=>by
   obtain⟨q,hq,e⟩:=List.mem_map.1 hh
   obtain⟨j,hj,e2⟩:=List.getElem_of_mem hq
   have y6:j<i∧j<l.length:=by simp -implicitDefEqProofs only[List.length_take]at hj;omega
   have hqj:l[j]?=some q:=by rw[←e2];simp[List.getElem?_eq_getElem y6.2]
   have:=rE hm j i q p y6.1 hqj hp
   rw[e,fk]at this;cases this
  obtain⟨im,pm,sa⟩:=JM
  have l0:=aY sa.hs
  have lv:=aY sa.hv
  have ll:=aY sa.hl
  have Mf:b.s<H2.length+1:=by omega
  have Wk:b.s<H2.length+2:=by omega
  have Wl:b.l<H2.length+1:=by omega
  have Wm:b.l<H2.length+2:=by omega
  have lv1:b.v<H2.length+1:=by omega
  have iG:=fun Hx z ok=>lG vu z ok Hx (dZ s'.vs) (p.1,n)
  simp -implicitDefEqProofs only[kN,eN]at iG
  have pr:jo (ai (dZ s'.vs) (p.1,n)) (.agg [.str ⟨#[]⟩,.sl .nil [],.int .i64 0]) true=.bJ [fo (qd (ai s'.vs (p.1,n))),.bool (ai s'.vs (p.1,n)).isSome]:=by
   unfold dZ;rw[fV]
   cases ai s'.vs (p.1,n)<;>rfl
  have qR:=oe s' p.1
  have Ck:∀k,bN s' k=bN s k:=fun k=>by simp -implicitDefEqProofs only[bN,mD.ls]
  rw[Ck]at qR
  cases e:ai s'.vs (p.1,n)with
  | some h =>
   rw[e]at pr
   simp -implicitDefEqProofs only[Option.isSome_some]at pr
   simp -implicitDefEqProofs only[op,ef,cl,sq,reduceIte,q4,q5,q6,q7,q8,q9,j1,j2,j3,S1,S2,S3,List.length_set,h0,h1,h3,h4,ZV,Wi,Wj,aw,aa,we,eP,sa.hs,sa.hv,l0,lv,iG,pr,fo,ws]
   exact⟨i+1,by omega,.i ⟨s',F',fr,aD,⟨im,pm,sa.jv (aB (F:=fun _=>False) (((Ext.rfl'.app _).app _).app _)) (fun _ _ _ h=>h)⟩,ZU,by rw[cE hp];exact mD.there V8 e,by omega,((au.app _).app _).app _,fun c h=>(hF c h).imp id fun h=>⟨h.1,by have:=h.2;simp;omega⟩⟩,rfl,by omega⟩
  | none =>
   rw[e]at pr
   simp -implicitDefEqProofs only[Option.isSome_none]at pr
   by_cases gH:n<bN s p.1
   all_goals
    simp -implicitDefEqProofs only[op,ef,cl,sq,reduceIte,q4,q5,q6,q7,q8,q9,j1,j2,j3,S1,S2,S3,List.length_set,h0,h1,h3,h4,ZV,Wi,Wj,aw,aa,we,eP,sa.hs,sa.hv,sa.hl,l0,Mf,Wk,lv,lv1,ll,Wl,Wm,iG,pr,fo,fC,qR,gH]
    refine ae _ _ _ _ _ _ _ _ (qu k' ks _ pq (by omega)) ?_
    rintro u H3⟨hx,kk,bL,hu⟩
    cases hu
    have c0:H3[H2.length]?=some (.cells [.str p.1,.str p.2]):=hx.get (by rw[aQ (by simp<;>omega),aQ (by simp),aO rfl])
    have c1:H3[H2.length+1]?=some (.cells [.str p.1,.int .u64 n]):=hx.get (by rw[aQ (by simp),aO (by simp)])
    have yf:Ext H2 H3:=((((Ext.rfl'.app _).app _).app _).trans hx)
    simp -implicitDefEqProofs only[op,ef,cl,sq,reduceIte,q4,q5,q6,q7,q8,q9,j1,j2,j3,S1,c0,c1]
    refine ae _ _ _ _ _ _ _ _ (Me b s' F' p.1 n ⟨p.2,kk,ks,_⟩ _ ⟨im,pm,sa.jv (aB (F:=fun _=>False) yf) (fun _ _ _ h=>h)⟩ ZU e (by omega) ⟨bL,by omega⟩) ?_
    rintro u H4⟨hu,s2,F2,ZW,ZX,iI,Ib,Jf,kf,hF2⟩
    cases hu
    have hpa:kH s s2 n (l.take i++[p]) ks now true:=mD.add (kk:=kk) V8 bL e (by first|rw[if_pos gH];exact iI|rw[if_neg gH];exact iI) Ib
    rw[←cE hp]at hpa
    simp -implicitDefEqProofs only[op,ef,cl,sq,reduceIte,q4,q5,q6,q7,q8,q9,j1,j2,j3,S1,h0,h1,h3,h4,ZV,Wi,Wj,ws]
    exact⟨i+1,by omega,.i ⟨s2,F2,true,rfl,ZW,ZX,hpa,by omega,(au.trans (aB (F:=fun _=>False) yf) (fun c h=>h.elim)).trans kf (fun c h=>(hF c h).imp id (·.1)),fun c h=>by
     have q1:=au.1
     have q2:=yf.len
     have q3:=kf.1
     rcases hF2 c h with h|h
     ·rcases hF c h with h|h
      ·exact .inl h
      ·exact .inr ⟨h.1,by omega⟩
     ·exact .inr ⟨by omega,h.2⟩⟩,rfl,by omega⟩
 ·have ni:i=l.length:=by omega
  subst ni
  rw[List.take_length]at mD
  simp -implicitDefEqProofs only[op,ef,cl,sq,reduceIte,q4,q5,q6,q7,q8,q9,j1,j2,j3,S1,aD,Wi,Wj,aw]
  exact⟨s',F',fr,rfl,JM,ZU,mD,uJ,au,hF⟩
end Go.Proofs.YtdcpehdijdllpaaGreat.St
end
