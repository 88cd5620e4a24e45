/- Part of a proof of a law of this seat: the machine of plain values, its simulation, and the contracts of the functions that the law reaches. Conditions: none beyond the given row. -/
import Derived.Test.YtdcpehdijdllpaaGreatM1
import Derived.Test.YtdcpehdijdllpaaGreatProg
import Derived.KernelRfl
open Int renaming reduceLT → q1, reduceLE → q2, reduceBEq → q3, reduceBNe → q4, reduceEq → q5
open Nat renaming reduceAdd → q6, reduceLeDiff → q7, reduceLT → q8, reduceEqDiff → q9
set_option linter.unusedSimpArgs false
set_option linter.unusedVariables false
set_option linter.unnecessarySimpa false
set_option maxHeartbeats 4000000
section
namespace Go.Rmp
set_option maxRecDepth 10000
abbrev o1 (d:Nat)(b:Bo):O:=⟨some d,.b b,none,[]⟩
def uW (n bytes:Nat)(z:List T)(fr:Nat):Fn:=⟨95,3,[.t 6],
 C.seq (.ops [o1 6 (.ar (.c (.sl .nil [])))]) <|
 C.seq (.ops [o1 10 (.ar (.r 0)),o1 11 (.ar (.r 1)),o1 12 (.gH n (.r 10) (some (.r 11)) none none)]) <|
 C.seq (.ops [o1 13 (.ar (.r 2)),o1 14 (.len .sl (.r 13)),o1 7 (.ar (.r 14))]) <|
 C.seq (C.seq (.ops [o1 15 (.ar (.r 7)),o1 16 (.bin .eql (.r 15) (.c (.int .i64 0)))]) <|
 .cond (.r 16)
  (C.seq (.ops [o1 17 (.ar (.r 0)),o1 6 (.ar (.r 17))]) <|
  .ret)
  (.skip)) <|
 C.seq (.ops [o1 18 (.ar (.r 0)),o1 19 (.len .sl (.r 18)),o1 8 (.ar (.r 19))]) <|
 C.seq (C.seq (.ops [o1 20 (.ar (.r 1)),o1 21 (.ar (.r 8)),o1 22 (.bin .eql (.r 20) (.r 21))]) <|
 .cond (.r 22)
  (C.seq (.ops [o1 23 (.ar (.r 0)),o1 24 (.ar (.r 2)),o1 25 (.app n bytes true (.r 23) (.r 24)),o1 6 (.ar (.r 25))]) <|
  .ret)
  (.skip)) <|
 C.seq (C.seq (.ops [o1 26 (.ar (.r 8)),o1 27 (.ar (.r 7)),o1 28 (.bin .add (.r 26) (.r 27)),o1 29 (.ar (.r 0)),o1 30 (.cap (.r 29)),o1 31 (.bin .gtr (.r 28) (.r 30))]) <|
 .cond (.r 31)
  (C.seq (.ops [o1 32 (.ar (.r 0)),o1 33 (.ar (.r 1)),o1 34 (.gH n (.r 32) none (some (.r 33)) none),o1 35 (.ar (.r 8)),o1 36 (.ar (.r 7)),o1 37 (.bin .add (.r 35) (.r 36)),o1 38 (.ar (.r 1)),o1 39 (.bin .sub (.r 37) (.r 38)),o1 40 (.Ti n bytes z (.r 34) (.r 39)),o1 9 (.ar (.r 40))]) <|
  C.seq (.ops [o1 41 (.ar (.r 9)),o1 42 (.ar (.r 1)),o1 43 (.gH n (.r 41) (some (.r 42)) none none),o1 44 (.ar (.r 2)),o1 45 (.Cl n (.r 43) (.r 44))]) <|
  C.seq (.ops [o1 46 (.ar (.r 9)),o1 47 (.ar (.r 1)),o1 48 (.ar (.r 7)),o1 49 (.bin .add (.r 47) (.r 48)),o1 50 (.gH n (.r 46) (some (.r 49)) none none),o1 51 (.ar (.r 0)),o1 52 (.ar (.r 1)),o1 53 (.gH n (.r 51) (some (.r 52)) none none),o1 54 (.Cl n (.r 50) (.r 53))]) <|
  C.seq (.ops [o1 55 (.ar (.r 9)),o1 6 (.ar (.r 55))]) <|
  .ret)
  (.skip)) <|
 C.seq (.ops [o1 56 (.ar (.r 0)),o1 57 (.ar (.r 8)),o1 58 (.ar (.r 7)),o1 59 (.bin .add (.r 57) (.r 58)),o1 60 (.gH n (.r 56) none (some (.r 59)) none),o1 0 (.ar (.r 60))]) <|
 C.seq (C.seq (.ops [o1 61 (.ar (.r 2)),o1 62 (.ar (.r 0)),o1 63 (.ar (.r 1)),o1 64 (.ar (.r 7)),o1 65 (.bin .add (.r 63) (.r 64)),o1 66 (.gH n (.r 62) (some (.r 65)) none none),o1 67 (.Sn n (.r 61) (.r 66)),o1 68 (.un .not (.r 67))]) <|
 .cond (.r 68)
  (C.seq (.ops [o1 69 (.ar (.r 0)),o1 70 (.ar (.r 1)),o1 71 (.ar (.r 7)),o1 72 (.bin .add (.r 70) (.r 71)),o1 73 (.gH n (.r 69) (some (.r 72)) none none),o1 74 (.ar (.r 0)),o1 75 (.ar (.r 1)),o1 76 (.gH n (.r 74) (some (.r 75)) none none),o1 77 (.Cl n (.r 73) (.r 76))]) <|
  C.seq (.ops [o1 78 (.ar (.r 0)),o1 79 (.ar (.r 1)),o1 80 (.gH n (.r 78) (some (.r 79)) none none),o1 81 (.ar (.r 2)),o1 82 (.Cl n (.r 80) (.r 81))]) <|
  C.seq (.ops [o1 83 (.ar (.r 0)),o1 6 (.ar (.r 83))]) <|
  .ret)
  (.skip)) <|
 C.seq (.ops [o1 84 (.ar (.r 0)),o1 85 (.ar (.r 8)),o1 86 (.gH n (.r 84) (some (.r 85)) none none),o1 87 (.ar (.r 2)),o1 88 (.Cl n (.r 86) (.r 87))]) <|
 C.seq (.ops [o1 89 (.ar (.r 0)),o1 90 (.ar (.r 1)),o1 91 (.gH n (.r 89) (some (.r 90)) none none),o1 92 (.ar (.r 7)),⟨some 93,.call fr [(.r 91),(.r 92)],none,[]⟩]) <|
 C.seq (.ops [o1 94 (.ar (.r 0)),o1 6 (.ar (.r 94))]) <|
 .ret⟩
section
variable {α:Type} {enc:α→List T} {n:Nat}
theorem gD (hn:∀x,(enc x).length=n){H:af}{b:Nat}{xs:List α}(hb:H[b]?=some (.cells (aP enc xs)))(j k l c:Nat)(Un:j+k≤xs.length) :
  iQ H n k (.aC b (j*n) l n)=some (((xs.drop j).take k).map enc)∧iQ H n k (.eH b (j*n) l n c)=some (((xs.drop j).take k).map enc):=by
 have hm:j*n+k*n≤(aP enc xs).length:=by rw[dy hn,←Nat.add_mul];exact Nat.mul_le_mul_right n Un
 have e:(List.range k).map (fun i=>((aP enc xs).drop (j*n+i*n)).take n)=((xs.drop j).take k).map enc:=by
  have h1:=vV hn ((xs.drop j).take k)
  have hl:((xs.drop j).take k).length=k:=by simp;omega
  rw[hl]at h1
  rw[←h1]
  unfold tE
  refine List.map_congr_left fun i hi=>?_
  have hi:=List.mem_range.1 hi
  rw[Nat.zero_add,←kc hn,←mz hn,List.drop_take,List.drop_drop,List.take_take]
  congr 1
  have:i*n+n≤k*n:=by rw[←Nat.succ_mul];exact Nat.mul_le_mul_right n hi
  omega
 simp -implicitDefEqProofs only[iQ,hb,hm,and_self,if_true,e]
theorem vW (hn:∀x,(enc x).length=n)(iA:n≠0){H:af}{b:Nat}{xs ys:List α}{y:T}{ly len:Nat}(hb:H[b]?=some (.cells (aP enc xs)))(j c:Nat)(hj:j≤xs.length)(Kg:D7 y=some ly)(hy:iQ H n (min ly len) y=some (ys.map enc))(qC:ys.length=min ly len) :
  Cn H n (.aC b (j*n) len n) y=some (.int .i64 (min ly len:Nat),H.set b (.cells (aP enc (xs.take j++ys++xs.drop (j+ys.length))))) ∧
  Cn H n (.eH b (j*n) len n c) y=some (.int .i64 (min ly len:Nat),H.set b (.cells (aP enc (xs.take j++ys++xs.drop (j+ys.length))))):=by
 have h1:j*n≤(aP enc xs).length:=by rw[dy hn];exact Nat.mul_le_mul_right n hj
 have e:(aP enc xs).take (j*n)++(ys.map enc).flatten++(aP enc xs).drop (j*n+(min ly len)*n)=aP enc (xs.take j++ys++xs.drop (j+ys.length)):=by
  rw[←qC,←Nat.add_mul,kc hn,mz hn]
  simp[aP,List.flatMap]
 simp -implicitDefEqProofs only[Cn,Kg,hb,hy,h1,iA,ne_eq,not_false_eq_true,and_self,if_true,e]
theorem Pe (hn:∀x,(enc x).length=n)(iA:n≠0){H:af}{b bytes:Nat}{xs:List α}(zv:α)(hb:H[b]?=some (.cells (aP enc xs)))(i k c:Nat)(hi:i≤xs.length)(hk:0<k)(hc:c<i+k)(hr:db (i+k) bytes=true) :
  D8 H n bytes (enc zv) (.eH b 0 i n c) k=some (.aC H.length 0 (i+k) n,H++[.cells (aP enc (xs.take i++List.replicate k zv))]):=by
 have h1:=(gD hn hb 0 i i c (by omega)).2
 rw[Nat.zero_mul]at h1
 have e:((xs.take i).map enc).flatten++(List.replicate k (enc zv)).flatten=aP enc (xs.take i++List.replicate k zv):=by
  rw[K3];simp[aP,List.flatMap]
 simp -implicitDefEqProofs only[List.drop_zero]at h1
 simp -implicitDefEqProofs only[D8,h1,iA,ne_eq,not_false_eq_true,hk,hc,hn,hr,and_self,if_true,e]
theorem uX (hn:∀x,(enc x).length=n){H:af}{bv:Nat}{v:α}(hv:H[bv]?=some (.cells (enc v))):bG H n (.aC bv 0 1 n)=some [enc v]:=by
 have h1:0+1*n≤(enc v).length:=by rw[hn];omega
 simp -implicitDefEqProofs only[bG,hv,h1,and_self,if_true]
 have:(List.range 1).map (fun i=>((enc v).drop (0+i*n)).take n)=[enc v]:=by
  simp[List.range_succ,List.take_of_length_le (Nat.le_of_eq (hn v))]
 rw[this]
structure No (n0:Nat)(H:af)(t:T)(H':af):Prop where
 len:H.length≤H'.length
 get:∀b x,H[b]?=some x→(∀off len n,t≠.aC b off len n)→H'[b]?=some x
 ext:∀H0:af,H0.length≤n0→Ext H0 H→Ext H0 H'
def Pf (enc:α→List T)(n n0:Nat)(H:af)(t:T)(ys:List α):Out→af→Prop:=fun o H'=>∃b',o=.val (.aC b' 0 ys.length n)∧H'[b']?=some (.cells (aP enc ys))∧n0≤b'∧No n0 H t H'∧(H.length≤b'∨∃off len n,t=.aC b' off len n)
theorem qV {H H':af}{n bytes b off len m:Nat}{x:T}{new:List (List T)}(h:lT H n bytes x new=some (.aC b off len m,H'))(hn:new≠[]):H.length≤b:=by
 unfold lT at h
 split at h
 ·exact absurd rfl hn
 ·split at h
  ·split at h
   ·simp at h;omega
   ·cases h
  ·split at h
   ·simp at h;omega
   ·cases h
  ·split at h
   ·split at h
    ·simp at h;omega
    ·cases h
   ·cases h
  ·cases h
theorem K4 {E:Env}{f bytes fr:Nat}(hn:∀x,(enc x).length=n)(iA:n≠0)(zv:α)(hf:E.fn f=some (uW n bytes (enc zv) fr))(n0 bv:Nat)(v:α)(H:af)(hH:n0≤H.length)(hv:H[bv]?=some (.cells (enc v)))(hr:db 1 bytes=true) :
  W E (.call f [.sl .nil [],.int .i64 0,.aC bv 0 1 n]) H (Pf enc n n0 H (.sl .nil []) [v]):=by
 refine W.bA hf rfl rfl ?_
 have h1:=uX hn hv
 obtain⟨t',H',ha,hm,cW⟩:=mU (enc:=enc) hn (bytes:=bytes) [v] (kY enc n n0 H) hH (by simp) (by simpa using hr)
 simp -implicitDefEqProofs only[List.map_cons,List.map_nil]at ha
 have av:=fun b' ml (e:t'=T.aC b' 0 ml n)=>qV (e▸ha) (by simp)
 have n0':cB (.int .i64 0)=some 0:=rfl
 have z0:((0:Nat):Int)=0:=rfl
 simp -implicitDefEqProofs only[uW,o1,reduceIte,q1,q2,q3,q4,q5,q6,q7,q8,q9,S1,z0,n0',Nat.le_refl,and_self,SK.cut,h1,xv,ha]
 rcases hm with⟨h0,_⟩|⟨b',rfl,jN,K5⟩
 ·simp at h0
 ·exact⟨b',rfl,jN,K5,⟨cW.len,cW.get,cW.ext⟩,.inl (av _ _ rfl)⟩
theorem K6 {E:Env}{f bytes fr:Nat}(hn:∀x,(enc x).length=n)(iA:n≠0)(zv:α)(hf:E.fn f=some (uW n bytes (enc zv) fr))(n0 bv b i:Nat)(v:α)(xs:List α)(H:af)(hH:n0≤H.length)(hv:H[bv]?=some (.cells (enc v)))(hb:H[b]?=some (.cells (aP enc xs)))(K5:n0≤b)(bF:bv≠b)
  (hi:i≤xs.length) (hl:xs.length<4611686018427387903) (hr:db (xs.length+1) bytes=true) :
  W E (.call f [.aC b 0 xs.length n,.int .i64 i,.aC bv 0 1 n]) H (Pf enc n n0 H (.aC b 0 xs.length n) (xs.take i++v :: xs.drop i)):=by
 have qC:(xs.take i++v :: xs.drop i).length=xs.length+1:=by simp;omega
 refine W.Cr (b:=b) (off:=0) (len:=xs.length) (n:=n) 0 (fun o H'=>∃t b',o=.val t∧xv t=.aC b' 0 (xs.length+1) n∧H'[b']?=some (.cells (aP enc (xs.take i++v :: xs.drop i)))∧n0≤b'∧No n0 H (.aC b 0 xs.length n) H'∧(H.length≤b'∨∃off len m,(.aC b 0 xs.length n:T)=.aC b' off len m)) rfl (fun c hc=>?_) ?_
 rotate_left
 ·rintro t H'⟨t',b',ht,Gs,h1,h2,h3⟩
  cases ht
  exact⟨b',by rw[Gs,qC],h1,h2,h3⟩
 refine W.bA hf rfl rfl ?_
 have h1:=uX hn hv
 have w1:IntKind.i64.wrap ((xs.length:Int)+((1:Nat):Int))=((xs.length+1:Nat):Int):=by rw[wrap64 (by omega)];omega
 have w2:IntKind.i64.wrap ((i:Int)+((1:Nat):Int))=((i+1:Nat):Int):=by rw[wrap64 (by omega)];omega
 have lb:=aQ hb
 have lv:=aQ hv
 by_cases mc:i=xs.length
 ·subst mc
  obtain⟨t',H',ha,hm,cW⟩:=mU (enc:=enc) (n0:=n0) (t:=.aC b 0 xs.length n) hn (bytes:=bytes) [v] (.inr ⟨b,rfl,hb,K5⟩) hH (by simp) (by simpa using hr)
  simp -implicitDefEqProofs only[List.map_cons,List.map_nil]at ha
  have av:=fun b' ml (e:t'=T.aC b' 0 ml n)=>qV (e▸ha) (by simp)
  simp -implicitDefEqProofs only[uW,o1,reduceIte,q1,q2,q3,q4,q5,q6,q7,q8,q9,S1,aa,Nat.le_refl,hc,and_self,h1,xv,ha]
  rcases hm with⟨h0,_⟩|⟨b',rfl,jN,ZR⟩
  ·simp at h0
  ·refine⟨_,b',rfl,by simp[xv],?_,ZR,⟨cW.len,cW.get,cW.ext⟩,.inl (av _ _ rfl)⟩
   rw[jN];simp
 ·have aq:i<xs.length:=by omega
  have Uo:¬((i:Int)=(xs.length:Int)):=by omega
  have ic:(i<c∨i=0)=True:=by simp;omega
  have i1:(i+1<c∨i+1=0)=(i+1<c):=by simp
  have mi:min 1 (xs.length+1-i)=1:=by omega
  have agC:=gD hn (xs:=[v]) (b:=bv) (H:=H)
  by_cases oB:c<xs.length+1
  ·have mM:c=xs.length:=by omega
   subst mM
   have w3:IntKind.i64.wrap (((xs.length+1:Nat):Int)-(i:Int))=((xs.length+1-i:Nat):Int):=by rw[wrap64 (by omega)];omega
   have vX:i+(xs.length+1-i)=xs.length+1:=by omega
   have ha:=Pe (bytes:=bytes) hn iA zv hb i (xs.length+1-i) xs.length hi (by omega) (by omega) (by rw[vX];exact hr)
   rw[vX]at ha
   have c0:(0<xs.length∨True)=True:=by simp
   have e1:¬(i=xs.length+1):=by omega
   have e2:¬(i+1=xs.length+1):=by omega
   have hle:i≤xs.length+1:=by omega
   have Pg:i+1≤xs.length+1:=by omega
   have C1:(H++[B.cells (aP enc (xs.take i++List.replicate (xs.length+1-i) zv))])[H.length]?=some (.cells (aP enc (xs.take i++List.replicate (xs.length+1-i) zv))):=aE rfl
   have ZS:(H++[B.cells (aP enc (xs.take i++List.replicate (xs.length+1-i) zv))])[bv]?=some (.cells (aP enc [v])):=by rw[aR lv,hv];simp[aP]
   have nN:=(gD hn ZS 0 1 1 0 (by simp)).1
   simp -implicitDefEqProofs only[Nat.zero_mul,List.drop_zero]at nN
   have C2:=(vW hn iA (ys:=[v]) (y:=.aC bv 0 1 n) (ly:=1) (len:=xs.length+1-i) C1 i 0 (by simp;omega) rfl (by rw[mi];simpa using nN) (by simp;omega)).1
   rw[mi]at C2
   have jc:(xs.take i++List.replicate (xs.length+1-i) zv).take i++[v]++(xs.take i++List.replicate (xs.length+1-i) zv).drop (i+[v].length)=xs.take i++v :: List.replicate (xs.length-i) zv:=by
    have t1:(xs.take i).length=i:=by simp;omega
    have t2:i+1-i=1:=by omega
    have t3:xs.length+1-i-1=xs.length-i:=by omega
    rw[List.take_append_of_le_length (by omega),List.take_of_length_le (by omega),List.drop_append,List.drop_eq_nil_of_le (by simp;omega),t1]
    simp[t2,t3]
   rw[jc,pS]at C2
   have ZT:(H++[B.cells (aP enc (xs.take i++v :: List.replicate (xs.length-i) zv))])[H.length]?=some (.cells (aP enc (xs.take i++v :: List.replicate (xs.length-i) zv))):=aE rfl
   have lP:(H++[B.cells (aP enc (xs.take i++v :: List.replicate (xs.length-i) zv))])[b]?=some (.cells (aP enc xs)):=by rw[aR lb,hb]
   have zl:=(gD hn lP i (xs.length-i) (xs.length-i) (xs.length-i) (by omega)).2
   have SP:((xs.drop i).take (xs.length-i))=xs.drop i:=List.take_of_length_le (by simp)
   rw[SP]at zl
   have Yr:min (xs.length-i) (xs.length+1-(i+1))=xs.length-i:=by omega
   have C3:=(vW hn iA (ys:=xs.drop i) (y:=.eH b (i*n) (xs.length-i) n (xs.length-i)) (ly:=xs.length-i) (len:=xs.length+1-(i+1)) ZT (i+1) 0 (by simp;omega) rfl (by rw[Yr];exact zl) (by simp)).1
   have lC:(xs.take i++v :: List.replicate (xs.length-i) zv).take (i+1)++xs.drop i++(xs.take i++v :: List.replicate (xs.length-i) zv).drop (i+1+(xs.drop i).length)=xs.take i++v :: xs.drop i:=by
    have t1:(xs.take i).length=i:=by simp;omega
    have t2:i+1-i=1:=by omega
    have d1:(xs.take i++v :: List.replicate (xs.length-i) zv).drop (i+1+(xs.drop i).length)=[]:=List.drop_eq_nil_of_le (by rw[List.length_append,t1];simp;omega)
    have d2:(xs.take i).take (i+1)=xs.take i:=List.take_of_length_le (by omega)
    rw[d1,List.take_append,d2,t1,t2]
    simp
   rw[lC,pS]at C3
   simp -implicitDefEqProofs only[uW,o1,reduceIte,q1,q2,q3,q4,q5,q6,q7,q8,q9,S1,aa,Nat.le_refl,hc,and_self,hi,ic,Uo,mc,w1,w2,w3,oB,Nat.zero_le,Nat.zero_mul,Nat.sub_zero,c0,ha,hle,Pg,e1,e2,C2,C3,or_true,if_true]
   exact⟨_,H.length,rfl,rfl,aE rfl,hH,⟨by simp,fun b' x hx _=>by rw[aR (aQ hx)];exact hx,fun H0 _ h=>h.app _⟩,.inl (Nat.le_refl _)⟩
  ·have Up:xs.length+1≤c:=by omega
   have Uq:¬c<xs.length+1:=oB
   have e1:¬(i=xs.length+1):=by omega
   have hle:i≤xs.length+1:=by omega
   have Pg:i+1≤xs.length+1:=by omega
   have c0:(0<c∨True)=True:=by simp
   have c1:i+1<c:=by omega
   have c2:i<c:=by omega
   have Ur:0<(aP enc xs).length:=by rw[dy hn];exact Nat.mul_pos (by omega) (by omega)
   have xh:Co H n (.aC bv 0 1 n) (.eH b ((i+1)*n) (xs.length+1-(i+1)) n (c-(i+1)))=some (.bool false,H):=by
    simp -implicitDefEqProofs only[Co,hv,hb,ne_eq,bF,not_false_eq_true,Ur,and_self,if_true]
   have zl:=(gD hn hb i (xs.length-i) (xs.length+1-i) (c-i) (by omega)).2
   have SP:((xs.drop i).take (xs.length-i))=xs.drop i:=List.take_of_length_le (by simp)
   rw[SP]at zl
   have Yr:min (xs.length+1-i) (xs.length+1-(i+1))=xs.length-i:=by omega
   have C2:=(vW hn iA (ys:=xs.drop i) (y:=.eH b (i*n) (xs.length+1-i) n (c-i)) (ly:=xs.length+1-i) (len:=xs.length+1-(i+1)) hb (i+1) (c-(i+1)) (by omega) rfl (by rw[Yr];exact zl) (by rw[Yr];simp)).2
   have dB:xs.take (i+1)++xs.drop i++xs.drop (i+1+(xs.drop i).length)=xs.take (i+1)++xs.drop i:=by
    have d1:xs.drop (i+1+(xs.drop i).length)=[]:=List.drop_eq_nil_of_le (by rw[List.length_drop];omega)
    rw[d1,List.append_nil]
   rw[dB]at C2
   have lP:(H.set b (.cells (aP enc (xs.take (i+1)++xs.drop i))))[b]?=some (.cells (aP enc (xs.take (i+1)++xs.drop i))):=bQ lb
   have ZS:(H.set b (.cells (aP enc (xs.take (i+1)++xs.drop i))))[bv]?=some (.cells (aP enc [v])):=by rw[bm (Ne.symm bF),hv];simp[aP]
   have nN:=(gD hn ZS 0 1 1 0 (by simp)).1
   simp -implicitDefEqProofs only[Nat.zero_mul,List.drop_zero]at nN
   have C3:=(vW hn iA (ys:=[v]) (y:=.aC bv 0 1 n) (ly:=1) (len:=xs.length+1-i) lP i (c-i) (by simp;omega) rfl (by rw[mi];simpa using nN) (by simp;omega)).2
   rw[mi]at C3
   have jc:(xs.take (i+1)++xs.drop i).take i++[v]++(xs.take (i+1)++xs.drop i).drop (i+[v].length)=xs.take i++v :: xs.drop i:=by
    have t1:(xs.take (i+1)).length=i+1:=by simp;omega
    rw[List.take_append_of_le_length (by omega),List.take_take,List.drop_append,List.drop_eq_nil_of_le (by simp;omega),t1]
    have t2:min i (i+1)=i:=by omega
    simp[t2]
   rw[jc,List.set_set]at C3
   simp -implicitDefEqProofs only[uW,o1,reduceIte,q1,q2,q3,q4,q5,q6,q7,q8,q9,S1,aa,Nat.le_refl,hc,and_self,hi,ic,Uo,mc,w1,w2,Up,Uq,Nat.zero_le,Nat.zero_mul,Nat.sub_zero,c0,c1,c2,true_or,xh,hle,Pg,e1,C2,C3,or_true,if_true]
   refine⟨_,b,rfl,rfl,bQ lb,K5,⟨by simp,fun b' x hx ZU=>?_,fun H0 h0 h=>h.set (Nat.le_trans h0 K5) _⟩,.inr ⟨_,_,_,rfl⟩⟩
   have:b≠b':=fun e=>ZU 0 xs.length n (by rw[e])
   rw[bm this];exact hx
end
end Go.Rmp
end

section
namespace Go.Rmp
def Np:List O→List Nat
 | []=>[]
 | o :: l=>match o.d with
  | some d=>d :: Np l
  | none=>Np l
def wr:C→List Nat
 | .skip=>[]
 | .ops l=>Np l
 | .seq a b=>wr a++wr b
 | .cond _ a b=>wr a++wr b
 | .block _ a=>wr a
 | .loop a=>wr a
 | .exit _=>[]
 | .ret=>[]
 | .cZ n _ _ _ _=>[n]
def Us:J→List Nat
 | .code c _=>wr c
 | .ops l _=>Np l
 | .call _ _=>[]
def Ut:J→ax
 | .code _ R=>R
 | .ops _ R=>R
 | .call _ _=>fun _=>cf
def Kp (j:J)(o:Out):Prop:=match j with
 | .call _ _=>True
 | j=>∀e R',o=.ex e R'→∀t,t∉Us j→R' t=Ut j t
theorem K7 {R:ax}{d:Option Nat}{v:T}{t:Nat}(h:∀x,d=some x→t≠x):bR R d v t=R t:=by
 cases d with
 | none=>rfl
 | some x=>simp[bR,pj,h x rfl]
theorem Gt {o:O}{l:List O}{t:Nat}(h:t∉Np (o :: l)):(∀x,o.d=some x→t≠x)∧t∉Np l:=by
 unfold Np at h
 cases e:o.d with
 | none=>rw[e]at h;exact⟨fun x hx=>(by cases hx),h⟩
 | some d=>rw[e]at h;simp only[List.mem_cons,not_or]at h;exact⟨fun x hx=>(by cases hx;exact h.1),h.2⟩
theorem mA {o:O}{l:List O}{R:ax}{v:T}{x:Out}(h:Kp (.ops l (bR R o.d v)) x):Kp (.ops (o :: l) R) x:=fun e R' he t ht=>by
 obtain⟨h1,h2⟩:=Gt ht
 rw[h e R' he t h2]
 exact K7 h1
theorem Gu {c:C}{R:ax}{e:Ex}{R':ax}(h:∀t,t∉wr c→R' t=R t):Kp (.code c R) (.ex e R'):=fun e' R2 he t ht=>by
 injection he with h1 h2
 rw[←h2];exact h t ht
theorem ZV {l:List O}{R:ax}{e:Ex}{R':ax}(h:∀t,t∉Np l→R' t=R t):Kp (.ops l R) (.ex e R'):=fun e' R2 he t ht=>by
 injection he with h1 h2
 rw[←h2];exact h t ht
theorem W.eJ {E:Env}{j:J}{H:af}{Q:Out→af→Prop}(h:W E j H Q):W E j H (fun o H'=>Q o H'∧Kp j o):=by
 induction h with
 | skip h=>exact .skip ⟨h,Gu fun _ _=>rfl⟩
 | exit h=>exact .exit ⟨h,Gu fun _ _=>rfl⟩
 | ret h=>exact .ret ⟨h,Gu fun _ _=>rfl⟩
 | Sq _ ih=>exact .Sq (ih.use fun o H' h=>⟨h.1,h.2⟩)
 | @seq a b R H Q M h1 h2 h3 xk oj =>
  refine .seq _ xk (fun R' H' hm=>(oj R' H' hm.1).use fun o H2 h=>⟨h.1,fun e R2 he t ht=>?_⟩) (fun o H' hm hn=>⟨h3 o H' hm.1 hn,fun e R2 he t ht=>?_⟩)
  ·have KC:t∉wr a∧t∉wr b:=by simpa[Us,wr]using ht
   rw[h.2 e R2 he t KC.2];exact hm.2 _ _ rfl t KC.1
  ·have KC:t∉wr a∧t∉wr b:=by simpa[Us,wr]using ht
   exact hm.2 e R2 he t KC.1
 | @cond x a b R H Q t hx h ih =>
  refine .cond t hx (ih.use fun o H' h=>⟨h.1,fun e R2 he t' ht=>?_⟩)
  have KC:t'∉wr a∧t'∉wr b:=by simpa[Us,wr]using ht
  refine h.2 e R2 he t' ?_
  cases t
  ·exact KC.2
  ·exact KC.1
 | block M h1 h2 h3 ih =>
  exact .block _ ih (fun R' H' hm=>⟨h2 R' H' hm.1,Gu fun t ht=>hm.2 _ _ rfl t ht⟩) (fun o H' hm hn=>⟨h3 o H' hm.1 hn,fun e R2 he t ht=>hm.2 e R2 he t ht⟩)
 | loop M h1 h2 h3 xk oj =>
  refine .loop _ xk (fun R' H' hm=>(oj R' H' hm.1).use fun o H2 h=>⟨h.1,fun e R2 he t ht=>?_⟩) (fun o H' hm hn=>⟨h3 o H' hm.1 hn,fun e R2 he t ht=>hm.2 e R2 he t ht⟩)
  rw[h.2 e R2 he t ht];exact hm.2 _ _ rfl t ht
 | nil h=>exact .nil ⟨h,ZV fun _ _=>rfl⟩
 | no hg _ ih=>exact .no hg (ih.use fun o H' h=>⟨h.1,mA h.2⟩)
 | op hg he hs _ ih=>exact .op hg he hs (ih.use fun o H' h=>⟨h.1,mA (o:=⟨_,.b _,_,_⟩) h.2⟩)
 | call M hg h1 hs _ _ oj=>exact .call M hg h1 hs (fun v H' hm=>(oj v H' hm).use fun o H' h=>⟨h.1,mA (o:=⟨_,.call _ _,_,_⟩) h.2⟩)
 | bJ M hg hf h1 hs _ _ oj=>exact .bJ M hg hf h1 hs (fun v H' hm=>(oj v H' hm).use fun o H' h=>⟨h.1,mA (o:=⟨_,.bJ _ _,_,_⟩) h.2⟩)
 | od M1 M hg hf hb hn h1 DK h2 DL AV _ DM _ _ _ SJ SL=>exact .od M1 M hg hf hb hn h1 DK h2 DL AV (fun R' H' hm=>(SJ R' H' hm).use fun o H' h=>⟨h.1,mA (o:=⟨_,.bJ _ _,_,_⟩) h.2⟩) DM (fun e R' H' hm he=>(SL e R' H' hm he).use fun o H' h=>⟨h.1,mA (o:=⟨_,.bJ _ _,_,_⟩) h.2⟩)
 | Cq hs h hx hy hc ih=>exact .Cq hs (fun b=>(ih b).use fun o H' h=>⟨h.1,mA (o:=⟨_,.b _,_,_⟩) h.2⟩) hx hy hc
 | @cZ n x ps cj body R H Q f cs M hx h1 h2 _ =>
  refine .cZ M hx h1 (fun v H' hm=>let ⟨st,pe,a,b,c,d⟩:=h2 v H' hm;⟨st,pe,a,b,c,d,Gu fun t ht=>?_⟩)
  have ht:t≠n:=by simpa[Us,wr]using ht
  simp[pj,ht,Ut]
 | Sr M hf hn h1 h2 _=>exact .Sr M hf hn h1 (fun o H' hm=>let ⟨R',bs,a,b,c,d,v,e,f⟩:=h2 o H' hm;⟨R',bs,a,b,c,d,v,e,f,trivial⟩)
 | fn M hf hr hn h1 h2 _=>exact .fn M hf hr hn h1 (fun o H' hm=>let ⟨R',a,v,b,c⟩:=h2 o H' hm;⟨R',a,v,b,c,trivial⟩)
 | Cr i M hi h1 h2 _=>exact .Cr i M hi h1 (fun v H' hm=>⟨h2 v H' hm,trivial⟩)
 | qN M h1 h2 _=>exact .qN M h1 (fun o H' hm=>let ⟨v,b,cs,a,c,d,e⟩:=h2 o H' hm;⟨v,b,cs,a,c,d,e,trivial⟩)
 | qM hg hx hb hs _ ih=>exact .qM hg hx hb hs fun t H' hm=>(ih t H' hm).use fun o H' h=>⟨h.1,mA (o:=⟨_,.b _,_,_⟩) h.2⟩
 | shr M h1 h2 _=>exact .shr M h1 (fun o H' hm=>let ⟨v,b,cs,k,a,c,d,e⟩:=h2 o H' hm;⟨v,b,cs,k,a,c,d,e,trivial⟩)
 | Cs i hi hb _ ih=>exact .Cs i hi hb (ih.use fun o H' h=>⟨h.1,trivial⟩)
 | pr h=>exact .pr (E.mono _ _ _ _ _ h fun t H' hm=>⟨hm,trivial⟩)
def Nq:List (Nat×T)→ax→ax
 | [],R=>R
 | (t,v) :: l,R=>pj (Nq l R) t v
theorem ai (R:ax):Nq [] R=R:=rfl
theorem ah (t:Nat)(v:T)(l:List (Nat×T))(R:ax):Nq ((t,v) :: l) R=pj (Nq l R) t v:=rfl
def qw:List (Nat×T)→ax→Prop
 | [],_=>True
 | (t,v) :: l,R=>R t=v∧qw l R
def ZW (vs:List (Nat×T))(w:List Nat):Bool:=vs.all fun p=>!w.elem p.1
theorem Ph {R:ax}{t:Nat}{v:T}(h:R t=v):pj R t v=R:=by
 funext x;by_cases e:x=t
 ·subst e;simp[pj,h]
 ·simp[pj,e]
theorem pV:∀(vs:List (Nat×T)) (R:ax),qw vs R→Nq vs R=R
 | [],_,_=>rfl
 | (t,v) :: l,R,h=>by rw[ah,pV l R h.2,Ph h.1]
theorem sy:∀(vs:List (Nat×T)) (R R':ax),qw vs R→(∀p∈vs,R' p.1=R p.1)→qw vs R'
 | [],_,_,_,_=>trivial
 | (t,v) :: l,R,R',h,k=>⟨(k (t,v) List.mem_cons_self).trans h.1,sy l R R' h.2 fun p hp=>k p (List.mem_cons_of_mem _ hp)⟩
theorem BF {vs:List (Nat×T)}{w:List Nat}(h:ZW vs w=true):∀p∈vs,p.1∉w:=fun p hp hw=>by
 have:=(List.all_eq_true.1 h) p hp
 simp[hw]at this
theorem W.jC {E:Env}{α:Type}{a:C}{R:ax}{H:af}{Q:Out→af→Prop}(vs:List (Nat×T))(I:α→ax→af→Prop)(μ:α→Nat)(x:α)
  (h0:I x R H) (step:∀x R H,I x R H→fJ E a (Nq vs R) H (oN (fun R' H'=>∃y,μ y<μ x∧I y R' H') Q))
  (hv:qw vs R:=by repeat' (first|exact trivial|refine And.intro rfl ?_)) (hw:ZW vs (wr a)=true:=by rfl):W E (.code (.loop a) R) H Q:=by
 have key:∀(n:Nat) (x:α) (R:ax) (H:af),μ x=n→I x R H→qw vs R→W E (.code (.loop a) R) H Q:=by
  intro n
  induction n using Nat.strongRecOn with
  | _ n ih =>
   intro x R H hn hI xA
   have hs:=step x R H hI
   rw[pV vs R xA]at hs
   refine .loop _ (ja a R H _ hs).eJ (fun R' H' hm=>?_) (fun o H' hm fI=>?_)
   ·obtain⟨⟨y,hy,ZP⟩,hk⟩:=hm
    exact ih (μ y) (hn▸hy) y R' H' rfl ZP (sy vs R R' xA fun p hp=>hk _ _ rfl p.1 (BF hw p hp))
   ·cases o with
    | ex e R'=>cases e with
     | normal=>exact absurd rfl (fI R')
     | exit id=>exact hm.1
     | ret=>exact hm.1
    | val v=>exact hm.1
 exact key _ x R H rfl h0 hv
theorem W.dV {E:Env}{α:Type}{a:C}{R:ax}{H:af}{Q:Out→af→Prop}(id:Nat)(vs:List (Nat×T))(I:α→ax→af→Prop)(μ:α→Nat)(x:α)(P:ax→af→Prop)
  (h0:I x R H) (step:∀x R H,I x R H→fJ E a (Nq vs R) H (oN (fun R' H'=>∃y,μ y<μ x∧I y R' H') (cC id P Q))) (rest:∀R H,P R H→Q (.ex (.exit id) (Nq vs R)) H)
  (hv:qw vs R:=by repeat' (first|exact trivial|refine And.intro rfl ?_)) (hw:ZW vs (wr a)=true:=by rfl):W E (.code (.loop a) R) H Q:=by
 have h:=(W.jC (Q:=cC id P Q) vs I μ x h0 step hv hw).eJ
 refine h.use fun o H' hm=>?_
 cases o with
 | ex e R'=>cases e with
  | exit i =>
   obtain⟨h1,hk⟩:=hm
   simp only[cC]at h1
   split at h1
   ·rename_i e;subst e
    have xA:qw vs R':=sy vs R R' hv fun p hp=>hk _ _ rfl p.1 (BF hw p hp)
    have:=rest _ _ h1
    rwa[pV vs R' xA]at this
   ·exact h1
  | normal=>exact hm.1
  | ret=>exact hm.1
 | val v=>exact hm.1
def tb:T→Option Nat
 | .aC c _ _ _=>some c
 | _=>none
end Go.Rmp
end

section
namespace Go.Proofs.YtdcpehdijdllpaaGreat.Ir
open Go.Rmp
set_option maxRecDepth 100000
set_option maxHeartbeats 0
abbrev op (d:Nat)(b:Bo):O:=⟨some d,.b b,none,[]⟩
abbrev ef (b:Bo):O:=⟨none,.b b,none,[]⟩
abbrev cl (d f:Nat)(az:List X):O:=⟨some d,.call f az,none,[]⟩
abbrev sq (a b:C):C:=.seq a b
abbrev mv (d t:Nat):O:=⟨some d,.b (.ar (.r t)),none,[]⟩
abbrev mt (d t g:Nat):O:=⟨some d,.b (.ar (.r t)),some (g,true),[]⟩
abbrev mf (d t g:Nat):O:=⟨some d,.b (.ar (.r t)),some (g,false),[]⟩
abbrev gt (d g:Nat)(b:Bo):O:=⟨some d,.b b,some (g,true),[]⟩
abbrev gf (d g:Nat)(b:Bo):O:=⟨some d,.b b,some (g,false),[]⟩
abbrev l1 (d a:Nat):O:=⟨some d,.b (.ld 1 false (.r a)),none,[]⟩
abbrev ln (d n a:Nat):O:=⟨some d,.b (.ld n true (.r a)),none,[]⟩
abbrev ia (d n a b:Nat):O:=⟨some d,.b (.eF n (.r a) (.r b)),none,[]⟩
abbrev fa (d n a:Nat):O:=⟨some d,.b (.fL n (.r a)),none,[]⟩
abbrev se (n a b:Nat):O:=⟨none,.b (.st n (.r a) (.r b)),none,[]⟩
abbrev nc (d a:Nat):O:=⟨some d,.b (.lS (.r a)),none,[]⟩
abbrev b2 (d:Nat)(o:BinOp)(a b:Nat):O:=⟨some d,.b (.bin o (.r a) (.r b)),none,[]⟩
abbrev xt (d n a:Nat):O:=⟨some d,.b (.ext n (.r a)),none,[]⟩
abbrev dG (d a:Nat):O:=⟨some d,.b (.len .sl (.r a)),none,[]⟩
abbrev so (l:List O)(c:C):C:=.seq (.ops l) c
abbrev cx (t i:Nat):C:=.cond (.r t) .skip (.exit i)
def an4:An:=⟨[(5,14)],[]⟩
def ZX:Go.Rmp.Fn:=⟨37,2,[.t 4],so [op 4 (.ar (.c (.bool false)))]<|so [cl 8 8 [],mv 5 8]<|sq (so [mv 9 5,op 10 (.un .not (.r 9))]<|.cond (.r 10) (so [op 4 (.ar (.c (.bool false)))]<|.ret) (.skip))<|so [mv 11 0,cl 12 15 [.r 11],cl 13 14 [.r 12],mv 6 13]<|so [mv 14 0,cl 15 15 [.r 14],mv 16 6,op 17 (.bin .shr (.r 16) (.c (.int .u64 24))),op 18 (.fG .u8 (.r 17)),mv 19 6,op 20 (.bin .shr (.r 19) (.c (.int .u64 16))),op 21 (.fG .u8 (.r 20)),mv 22 6,op 23 (.bin .shr (.r 22) (.c (.int .u64 8))),op 24 (.fG .u8 (.r 23)),mv 25 6,op 26 (.fG .u8 (.r 25)),op 27 (.mJ 4 [.int .u8 0] [(0,(.r 18)),(1,(.r 21)),(2,(.r 24)),(3,(.r 26))]),op 28 (.app 1 1 true (.r 15) (.r 27)),mv 7 28]<|so [mv 29 0,mv 30 1,cl 31 16 [.r 29,.r 30],mv 32 31,mt 33 7 32,mt 34 1 32,⟨(some 35),.call 16 [.r 33,.r 34],(some (32,true)),[]⟩,op 36 (.pick (.r 32) (.r 35) (.c (.bool false))),mv 4 36]<|.ret⟩
def an8:An:=⟨[],[(6,[(0,true),(1,true),(2,true),(3,true),(4,true),(5,true),(6,true),(7,true),(8,true),(9,true),(10,true),(11,true),(12,true),(13,true),(14,true),(15,true),(16,true),(17,true),(18,true),(19,true),(20,true),(22,true),(23,true),(21,false),(24,false),(25,false),(26,true),(27,true)])]⟩
def ZY:Go.Rmp.Fn:=⟨141,0,[.t 0],so [op 0 (.ar (.c (.bool false)))]<|so [cl 14 9 [(.c (.sl .nil []))],mv 1 14]<|so [cl 15 26 [],op 16 (.build [.str ⟨#[]⟩,.str ⟨#[]⟩] [(0,1,(.c (.str ⟨#[97]⟩))),(1,1,(.c (.str ⟨#[51]⟩)))]),op 17 (.mJ 1 [.str ⟨#[]⟩,.str ⟨#[]⟩] [(0,(.r 16))]),op 18 (.mJ 1 [.str ⟨#[]⟩] [(0,(.c (.str ⟨#[97]⟩)))]),op 19 (.build [.int .i64 0,.int .u64 0,.str ⟨#[]⟩,.sl .nil [],.sl .nil [],.int .i64 0] [(0,1,(.c (.int .i64 1))),(1,1,(.c (.int .u64 131072))),(3,1,(.r 17)),(4,1,(.r 18))]),op 20 (.build [.int .i64 0,.int .u64 0,.str ⟨#[]⟩,.sl .nil [],.sl .nil [],.int .i64 0] [(0,1,(.c (.int .i64 2))),(1,1,(.c (.int .u64 131072)))]),op 21 (.mJ 2 [.int .i64 0,.int .u64 0,.str ⟨#[]⟩,.sl .nil [],.sl .nil [],.int .i64 0] [(0,(.r 19)),(1,(.r 20))]),op 22 (.app 6 88 false (.r 15) (.r 21)),cl 23 9 [.r 22],mv 2 23]<|sq (so [mv 24 1,op 25 (.nH false .ptr (.r 24) (.c .br)),mv 26 25,mf 27 2 26,gf 28 26 (.nH false .ptr (.r 27) (.c .br)),op 29 (.pick (.r 26) (.c (.bool true)) (.r 28))]<|.cond (.r 29) (so [op 0 (.ar (.c (.bool false)))]<|.ret) (.skip))<|so [mv 31 1,cl 32 10 [(.c (.int .i64 1)),.r 31],mv 30 32,xt 33 0 30,xt 34 1 30,mv 3 33,mv 4 34]<|sq (so [mv 35 4,op 36 (.bin .neq (.r 35) (.c (.int .i64 0))),mv 37 36,mf 38 3 37,gf 39 37 (.len .sl (.r 38)),gf 40 37 (.bin .neq (.r 39) (.c (.int .i64 25))),op 41 (.pick (.r 37) (.c (.bool true)) (.r 40)),mv 42 41,mf 43 3 42,gf 44 42 (.eF 1 (.r 43) (.c (.int .i64 0))),gf 45 42 (.ld 1 false (.r 44)),gf 46 42 (.bin .neq (.r 45) (.c (.int .u8 114))),op 47 (.pick (.r 42) (.c (.bool true)) (.r 46)),mv 48 47,mf 49 3 48,gf 50 48 (.eF 1 (.r 49) (.c (.int .i64 12))),gf 51 48 (.ld 1 false (.r 50)),gf 52 48 (.bin .neq (.r 51) (.c (.int .u8 1))),op 53 (.pick (.r 48) (.c (.bool true)) (.r 52)),mv 54 53,mf 55 3 54,mf 57 3 54,gf 58 54 (.gH 1 (.r 57) none (some (.c (.int .i64 21))) none),⟨(some 56),.call 27 [.r 55],(some (54,false)),[]⟩,⟨(some 59),.call 15 [.r 58],(some (54,false)),[]⟩,⟨(some 60),.call 14 [.r 59],(some (54,false)),[]⟩,gf 61 54 (.bin .neq (.r 56) (.r 60)),op 62 (.pick (.r 54) (.c (.bool true)) (.r 61))]<|.cond (.r 62) (so [op 0 (.ar (.c (.bool false)))]<|.ret) (.skip))<|so [mv 64 2,cl 65 10 [(.c (.int .i64 7)),.r 64],mv 63 65,xt 66 0 63,xt 67 1 63,mv 5 66,mv 6 67]<|so [mv 69 5,cl 70 15 [.r 69],cl 71 17 [.r 70,(.c (.int .i64 9))],mv 68 71,xt 72 0 68,xt 73 1 68,xt 74 2 68,mv 7 72,mv 8 73,mv 9 74]<|sq (so [mv 75 6,op 76 (.bin .neq (.r 75) (.c (.int .i64 0))),mv 77 76,mf 78 9 77,gf 79 77 (.bin .neq (.r 78) (.c (.int .i64 0))),op 80 (.pick (.r 77) (.c (.bool true)) (.r 79)),mv 81 80,mf 82 8 81,gf 83 81 (.nH false .ptr (.r 82) (.c .br)),op 84 (.pick (.r 81) (.c (.bool true)) (.r 83)),mv 85 84,mf 86 7 85,gf 87 85 (.bin .neq (.r 86) (.c (.int .i64 7))),op 88 (.pick (.r 85) (.c (.bool true)) (.r 87))]<|.cond (.r 88) (so [op 0 (.ar (.c (.bool false)))]<|.ret) (.skip))<|so [mv 89 8,cl 90 18 [.r 89],mv 10 90]<|so [mv 92 5,mv 93 5,dG 94 93,op 95 (.bin .sub (.r 94) (.c (.int .i64 1))),op 96 (.gH 1 (.r 92) none (some (.r 95)) none),cl 97 15 [.r 96],cl 98 17 [.r 97,(.c (.int .i64 (-1)))],mv 91 98,xt 99 0 91,xt 100 1 91,xt 101 2 91,mv 11 99,mv 12 100,mv 13 101]<|so [mv 102 10,dG 103 102,op 104 (.bin .eql (.r 103) (.c (.int .i64 3))),mv 105 104,mt 106 10 105,gt 107 105 (.eF 5 (.r 106) (.c (.int .i64 0))),gt 108 105 (.fL 4 (.r 107)),gt 109 105 (.ld 1 false (.r 108)),gt 110 105 (.bin .eql (.r 109) (.c (.int .i64 9))),op 111 (.pick (.r 105) (.r 110) (.c (.bool false))),mv 112 111,mt 113 10 112,gt 114 112 (.eF 5 (.r 113) (.c (.int .i64 1))),gt 115 112 (.fL 4 (.r 114)),gt 116 112 (.ld 1 false (.r 115)),gt 117 112 (.bin .eql (.r 116) (.c (.int .i64 (-1)))),op 118 (.pick (.r 112) (.r 117) (.c (.bool false))),mv 119 118,mt 120 10 119,gt 121 119 (.eF 5 (.r 120) (.c (.int .i64 0))),gt 122 119 (.fL 0 (.r 121)),gt 123 119 (.fL 2 (.r 122)),gt 124 119 (.ld 1 false (.r 123)),gt 125 119 (.bin .eql (.r 124) (.c (.str ⟨#[49]⟩))),op 126 (.pick (.r 119) (.r 125) (.c (.bool false))),mv 127 126,mt 128 8 127,⟨(some 129),.call 20 [.r 128],(some (127,true)),[]⟩,gt 130 127 (.len .sl (.r 129)),gt 131 127 (.bin .eql (.r 130) (.c (.int .i64 2))),op 132 (.pick (.r 127) (.r 131) (.c (.bool false))),mv 133 132,mt 134 12 133,gt 135 133 (.nH false .ptr (.r 134) (.c .br)),op 136 (.pick (.r 133) (.r 135) (.c (.bool false))),mv 137 136,mt 138 13 137,gt 139 137 (.bin .eql (.r 138) (.c (.int .i64 1))),op 140 (.pick (.r 137) (.r 139) (.c (.bool false))),mv 0 140]<|.ret⟩
def an9:An:=⟨[],[(8,[(0,true),(1,true),(2,true),(3,true),(4,true),(5,true),(7,true),(8,true),(9,true),(11,true),(12,true),(6,false),(10,false),(13,false)])]⟩
def ZZ:Go.Rmp.Fn:=⟨56,1,[.t 2],so [op 2 (.ar (.c .br))]<|so [cl 6 28 [],mv 3 6]<|sq (so [op 4 (.ar (.c (.int .i64 0)))]<|.block 0 (.loop (sq (so [mv 7 4,mv 8 0,dG 9 8,b2 10 .lss 7 9,mv 11 10,mt 12 3 11,gt 13 11 (.nH true .ptr (.r 12) (.c .br)),op 14 (.pick (.r 11) (.r 13) (.c (.bool false)))]<|cx 14 0)<|sq (.block 1 (so [mv 17 0,mv 18 4,ia 19 6 17 18,ln 20 6 19,op 5 (.alloc [.int .i64 0,.int .u64 0,.str ⟨#[]⟩,.sl .nil [],.sl .nil [],.int .i64 0]),se 6 5 20]<|so [fa 21 0 5,l1 22 21]<|.block 2 (so [op 24 (.bin .eql (.r 22) (.c (.int .i64 1))),mv 23 24]<|.cond (.r 23) (.ops [mv 25 3,fa 26 1 5,l1 27 26,op 28 (.mJ 0 [.str ⟨#[]⟩,.str ⟨#[]⟩] []),fa 29 3 5,l1 30 29,op 32 (.mJ 0 [.str ⟨#[]⟩] []),fa 33 4 5,l1 34 33,fa 36 5 5,l1 37 36,⟨(some 31),.b (.app 2 32 false (.r 28) (.r 30)),none,[⟨27,.ld 1 false (.r 26),none⟩,⟨34,.ld 1 false (.r 33),none⟩,⟨37,.ld 1 false (.r 36),none⟩]⟩,⟨(some 35),.b (.app 1 16 false (.r 32) (.r 34)),none,[⟨27,.ld 1 false (.r 26),none⟩,⟨37,.ld 1 false (.r 36),none⟩]⟩,cl 38 23 [.r 25,.r 27,.r 31,.r 35,.r 37]]) (so [op 40 (.bin .eql (.r 22) (.c (.int .i64 2))),mv 39 40]<|.cond (.r 39) (.ops [mv 41 3,fa 42 1 5,l1 43 42,fa 44 5 5,l1 45 44,cl 46 24 [.r 41,.r 43,.r 45]]) (so [op 48 (.bin .eql (.r 22) (.c (.int .i64 3))),mv 47 48]<|.cond (.r 47) (.ops [mv 49 3,fa 50 2 5,l1 51 50,fa 52 1 5,l1 53 52,cl 54 25 [.r 49,.r 51,.r 53]]) (.skip))))))<|.ops [mv 15 4,op 16 (.bin .add (.r 15) (.c (.int .i64 1))),mv 4 16])))<|so [mv 55 3,mv 2 55]<|.ret⟩
def Z0:An:=⟨[],[]⟩
def Pj:Go.Rmp.Fn:=⟨98,2,[.t 4,.t 5],so [op 4 (.ar (.c (.sl .nil []))),op 5 (.ar (.c (.int .i64 0)))]<|sq (so [mv 15 1,op 16 (.nH false .ptr (.r 15) (.c .br)),mv 17 16,mf 18 0 17,gf 19 17 (.bin .lss (.r 18) (.c (.int .i64 1))),op 20 (.pick (.r 17) (.c (.bool true)) (.r 19))]<|.cond (.r 20) (so [op 4 (.ar (.c (.sl .nil []))),op 5 (.ar (.c (.int .i64 1)))]<|.ret) (.skip))<|so [cl 21 29 [(.c (.int .i64 2147483647))],mv 6 21]<|so [mv 22 6,cl 23 30 [.r 22,(.c (.int .u32 1918987632))]]<|so [mv 24 6,cl 25 31 [.r 24,(.c (.int .u8 1))]]<|so [mv 26 6,mv 27 0,op 28 (.fG .u64 (.r 27)),cl 29 32 [.r 26,.r 28]]<|so [mv 30 1,cl 31 20 [.r 30],mv 7 31]<|so [mv 32 6,mv 33 7,dG 34 33,op 35 (.fG .u32 (.r 34)),cl 36 30 [.r 32,.r 35]]<|sq (so [mv 37 7,dG 38 37,op 39 (.ar (.c (.int .i64 0)))]<|.block 0 (.loop (so [b2 40 .lss 39 38]<|sq (cx 40 0)<|sq (.block 1 (so [ia 41 2 37 39,ln 42 2 41,op 9 (.alloc [.str ⟨#[]⟩,.int .u64 0]),se 2 9 42]<|so [mv 43 6,fa 44 0 9,l1 45 44,cl 46 33 [.r 43,.r 45]]<|.ops [mv 47 6,fa 48 1 9,l1 49 48,cl 50 32 [.r 47,.r 49]]))<|.ops [op 51 (.bin .add (.r 39) (.c (.int .i64 1))),mv 39 51])))<|so [mv 52 1,cl 53 18 [.r 52],mv 10 53]<|so [mv 54 6,mv 55 10,dG 56 55,op 57 (.fG .u32 (.r 56)),cl 58 30 [.r 54,.r 57]]<|sq (so [mv 59 10,dG 60 59,op 61 (.ar (.c (.int .i64 0)))]<|.block 2 (.loop (so [b2 62 .lss 61 60]<|sq (cx 62 2)<|sq (.block 3 (so [ia 63 5 59 61,ln 64 5 63,op 12 (.alloc [.str ⟨#[]⟩,.int .u64 0,.str ⟨#[]⟩,.sl .nil [],.int .i64 0]),se 5 12 64]<|so [mv 65 6,fa 66 0 12,fa 67 0 66,l1 68 67,cl 69 33 [.r 65,.r 68]]<|so [mv 70 6,fa 71 0 12,fa 72 1 71,l1 73 72,cl 74 32 [.r 70,.r 73]]<|so [mv 75 6,fa 76 0 12,fa 77 2 76,l1 78 77,cl 79 33 [.r 75,.r 78]]<|.ops [mv 80 6,fa 81 0 12,fa 82 3 81,l1 83 82,cl 84 34 [.r 80,.r 83]]))<|.ops [op 85 (.bin .add (.r 61) (.c (.int .i64 1))),mv 61 85])))<|so [mv 87 6,cl 88 35 [.r 87],mv 86 88,xt 89 0 86,xt 90 1 86,mv 13 89,mv 14 90]<|sq (so [mv 91 14,op 92 (.bin .neq (.r 91) (.c (.int .i64 0)))]<|.cond (.r 92) (so [mv 93 14,op 4 (.ar (.c (.sl .nil []))),mv 5 93]<|.ret) (.skip))<|so [mv 94 13,mv 95 13,cl 96 36 [.r 95],op 97 (.app 1 1 false (.r 94) (.r 96)),mv 4 97,op 5 (.ar (.c (.int .i64 0)))]<|.ret⟩
def Z1:An:=⟨[],[]⟩
def K8:Go.Rmp.Fn:=⟨106,2,[.t 4,.t 5],so [op 4 (.ar (.c (.sl .nil []))),op 5 (.ar (.c (.int .i64 0)))]<|sq (so [mv 13 1,op 14 (.nH false .ptr (.r 13) (.c .br)),mv 15 14,mf 16 0 15,gf 17 15 (.bin .lss (.r 16) (.c (.int .i64 1))),op 18 (.pick (.r 15) (.c (.bool true)) (.r 17))]<|.cond (.r 18) (so [op 4 (.ar (.c (.sl .nil []))),op 5 (.ar (.c (.int .i64 1)))]<|.ret) (.skip))<|so [op 19 (.mJ 5 [.int .u8 0] [(0,(.c (.int .u8 114))),(1,(.c (.int .u8 97))),(2,(.c (.int .u8 109))),(3,(.c (.int .u8 112))),(4,(.c (.int .u8 1)))]),mv 6 19]<|so [mv 20 6,mv 21 0,op 22 (.fG .u64 (.r 21)),cl 23 37 [.r 20,.r 22,(.c (.int .i64 8))],mv 6 23]<|so [mv 24 1,cl 25 38 [.r 24],mv 7 25]<|so [mv 26 6,mv 27 7,dG 28 27,op 29 (.fG .u64 (.r 28)),cl 30 37 [.r 26,.r 29,(.c (.int .i64 4))],mv 6 30]<|sq (so [op 8 (.ar (.c (.int .i64 0)))]<|.block 0 (.loop (sq (so [mv 31 8,mv 32 7,dG 33 32,b2 34 .lss 31 33]<|cx 34 0)<|sq (.block 1 (so [mv 37 6,mv 38 7,mv 39 8,ia 40 2 38 39,fa 41 0 40,l1 42 41,cl 43 39 [.r 37,.r 42],mv 6 43]<|.ops [mv 44 6,mv 45 7,mv 46 8,ia 47 2 45 46,fa 48 1 47,l1 49 48,cl 50 37 [.r 44,.r 49,(.c (.int .i64 8))],mv 6 50]))<|.ops [mv 35 8,op 36 (.bin .add (.r 35) (.c (.int .i64 1))),mv 8 36])))<|so [mv 51 1,cl 52 40 [.r 51],mv 9 52]<|so [mv 53 6,mv 54 9,dG 55 54,op 56 (.fG .u64 (.r 55)),cl 57 37 [.r 53,.r 56,(.c (.int .i64 4))],mv 6 57]<|sq (so [op 10 (.ar (.c (.int .i64 0)))]<|.block 2 (.loop (sq (so [mv 58 10,mv 59 9,dG 60 59,b2 61 .lss 58 60]<|cx 61 2)<|sq (.block 3 (so [mv 64 9,mv 65 10,ia 66 5 64 65,fa 67 0 66,ln 68 4 67,op 11 (.alloc [.str ⟨#[]⟩,.int .u64 0,.str ⟨#[]⟩,.sl .nil []]),se 4 11 68]<|so [mv 69 6,fa 70 0 11,l1 71 70,cl 72 39 [.r 69,.r 71],mv 6 72]<|so [mv 73 6,fa 74 1 11,l1 75 74,cl 76 37 [.r 73,.r 75,(.c (.int .i64 8))],mv 6 76]<|so [mv 77 6,fa 78 2 11,l1 79 78,cl 80 39 [.r 77,.r 79],mv 6 80]<|so [mv 81 6,fa 82 3 11,l1 83 82,dG 84 83,op 85 (.fG .u64 (.r 84)),cl 86 37 [.r 81,.r 85,(.c (.int .i64 4))],mv 6 86]<|so [op 12 (.ar (.c (.int .i64 0)))]<|.block 4 (.loop (sq (so [mv 87 12,fa 88 3 11,l1 89 88,dG 90 89,b2 91 .lss 87 90]<|cx 91 4)<|sq (.block 5 (.ops [mv 94 6,fa 95 3 11,l1 96 95,mv 97 12,ia 98 1 96 97,l1 99 98,cl 100 39 [.r 94,.r 99],mv 6 100]))<|.ops [mv 92 12,op 93 (.bin .add (.r 92) (.c (.int .i64 1))),mv 12 93]))))<|.ops [mv 62 10,op 63 (.bin .add (.r 62) (.c (.int .i64 1))),mv 10 63])))<|so [mv 101 6,mv 102 6,cl 103 41 [.r 102],op 104 (.fG .u64 (.r 103)),cl 105 37 [.r 101,.r 104,(.c (.int .i64 4))],mv 4 105,op 5 (.ar (.c (.int .i64 0)))]<|.ret⟩
def Z2:An:=⟨[],[]⟩
def Pk:Go.Rmp.Fn:=⟨5,1,[.t 2],so [op 2 (.ar (.c (.int .u32 0)))]<|so [mv 3 0,cl 4 46 [(.c (.int .u32 0)),.r 3],mv 2 4]<|.ret⟩
def Z3:An:=⟨[(1,0),(1,2)],[]⟩
def Pl:Go.Rmp.Fn:=⟨6,1,[.t 2],so [op 2 (.ar (.c (.sl .nil [])))]<|so [op 3 (.Sp 0 [.int .u8 0] []),mv 4 0,op 5 (.app 1 1 true (.r 3) (.r 4)),mv 2 5]<|.ret⟩
def Z4:An:=⟨[],[]⟩
def Pm:Go.Rmp.Fn:=⟨57,2,[.t 4],so [op 4 (.ar (.c (.bool false)))]<|so [mv 12 0,cl 13 15 [.r 12],mv 14 1,cl 15 17 [.r 13,.r 14],mv 11 15,xt 16 0 11,xt 17 1 11,xt 18 2 11,mv 5 16,mv 6 17,mv 7 18]<|so [mv 20 0,mv 21 1,cl 22 47 [.r 20,.r 21],mv 19 22,xt 23 0 19,xt 24 1 19,xt 25 2 19,mv 8 23,mv 9 24,mv 10 25]<|sq (so [mv 26 7,mv 27 10,b2 28 .neq 26 27,mv 29 28,mf 30 5 29,mf 31 8 29,gf 32 29 (.bin .neq (.r 30) (.r 31)),op 33 (.pick (.r 29) (.c (.bool true)) (.r 32)),mv 34 33,mf 35 6 34,gf 36 34 (.nH false .ptr (.r 35) (.c .br)),mf 37 9 34,gf 38 34 (.nH false .ptr (.r 37) (.c .br)),gf 39 34 (.beq true (.r 36) (.r 38)),op 40 (.pick (.r 34) (.c (.bool true)) (.r 39))]<|.cond (.r 40) (so [op 4 (.ar (.c (.bool false)))]<|.ret) (.skip))<|so [mv 41 6,op 42 (.nH false .ptr (.r 41) (.c .br)),mv 43 42,mf 44 6 43,⟨(some 45),.call 18 [.r 44],(some (43,false)),[]⟩,mf 46 9 43,⟨(some 47),.call 40 [.r 46],(some (43,false)),[]⟩,⟨(some 48),.call 19 [.r 45,.r 47,(.c (.bool true))],(some (43,false)),[]⟩,mf 49 48 43,mt 50 6 49,⟨(some 51),.call 20 [.r 50],(some (49,true)),[]⟩,mt 52 9 49,⟨(some 53),.call 38 [.r 52],(some (49,true)),[]⟩,⟨(some 54),.call 21 [.r 51,.r 53],(some (49,true)),[]⟩,gf 55 43 (.pick (.r 49) (.r 54) (.c (.bool false))),op 56 (.pick (.r 43) (.c (.bool true)) (.r 55)),mv 4 56]<|.ret⟩
def Z5:An:=⟨[],[(4,[(0,true),(1,true),(2,true),(3,true),(4,true),(5,true),(8,true),(9,true),(10,true),(11,true),(6,false),(7,true),(12,true),(13,true)])]⟩
def C4:Go.Rmp.Fn:=⟨120,2,[.t 4,.t 5,.t 6],so [op 4 (.ar (.c (.int .i64 0))),op 5 (.ar (.c .br)),op 6 (.ar (.c (.int .i64 0)))]<|sq (so [mv 20 1,op 21 (.bin .lss (.r 20) (.c (.int .i64 0))),mv 22 21,mf 23 1 22,gf 24 22 (.bin .gtr (.r 23) (.c (.int .i64 1099511627776))),op 25 (.pick (.r 22) (.c (.bool true)) (.r 24))]<|.cond (.r 25) (so [op 4 (.ar (.c (.int .i64 0))),op 5 (.ar (.c .br)),op 6 (.ar (.c (.int .i64 1)))]<|.ret) (.skip))<|so [mv 26 0,dG 27 26,op 28 (.bin .sub (.r 27) (.c (.int .i64 4))),mv 7 28]<|sq (so [mv 29 7,op 30 (.bin .lss (.r 29) (.c (.int .i64 0))),mv 31 30,mf 32 0 31,mf 33 7 31,gf 34 31 (.gH 1 (.r 32) none (some (.r 33)) none),mf 37 0 31,mf 38 7 31,gf 39 31 (.gH 1 (.r 37) (some (.r 38)) none none),gf 40 31 (.AO (.r 39)),⟨(some 35),.call 36 [.r 34],(some (31,false)),[⟨40,.AO (.r 39),(some (31,false))⟩]⟩,gf 36 31 (.AO (.r 35)),gf 41 31 (.bin .neq (.r 36) (.r 40)),op 42 (.pick (.r 31) (.c (.bool true)) (.r 41))]<|.cond (.r 42) (so [op 4 (.ar (.c (.int .i64 0))),op 5 (.ar (.c .br)),op 6 (.ar (.c (.int .i64 90)))]<|.ret) (.skip))<|so [mv 43 0,mv 44 7,op 45 (.gH 1 (.r 43) none (some (.r 44)) none),cl 46 48 [.r 45],mv 8 46]<|so [mv 47 8,cl 48 49 [.r 47],mv 49 8,cl 50 50 [.r 49],mv 51 8,cl 52 51 [.r 51],mv 9 48,mv 10 50,mv 11 52]<|sq (so [mv 53 9,op 54 (.bin .neq (.r 53) (.c (.int .u32 1918987632))),mv 55 54,mf 56 10 55,gf 57 55 (.bin .neq (.r 56) (.c (.int .u8 1))),op 58 (.pick (.r 55) (.c (.bool true)) (.r 57)),mv 59 58,mf 60 11 59,gf 61 59 (.bin .lss (.r 60) (.c (.int .u64 1))),op 62 (.pick (.r 59) (.c (.bool true)) (.r 61)),mv 63 62,mf 64 11 63,gf 65 63 (.bin .gtr (.r 64) (.c (.int .u64 9223372036854775807))),op 66 (.pick (.r 63) (.c (.bool true)) (.r 65))]<|.cond (.r 66) (so [op 4 (.ar (.c (.int .i64 0))),op 5 (.ar (.c .br)),op 6 (.ar (.c (.int .i64 2)))]<|.ret) (.skip))<|so [mv 68 8,cl 69 52 [.r 68],mv 67 69,xt 70 0 67,xt 71 1 67,mv 12 70,mv 13 71]<|so [op 14 (.ar (.c (.sl .nil [])))]<|sq (so [mv 72 8,cl 73 53 [.r 72,(.c (.int .i64 2147483647))],mv 15 73]<|.block 0 (.loop (sq (so [mv 74 15,op 75 (.bin .gtr (.r 74) (.c (.int .i64 0))),mv 76 75,mt 77 8 76,⟨(some 78),.call 54 [.r 77],(some (76,true)),[]⟩,gt 79 76 (.bin .eql (.r 78) (.c (.int .i64 0))),op 80 (.pick (.r 76) (.r 79) (.c (.bool false)))]<|cx 80 0)<|sq (.block 1 (so [mv 83 8,cl 84 55 [.r 83,(.c (.int .i64 65535))],mv 85 8,cl 86 51 [.r 85],mv 87 8,cl 88 55 [.r 87,(.c (.int .i64 65535))],mv 89 8,cl 90 56 [.r 89,(.c (.int .i64 1024)),(.c (.int .i64 65535))],op 91 (.build [.str ⟨#[]⟩,.int .u64 0,.str ⟨#[]⟩,.sl .nil []] [(0,1,(.r 84)),(1,1,(.r 86)),(2,1,(.r 88)),(3,1,(.r 90))]),op 16 (.alloc [.str ⟨#[]⟩,.int .u64 0,.str ⟨#[]⟩,.sl .nil []]),se 4 16 91]<|so [op 17 (.ar (.c (.int .i64 (-1))))]<|sq (so [fa 92 1 16,l1 93 92,mv 94 13,fa 95 0 16,l1 96 95,op 97 (.om (.sc .str) (.int .u64 0) false (.r 94) (.r 96)),b2 98 .lss 93 97]<|.cond (.r 98) (.ops [mv 99 1,mv 17 99]) (.skip))<|.ops [mv 100 14,ln 101 4 16,mv 102 17,op 103 (.build [.str ⟨#[]⟩,.int .u64 0,.str ⟨#[]⟩,.sl .nil [],.int .i64 0] [(0,4,(.r 101)),(4,1,(.r 102))]),op 104 (.mJ 1 [.str ⟨#[]⟩,.int .u64 0,.str ⟨#[]⟩,.sl .nil [],.int .i64 0] [(0,(.r 103))]),op 105 (.app 5 72 false (.r 100) (.r 104)),mv 14 105]))<|.ops [mv 81 15,op 82 (.bin .sub (.r 81) (.c (.int .i64 1))),mv 15 82])))<|sq (so [mv 106 8,cl 107 57 [.r 106],op 108 (.bin .neq (.r 107) (.c (.int .i64 0)))]<|.cond (.r 108) (so [op 4 (.ar (.c (.int .i64 0))),op 5 (.ar (.c .br)),op 6 (.ar (.c (.int .i64 2)))]<|.ret) (.skip))<|so [mv 110 14,mv 111 12,cl 112 58 [.r 110,.r 111],mv 109 112,xt 113 0 109,xt 114 1 109,mv 18 113,mv 19 114]<|sq (so [mv 115 19,op 116 (.bin .neq (.r 115) (.c (.int .i64 0)))]<|.cond (.r 116) (so [op 4 (.ar (.c (.int .i64 0))),op 5 (.ar (.c .br)),op 6 (.ar (.c (.int .i64 2)))]<|.ret) (.skip))<|so [mv 117 11,op 118 (.fG .i64 (.r 117)),mv 119 18,mv 4 118,mv 5 119,op 6 (.ar (.c (.int .i64 0)))]<|.ret⟩
def Z6:An:=⟨[],[(5,[(0,true),(1,true),(2,true),(4,true),(5,true),(6,true),(7,true),(8,true),(9,true),(10,true),(3,false),(11,true),(12,true),(13,false),(14,false)])]⟩
def Pn:Go.Rmp.Fn:=⟨33,1,[.t 2],so [op 2 (.ar (.c (.sl .nil [])))]<|so [op 3 (.ar (.c (.sl .nil [])))]<|sq (so [mv 6 0,nc 7 6,fa 8 0 7,l1 9 8,cl 10 60 [.r 9],cl 11 59 [.r 10,(.c (.fn 61 []))],dG 12 11,op 13 (.ar (.c (.int .i64 0)))]<|.block 0 (.loop (so [b2 14 .lss 13 12]<|sq (cx 14 0)<|sq (.block 1 (so [ia 15 2 11 13,ln 16 2 15,op 5 (.alloc [.str ⟨#[]⟩,.int .u64 0]),se 2 5 16]<|.ops [mv 17 3,mv 18 0,ln 19 2 5,mv 21 0,nc 22 21,fa 23 0 22,l1 24 23,ln 25 2 5,op 26 (.om (.st [.str,.int]) (.agg [.str ⟨#[]⟩,.sl .nil [],.int .i64 0]) false (.r 24) (.r 25)),op 27 (.Tf 2 1 false (.r 26)),⟨(some 20),.call 62 [.r 18,.r 19],none,[⟨24,.ld 1 false (.r 23),none⟩,⟨25,.ld 2 true (.r 5),none⟩,⟨26,.om (.st [.str,.int]) (.agg [.str ⟨#[]⟩,.sl .nil [],.int .i64 0]) false (.r 24) (.r 25),none⟩]⟩,op 28 (.build [.str ⟨#[]⟩,.int .u64 0,.str ⟨#[]⟩,.sl .nil [],.int .i64 0] [(0,4,(.r 20)),(4,1,(.r 27))]),op 29 (.mJ 1 [.str ⟨#[]⟩,.int .u64 0,.str ⟨#[]⟩,.sl .nil [],.int .i64 0] [(0,(.r 28))]),op 30 (.app 5 72 false (.r 17) (.r 29)),mv 3 30]))<|.ops [op 31 (.bin .add (.r 13) (.c (.int .i64 1))),mv 13 31])))<|so [mv 32 3,mv 2 32]<|.ret⟩
def Z7:An:=⟨[],[(8,[(0,true),(1,true),(2,true),(3,true),(4,true),(5,true),(6,true),(7,true),(8,true),(9,true),(10,true),(11,true),(12,true),(13,true),(14,true),(15,true),(16,true),(17,true),(18,true),(19,true),(20,true),(21,true),(22,true),(23,true),(24,false),(25,true),(26,true),(27,true),(28,true),(29,true),(30,true),(31,true),(32,true),(33,true),(34,true),(35,true),(36,true),(37,true),(38,true),(39,true),(40,true),(41,true),(42,true)])]⟩
def Po:Go.Rmp.Fn:=⟨74,3,[.t 6],so [op 6 (.ar (.c (.bool false)))]<|sq (so [mv 10 0,dG 11 10,mv 12 1,dG 13 12,b2 14 .neq 11 13]<|.cond (.r 14) (so [op 6 (.ar (.c (.bool false)))]<|.ret) (.skip))<|sq (so [op 7 (.ar (.c (.int .i64 0)))]<|.block 0 (.loop (sq (so [mv 15 7,mv 16 0,dG 17 16,b2 18 .lss 15 17]<|cx 18 0)<|sq (.block 1 (so [mv 21 0,mv 22 7,ia 23 5 21 22,fa 24 0 23,ln 25 4 24,op 8 (.alloc [.str ⟨#[]⟩,.int .u64 0,.str ⟨#[]⟩,.sl .nil []]),se 4 8 25]<|so [mv 26 1,mv 27 7,ia 28 5 26 27,fa 29 0 28,ln 30 4 29,op 9 (.alloc [.str ⟨#[]⟩,.int .u64 0,.str ⟨#[]⟩,.sl .nil []]),se 4 9 30]<|so [fa 31 0 8,l1 32 31,fa 33 0 9,l1 34 33,b2 35 .neq 32 34,mv 36 35,gf 37 36 (.fL 1 (.r 8)),gf 38 36 (.ld 1 false (.r 37)),gf 39 36 (.fL 1 (.r 9)),gf 40 36 (.ld 1 false (.r 39)),gf 41 36 (.bin .neq (.r 38) (.r 40)),op 42 (.pick (.r 36) (.c (.bool true)) (.r 41)),mv 43 42,gf 44 43 (.fL 2 (.r 8)),gf 45 43 (.ld 1 false (.r 44)),gf 46 43 (.fL 2 (.r 9)),gf 47 43 (.ld 1 false (.r 46)),gf 48 43 (.bin .neq (.r 45) (.r 47)),op 49 (.pick (.r 43) (.c (.bool true)) (.r 48)),mv 50 49,gf 51 50 (.fL 3 (.r 8)),gf 52 50 (.ld 1 false (.r 51)),gf 53 50 (.fL 3 (.r 9)),gf 54 50 (.ld 1 false (.r 53)),⟨(some 55),.call 63 [.r 52,.r 54],(some (50,false)),[]⟩,gf 56 50 (.un .not (.r 55)),op 57 (.pick (.r 50) (.c (.bool true)) (.r 56)),mv 58 57,mf 59 2 58,mf 60 59 58,mt 61 0 60,mt 62 7 60,gt 63 60 (.eF 5 (.r 61) (.r 62)),gt 64 60 (.fL 4 (.r 63)),gt 65 60 (.ld 1 false (.r 64)),mt 66 1 60,mt 67 7 60,gt 68 60 (.eF 5 (.r 66) (.r 67)),gt 69 60 (.fL 4 (.r 68)),gt 70 60 (.ld 1 false (.r 69)),gt 71 60 (.bin .neq (.r 65) (.r 70)),gf 72 58 (.pick (.r 60) (.r 71) (.c (.bool false))),op 73 (.pick (.r 58) (.c (.bool true)) (.r 72))]<|.cond (.r 73) (so [op 6 (.ar (.c (.bool false)))]<|.ret) (.skip)))<|.ops [mv 19 7,op 20 (.bin .add (.r 19) (.c (.int .i64 1))),mv 7 20])))<|so [op 6 (.ar (.c (.bool true)))]<|.ret⟩
def Z8:An:=⟨[],[]⟩
def Pp:Go.Rmp.Fn:=⟨30,1,[.t 2],so [op 2 (.ar (.c (.sl .nil [])))]<|so [op 3 (.ar (.c (.sl .nil [])))]<|sq (so [mv 6 0,nc 7 6,fa 8 3 7,l1 9 8,cl 10 65 [.r 9],cl 11 64 [.r 10],dG 12 11,op 13 (.ar (.c (.int .i64 0)))]<|.block 0 (.loop (so [b2 14 .lss 13 12]<|sq (cx 14 0)<|sq (.block 1 (so [ia 15 1 11 13,l1 16 15,mv 5 16]<|.ops [mv 17 3,mv 18 5,mv 19 0,nc 20 19,fa 21 3 20,l1 22 21,mv 23 5,op 24 (.om (.sc .str) (.int .u64 0) false (.r 22) (.r 23)),op 25 (.build [.str ⟨#[]⟩,.int .u64 0] [(0,1,(.r 18)),(1,1,(.r 24))]),op 26 (.mJ 1 [.str ⟨#[]⟩,.int .u64 0] [(0,(.r 25))]),op 27 (.app 2 24 false (.r 17) (.r 26)),mv 3 27]))<|.ops [op 28 (.bin .add (.r 13) (.c (.int .i64 1))),mv 13 28])))<|so [mv 29 3,mv 2 29]<|.ret⟩
def Z9:An:=⟨[],[(6,[(0,true),(1,true),(2,true),(3,true),(4,true),(5,true),(6,true),(7,true),(8,true)])]⟩
def Pq:Go.Rmp.Fn:=⟨26,2,[.t 4],so [op 4 (.ar (.c (.bool false)))]<|sq (so [mv 6 0,dG 7 6,mv 8 1,dG 9 8,b2 10 .neq 7 9]<|.cond (.r 10) (so [op 4 (.ar (.c (.bool false)))]<|.ret) (.skip))<|sq (so [op 5 (.ar (.c (.int .i64 0)))]<|.block 0 (.loop (sq (so [mv 11 5,mv 12 0,dG 13 12,b2 14 .lss 11 13]<|cx 14 0)<|sq (.block 1 (so [mv 17 0,mv 18 5,ia 19 2 17 18,ln 20 2 19,mv 21 1,mv 22 5,ia 23 2 21 22,ln 24 2 23,op 25 (.eqs true [.str,.int] (.r 20) (.r 24))]<|.cond (.r 25) (so [op 4 (.ar (.c (.bool false)))]<|.ret) (.skip)))<|.ops [mv 15 5,op 16 (.bin .add (.r 15) (.c (.int .i64 1))),mv 5 16])))<|so [op 4 (.ar (.c (.bool true)))]<|.ret⟩
def aaa:An:=⟨[],[(8,[(0,true),(1,true),(2,true),(3,true),(4,true),(5,true),(6,true),(7,true),(8,true),(9,true),(10,false),(11,true)]),(12,[(0,true),(1,true),(2,true),(3,true),(4,true),(5,true),(6,true),(7,true),(8,true)]),(14,[(0,true),(1,true),(2,true),(3,true),(4,true),(6,true),(5,false),(7,true),(8,false)])]⟩
def K9:Go.Rmp.Fn:=⟨70,5,[.t 10,.t 11],so [op 10 (.ar (.c (.bool false))),op 11 (.ar (.c (.int .i64 0)))]<|sq (so [mv 19 1,mv 20 2,mv 21 3,cl 22 66 [.r 19,.r 20,.r 21],op 23 (.un .not (.r 22)),mv 24 23,mf 25 4 24,⟨(some 26),.call 67 [.r 25],(some (24,false)),[]⟩,gf 27 24 (.un .not (.r 26)),op 28 (.pick (.r 24) (.c (.bool true)) (.r 27))]<|.cond (.r 28) (so [op 10 (.ar (.c (.bool false))),op 11 (.ar (.c (.int .i64 1)))]<|.ret) (.skip))<|so [op 12 (.ar (.c (.bool false)))]<|sq (so [mv 29 2,dG 30 29,op 31 (.ar (.c (.int .i64 0)))]<|.block 0 (.loop (so [b2 32 .lss 31 30]<|sq (cx 32 0)<|sq (.block 1 (so [ia 33 2 29 31,ln 34 2 33,op 14 (.alloc [.str ⟨#[]⟩,.str ⟨#[]⟩]),se 2 14 34]<|so [fa 35 0 14,l1 36 35,mv 37 1,op 38 (.build [.str ⟨#[]⟩,.int .u64 0] [(0,1,(.r 36)),(1,1,(.r 37))]),op 15 (.alloc [.str ⟨#[]⟩,.int .u64 0]),se 2 15 38]<|sq (so [mv 40 0,nc 41 40,fa 42 0 41,l1 43 42,ln 44 2 15,op 45 (.om (.st [.str,.int]) (.agg [.str ⟨#[]⟩,.sl .nil [],.int .i64 0]) true (.r 43) (.r 44)),mv 39 45,xt 46 0 39,xt 47 1 39,op 16 (.alloc [.str ⟨#[]⟩,.sl .nil [],.int .i64 0]),se 3 16 46,mv 17 47]<|so [mv 48 17]<|.cond (.r 48) (.exit 1) (.skip))<|so [op 12 (.ar (.c (.bool true)))]<|so [op 18 (.ar (.c (.int .i64 (-1))))]<|sq (so [mv 49 1,mv 50 0,nc 51 50,fa 52 3 51,l1 53 52,fa 54 0 14,l1 55 54,op 56 (.om (.sc .str) (.int .u64 0) false (.r 53) (.r 55)),b2 57 .lss 49 56]<|.cond (.r 57) (.ops [mv 58 4,mv 18 58]) (.skip))<|.ops [mv 59 0,ln 60 2 15,fa 61 1 14,l1 62 61,mv 63 3,mv 65 18,⟨(some 64),.call 69 [.r 63],none,[⟨60,.ld 2 true (.r 15),none⟩,⟨62,.ld 1 false (.r 61),none⟩]⟩,op 66 (.build [.str ⟨#[]⟩,.sl .nil [],.int .i64 0] [(0,1,(.r 62)),(1,1,(.r 64)),(2,1,(.r 65))]),cl 67 68 [.r 59,.r 60,.r 66]]))<|.ops [op 68 (.bin .add (.r 31) (.c (.int .i64 1))),mv 31 68])))<|so [mv 69 12,mv 10 69,op 11 (.ar (.c (.int .i64 0)))]<|.ret⟩
def aab:An:=⟨[],[(15,[(0,true),(1,true),(2,true),(3,true),(4,true),(5,true),(6,true),(7,true),(8,false)])]⟩
def Gv:Go.Rmp.Fn:=⟨89,3,[.t 6,.t 7],so [op 6 (.ar (.c (.int .i64 0))),op 7 (.ar (.c (.int .i64 0)))]<|sq (so [mv 13 1,op 14 (.bin .lss (.r 13) (.c (.int .u64 65536))),mv 15 14,mf 16 2 15,⟨(some 17),.call 67 [.r 16],(some (15,false)),[]⟩,gf 18 15 (.un .not (.r 17)),op 19 (.pick (.r 15) (.c (.bool true)) (.r 18))]<|.cond (.r 19) (so [op 6 (.ar (.c (.int .i64 0))),op 7 (.ar (.c (.int .i64 1)))]<|.ret) (.skip))<|sq (so [mv 20 0,nc 21 20,fa 22 2 21,l1 23 22,mv 24 1,op 25 (.om (.sc .int) (.sl .nil []) false (.r 23) (.r 24)),dG 26 25,op 27 (.ar (.c (.int .i64 0)))]<|.block 0 (.loop (so [b2 28 .lss 27 26]<|sq (cx 28 0)<|sq (.block 1 (so [ia 29 1 25 27,l1 30 29,mv 9 30]<|sq (so [mv 31 0,nc 32 31,fa 33 3 32,l1 34 33,mv 35 9,op 36 (.om (.sc .str) (.int .u64 0) false (.r 34) (.r 35)),mv 37 1,b2 38 .geq 36 37]<|.cond (.r 38) (.exit 1) (.skip))<|so [mv 39 0,nc 40 39,fa 41 3 40,l1 42 41,mv 43 9,mv 44 1,ef (.AQ (.sc .str) (.r 42) (.r 43) (.r 44))]<|so [mv 45 0,nc 46 45,fa 47 1 46,l1 48 47,mv 49 9,op 50 (.om (.sc .str) (.sl .nil []) false (.r 48) (.r 49)),dG 51 50,op 52 (.ar (.c (.int .i64 0)))]<|.block 2 (.loop (so [b2 53 .lss 52 51]<|sq (cx 53 2)<|sq (.block 3 (so [ia 54 1 50 52,l1 55 54,mv 11 55]<|sq (so [mv 56 11,mv 57 1,b2 58 .geq 56 57]<|.cond (.r 58) (.exit 2) (.skip))<|so [mv 59 0,nc 60 59,fa 61 0 60,l1 62 61,mv 63 9,mv 64 11,op 65 (.build [.str ⟨#[]⟩,.int .u64 0] [(0,1,(.r 63)),(1,1,(.r 64))]),op 66 (.om (.st [.str,.int]) (.agg [.str ⟨#[]⟩,.sl .nil [],.int .i64 0]) false (.r 62) (.r 65)),op 12 (.alloc [.str ⟨#[]⟩,.sl .nil [],.int .i64 0]),se 3 12 66]<|so [fa 67 2 12,l1 68 67,op 69 (.bin .eql (.r 68) (.c (.int .i64 (-1))))]<|.cond (.r 69) (so [mv 70 2,fa 71 2 12,se 1 71 70]<|.ops [mv 72 0,nc 73 72,fa 74 0 73,l1 75 74,mv 76 9,mv 77 11,op 78 (.build [.str ⟨#[]⟩,.int .u64 0] [(0,1,(.r 76)),(1,1,(.r 77))]),ln 79 3 12,ef (.AQ (.st [.str,.int]) (.r 75) (.r 78) (.r 79))]) (.skip)))<|.ops [op 80 (.bin .add (.r 52) (.c (.int .i64 1))),mv 52 80]))))<|.ops [op 81 (.bin .add (.r 27) (.c (.int .i64 1))),mv 27 81])))<|so [mv 82 0,nc 83 82,fa 84 2 83,l1 85 84,mv 86 1,op 87 (.om (.sc .int) (.sl .nil []) false (.r 85) (.r 86)),dG 88 87,mv 6 88,op 7 (.ar (.c (.int .i64 0)))]<|.ret⟩
def aac:An:=⟨[],[(2,[(0,true),(1,true),(2,true),(3,true),(4,true),(5,true),(6,true),(7,true),(8,true),(9,true),(10,false),(11,true)]),(7,[(0,true),(1,true),(2,true),(3,true),(4,true),(5,false)]),(8,[(0,true),(1,true),(2,true),(3,true),(4,true),(5,true),(6,true),(7,true),(8,true),(9,true),(10,true),(11,true),(12,false),(13,false)]),(9,[(0,true),(1,true),(2,true),(3,true),(4,true),(5,true),(6,true),(7,true),(8,true),(9,true),(10,true),(11,true),(12,false),(13,false)])]⟩
def Gw:Go.Rmp.Fn:=⟨71,3,[.t 6],so [op 6 (.ar (.c (.int .i64 0)))]<|so [mv 10 1,mv 11 2,op 12 (.build [.str ⟨#[]⟩,.int .u64 0] [(0,1,(.r 10)),(1,1,(.r 11))]),op 7 (.alloc [.str ⟨#[]⟩,.int .u64 0]),se 2 7 12]<|so [mv 14 0,nc 15 14,fa 16 0 15,l1 17 16,ln 18 2 7,op 19 (.om (.st [.str,.int]) (.agg [.str ⟨#[]⟩,.sl .nil [],.int .i64 0]) true (.r 17) (.r 18)),mv 13 19,xt 20 0 13,xt 21 1 13,op 8 (.alloc [.str ⟨#[]⟩,.sl .nil [],.int .i64 0]),se 3 8 20,mv 9 21]<|sq (so [mv 22 9,op 23 (.un .not (.r 22))]<|.cond (.r 23) (so [op 6 (.ar (.c (.int .i64 110)))]<|.ret) (.skip))<|sq (so [fa 24 2 8,l1 25 24,op 26 (.bin .eql (.r 25) (.c (.int .i64 (-1))))]<|.cond (.r 26) (so [op 6 (.ar (.c (.int .i64 1)))]<|.ret) (.skip))<|so [mv 27 0,nc 28 27,fa 29 0 28,l1 30 29,ln 31 2 7,ef (.del (.st [.str,.int]) (.r 30) (.r 31))]<|so [mv 32 0,nc 33 32,fa 34 1 33,l1 35 34,mv 36 1,mv 37 0,nc 38 37,fa 39 1 38,l1 40 39,mv 41 1,op 42 (.om (.sc .str) (.sl .nil []) false (.r 40) (.r 41)),mv 43 2,⟨(some 44),.call 70 [.r 42,.r 43],none,[⟨35,.ld 1 false (.r 34),none⟩]⟩,ef (.AQ (.sc .str) (.r 35) (.r 36) (.r 44))]<|so [mv 45 0,nc 46 45,fa 47 2 46,l1 48 47,mv 49 2,mv 50 0,nc 51 50,fa 52 2 51,l1 53 52,mv 54 2,op 55 (.om (.sc .int) (.sl .nil []) false (.r 53) (.r 54)),mv 56 1,⟨(some 57),.call 71 [.r 55,.r 56],none,[⟨48,.ld 1 false (.r 47),none⟩]⟩,ef (.AQ (.sc .int) (.r 48) (.r 49) (.r 57))]<|sq (so [mv 58 0,nc 59 58,fa 60 2 59,l1 61 60,mv 62 2,op 63 (.om (.sc .int) (.sl .nil []) false (.r 61) (.r 62)),dG 64 63,op 65 (.bin .eql (.r 64) (.c (.int .i64 0)))]<|.cond (.r 65) (.ops [mv 66 0,nc 67 66,fa 68 2 67,l1 69 68,mv 70 2,ef (.del (.sc .int) (.r 69) (.r 70))]) (.skip))<|so [op 6 (.ar (.c (.int .i64 0)))]<|.ret⟩
def aad:An:=⟨[],[]⟩
def Pr:Go.Rmp.Fn:=⟨8,0,[.t 0],so [op 0 (.ar (.c (.sl .nil [])))]<|so [op 1 (.build [.str ⟨#[]⟩,.str ⟨#[]⟩] [(0,1,(.c (.str ⟨#[97]⟩))),(1,1,(.c (.str ⟨#[49]⟩)))]),op 2 (.build [.str ⟨#[]⟩,.str ⟨#[]⟩] [(0,1,(.c (.str ⟨#[98]⟩))),(1,1,(.c (.str ⟨#[50]⟩)))]),op 3 (.mJ 2 [.str ⟨#[]⟩,.str ⟨#[]⟩] [(0,(.r 1)),(1,(.r 2))]),op 4 (.mJ 2 [.str ⟨#[]⟩] [(0,(.c (.str ⟨#[97]⟩))),(1,(.c (.str ⟨#[98]⟩)))]),op 5 (.build [.int .i64 0,.int .u64 0,.str ⟨#[]⟩,.sl .nil [],.sl .nil [],.int .i64 0] [(0,1,(.c (.int .i64 1))),(1,1,(.c (.int .u64 65536))),(3,1,(.r 3)),(4,1,(.r 4))]),op 6 (.build [.int .i64 0,.int .u64 0,.str ⟨#[]⟩,.sl .nil [],.sl .nil [],.int .i64 0] [(0,1,(.c (.int .i64 2))),(1,1,(.c (.int .u64 65536)))]),op 7 (.mJ 2 [.int .i64 0,.int .u64 0,.str ⟨#[]⟩,.sl .nil [],.sl .nil [],.int .i64 0] [(0,(.r 5)),(1,(.r 6))]),mv 0 7]<|.ret⟩
def aae:An:=⟨[],[(2,[(0,true),(1,true),(2,true),(3,true),(4,true),(5,true),(6,true),(7,true),(8,true),(9,true),(10,true),(11,true),(12,true),(13,true),(14,true),(15,true),(16,true),(17,true),(18,true),(19,true),(20,true),(21,true),(22,true),(23,true),(24,true),(25,true),(26,true),(27,true),(28,true),(29,true),(30,true)])]⟩
def Ps:Go.Rmp.Fn:=⟨36,1,[.t 2],so [op 2 (.ar (.c (.int .u32 0)))]<|so [mv 4 0,dG 5 4,mv 3 5]<|so [mv 6 0,mv 7 3,op 8 (.bin .sub (.r 7) (.c (.int .i64 4))),ia 9 1 6 8,l1 10 9,op 11 (.fG .u32 (.r 10)),op 12 (.bin .shl (.r 11) (.c (.int .u64 24))),mv 13 0,mv 14 3,op 15 (.bin .sub (.r 14) (.c (.int .i64 3))),ia 16 1 13 15,l1 17 16,op 18 (.fG .u32 (.r 17)),op 19 (.bin .shl (.r 18) (.c (.int .u64 16))),b2 20 .or 12 19,mv 21 0,mv 22 3,op 23 (.bin .sub (.r 22) (.c (.int .i64 2))),ia 24 1 21 23,l1 25 24,op 26 (.fG .u32 (.r 25)),op 27 (.bin .shl (.r 26) (.c (.int .u64 8))),b2 28 .or 20 27,mv 29 0,mv 30 3,op 31 (.bin .sub (.r 30) (.c (.int .i64 1))),ia 32 1 29 31,l1 33 32,op 34 (.fG .u32 (.r 33)),b2 35 .or 28 34,mv 2 35]<|.ret⟩
def aaf:An:=⟨[],[]⟩
def Pt:Go.Rmp.Fn:=⟨7,0,[.t 0],so [op 0 (.ar (.c .br))]<|so [op 1 (.AP),op 2 (.AP),op 3 (.AP),op 4 (.AP),op 5 (.build [.hY,.hY,.hY,.hY] [(0,1,(.r 1)),(1,1,(.r 2)),(2,1,(.r 3)),(3,1,(.r 4))]),op 6 (.box (.r 5)),mv 0 6]<|.ret⟩
def aag:An:=⟨[],[]⟩
def Pu:Go.Rmp.Fn:=⟨7,1,[.t 2],so [op 2 (.ar (.c .br))]<|so [mv 3 0,op 4 (.mx (.r 3) (.c (.int .i64 0))),op 5 (.build [.int .i64 0,.sl .nil [],.int .i64 0] [(0,1,(.r 4))]),op 6 (.box (.r 5)),mv 2 6]<|.ret⟩
def aah:An:=⟨[],[]⟩
def Pv:Go.Rmp.Fn:=⟨10,2,[],so [mv 4 0,cl 5 72 [.r 4,(.c (.int .i64 4))]]<|.cond (.r 5) (.ops [mv 6 0,mv 7 1,op 8 (.fG .u64 (.r 7)),cl 9 73 [.r 6,.r 8,(.c (.int .i64 4))]]) (.skip)⟩
def aai:An:=⟨[],[]⟩
def Pw:Go.Rmp.Fn:=⟨10,2,[],so [mv 4 0,cl 5 72 [.r 4,(.c (.int .i64 1))]]<|.cond (.r 5) (.ops [mv 6 0,mv 7 1,op 8 (.fG .u64 (.r 7)),cl 9 73 [.r 6,.r 8,(.c (.int .i64 1))]]) (.skip)⟩
def aaj:An:=⟨[],[]⟩
def Px:Go.Rmp.Fn:=⟨9,2,[],so [mv 4 0,cl 5 72 [.r 4,(.c (.int .i64 8))]]<|.cond (.r 5) (.ops [mv 6 0,mv 7 1,cl 8 73 [.r 6,.r 7,(.c (.int .i64 8))]]) (.skip)⟩
def aak:An:=⟨[],[]⟩
def Py:Go.Rmp.Fn:=⟨23,2,[],so [mv 4 0,mv 5 1,op 6 (.len .str (.r 5)),op 7 (.bin .add (.c (.int .i64 4)) (.r 6)),cl 8 72 [.r 4,.r 7]]<|.cond (.r 8) (so [mv 9 0,mv 10 1,op 11 (.len .str (.r 10)),op 12 (.fG .u64 (.r 11)),cl 13 73 [.r 9,.r 12,(.c (.int .i64 4))]]<|.ops [mv 14 0,mv 15 0,nc 16 15,fa 17 1 16,l1 18 17,mv 19 1,op 20 (.app 1 1 false (.r 18) (.r 19)),nc 21 14,fa 22 1 21,se 1 22 20]) (.skip)⟩
def aal:An:=⟨[],[]⟩
def Pz:Go.Rmp.Fn:=⟨40,2,[],so [op 4 (.ar (.c (.int .i64 4)))]<|sq (so [mv 9 1,dG 10 9,op 11 (.ar (.c (.int .i64 0)))]<|.block 0 (.loop (so [b2 12 .lss 11 10]<|sq (cx 12 0)<|sq (.block 1 (so [ia 13 1 9 11,l1 14 13,mv 6 14]<|.ops [mv 15 4,mv 16 6,op 17 (.len .str (.r 16)),op 18 (.bin .add (.c (.int .i64 4)) (.r 17)),b2 19 .add 15 18,mv 4 19]))<|.ops [op 20 (.bin .add (.r 11) (.c (.int .i64 1))),mv 11 20])))<|sq (so [mv 21 0,mv 22 4,cl 23 72 [.r 21,.r 22],op 24 (.un .not (.r 23))]<|.cond (.r 24) (.ret) (.skip))<|so [mv 25 0,mv 26 1,dG 27 26,op 28 (.fG .u64 (.r 27)),cl 29 73 [.r 25,.r 28,(.c (.int .i64 4))]]<|so [mv 30 1,dG 31 30,op 32 (.ar (.c (.int .i64 0)))]<|.block 2 (.loop (so [b2 33 .lss 32 31]<|sq (cx 33 2)<|sq (.block 3 (so [ia 34 1 30 32,l1 35 34,mv 8 35]<|.ops [mv 36 0,mv 37 8,cl 38 33 [.r 36,.r 37]]))<|.ops [op 39 (.bin .add (.r 32) (.c (.int .i64 1))),mv 32 39]))⟩
def aam:An:=⟨[],[(2,[(0,true),(1,true),(2,true),(3,true),(4,true),(5,true)])]⟩
def PA:Go.Rmp.Fn:=⟨18,1,[.t 2,.t 3],so [op 2 (.ar (.c (.sl .nil []))),op 3 (.ar (.c (.int .i64 0)))]<|sq (so [mv 4 0,nc 5 4,fa 6 2 5,l1 7 6,op 8 (.bin .neq (.r 7) (.c (.int .i64 0)))]<|.cond (.r 8) (so [mv 9 0,nc 10 9,fa 11 2 10,l1 12 11,op 2 (.ar (.c (.sl .nil []))),mv 3 12]<|.ret) (.skip))<|so [mv 13 0,nc 14 13,fa 15 1 14,l1 16 15,cl 17 74 [.r 16],mv 2 17,op 3 (.ar (.c (.int .i64 0)))]<|.ret⟩
def aan:An:=⟨[],[]⟩
def PB:Go.Rmp.Fn:=⟨18,1,[.t 2],so [op 2 (.ar (.c (.sl .nil [])))]<|so [mv 4 0,cl 5 14 [.r 4],mv 3 5]<|so [mv 6 3,op 7 (.bin .shr (.r 6) (.c (.int .u64 24))),op 8 (.fG .u8 (.r 7)),mv 9 3,op 10 (.bin .shr (.r 9) (.c (.int .u64 16))),op 11 (.fG .u8 (.r 10)),mv 12 3,op 13 (.bin .shr (.r 12) (.c (.int .u64 8))),op 14 (.fG .u8 (.r 13)),mv 15 3,op 16 (.fG .u8 (.r 15)),op 17 (.mJ 4 [.int .u8 0] [(0,(.r 8)),(1,(.r 11)),(2,(.r 14)),(3,(.r 16))]),mv 2 17]<|.ret⟩
def aao:An:=⟨[],[]⟩
def PC:Go.Rmp.Fn:=⟨23,3,[.t 6],so [op 6 (.ar (.c (.sl .nil [])))]<|sq (so [mv 8 2,op 9 (.bin .sub (.r 8) (.c (.int .i64 1))),mv 7 9]<|.block 0 (.loop (sq (so [mv 10 7,op 11 (.bin .geq (.r 10) (.c (.int .i64 0)))]<|cx 11 0)<|sq (.block 1 (.ops [mv 14 0,mv 15 1,mv 16 7,op 17 (.bin .mul (.c (.int .i64 8)) (.r 16)),b2 18 .shr 15 17,op 19 (.fG .u8 (.r 18)),op 20 (.mJ 1 [.int .u8 0] [(0,(.r 19))]),op 21 (.app 1 1 false (.r 14) (.r 20)),mv 0 21]))<|.ops [mv 12 7,op 13 (.bin .sub (.r 12) (.c (.int .i64 1))),mv 7 13])))<|so [mv 22 0,mv 6 22]<|.ret⟩
def aap:An:=⟨[],[]⟩
def PD:Go.Rmp.Fn:=⟨8,1,[.t 2],so [op 2 (.ar (.c (.sl .nil [])))]<|so [mv 3 0,nc 4 3,fa 5 1 4,l1 6 5,op 7 (.app 2 24 false (.c (.sl .nil [])) (.r 6)),mv 2 7]<|.ret⟩
def aaq:An:=⟨[],[]⟩
def PE:Go.Rmp.Fn:=⟨12,2,[.t 4],so [op 4 (.ar (.c (.sl .nil [])))]<|so [mv 5 0,mv 6 1,op 7 (.len .str (.r 6)),op 8 (.fG .u64 (.r 7)),cl 9 37 [.r 5,.r 8,(.c (.int .i64 4))],mv 10 1,op 11 (.app 1 1 false (.r 9) (.r 10)),mv 4 11]<|.ret⟩
def aar:An:=⟨[],[(5,[(0,true),(1,true),(2,true),(3,true),(4,true),(5,true),(6,true),(7,true),(8,true),(10,true),(11,true),(12,true),(13,true),(14,true),(15,true),(16,true),(17,true),(9,false),(18,true),(19,true),(20,false),(21,false)])]⟩
def PF:Go.Rmp.Fn:=⟨36,1,[.t 2],so [op 2 (.ar (.c (.sl .nil [])))]<|so [op 3 (.ar (.c (.sl .nil [])))]<|sq (so [op 4 (.ar (.c (.int .i64 0)))]<|.block 0 (.loop (sq (so [mv 5 4,mv 6 0,nc 7 6,fa 8 0 7,l1 9 8,dG 10 9,b2 11 .lss 5 10]<|cx 11 0)<|sq (.block 1 (.ops [mv 14 3,mv 15 0,nc 16 15,fa 17 0 16,l1 18 17,mv 19 4,ia 20 5 18 19,fa 21 0 20,ln 22 4 21,mv 24 0,nc 25 24,fa 26 0 25,l1 27 26,mv 28 4,ia 29 5 27 28,fa 30 4 29,l1 31 30,⟨(some 23),.call 75 [.r 22],none,[⟨27,.ld 1 false (.r 26),none⟩,⟨31,.ld 1 false (.r 30),none⟩]⟩,op 32 (.build [.str ⟨#[]⟩,.int .u64 0,.str ⟨#[]⟩,.sl .nil [],.int .i64 0] [(0,4,(.r 23)),(4,1,(.r 31))]),op 33 (.mJ 1 [.str ⟨#[]⟩,.int .u64 0,.str ⟨#[]⟩,.sl .nil [],.int .i64 0] [(0,(.r 32))]),op 34 (.app 5 72 false (.r 14) (.r 33)),mv 3 34]))<|.ops [mv 12 4,op 13 (.bin .add (.r 12) (.c (.int .i64 1))),mv 4 13])))<|so [mv 35 3,mv 2 35]<|.ret⟩
def aas:An:=⟨[],[]⟩
def PG:Go.Rmp.Fn:=⟨5,1,[.t 2],so [op 2 (.ar (.c (.int .u32 0)))]<|so [mv 3 0,cl 4 76 [(.c (.int .u32 0)),.r 3],mv 2 4]<|.ret⟩
def aat:An:=⟨[],[]⟩
def PH:Go.Rmp.Fn:=⟨39,2,[.t 4],so [op 4 (.ar (.c (.int .u32 0)))]<|so [cl 9 83 [],op 5 (.alloc [.int .u32 0,.int .u32 0,.int .u32 0,.int .u32 0,.int .u32 0,.int .u32 0,.int .u32 0,.int .u32 0,.int .u32 0,.int .u32 0,.int .u32 0,.int .u32 0,.int .u32 0,.int .u32 0,.int .u32 0,.int .u32 0]),se 16 5 9]<|so [mv 10 0,op 11 (.un .xor (.r 10)),mv 6 11]<|sq (so [mv 12 1,dG 13 12,op 14 (.ar (.c (.int .i64 0)))]<|.block 0 (.loop (so [b2 15 .lss 14 13]<|sq (cx 15 0)<|sq (.block 1 (so [ia 16 1 12 14,l1 17 16,mv 8 17]<|so [mv 18 6,mv 19 8,op 20 (.fG .u32 (.r 19)),b2 21 .xor 18 20,mv 6 21]<|so [mv 22 6,op 23 (.bin .shr (.r 22) (.c (.int .u64 4))),mv 24 6,op 25 (.bin .and (.r 24) (.c (.int .u32 15))),op 26 (.N7 16 1 (.r 5) (.r 25)),l1 27 26,b2 28 .xor 23 27,mv 6 28]<|.ops [mv 29 6,op 30 (.bin .shr (.r 29) (.c (.int .u64 4))),mv 31 6,op 32 (.bin .and (.r 31) (.c (.int .u32 15))),op 33 (.N7 16 1 (.r 5) (.r 32)),l1 34 33,b2 35 .xor 30 34,mv 6 35]))<|.ops [op 36 (.bin .add (.r 14) (.c (.int .i64 1))),mv 14 36])))<|so [mv 37 6,op 38 (.un .xor (.r 37)),mv 4 38]<|.ret⟩
def aau:An:=⟨[],[(4,[(0,true),(1,true),(2,true),(3,true),(4,true),(5,true),(6,true),(7,true),(8,true),(9,true),(10,true),(11,true),(12,true),(13,true),(14,true),(15,true),(16,true),(17,true),(18,true),(19,true),(20,true),(21,true),(22,true),(23,true),(24,true),(25,true),(26,true),(27,true),(28,true),(29,true),(30,true),(31,true),(32,true),(33,true),(34,true),(35,false),(36,true),(37,true)]),(25,[(0,true),(1,true),(2,true),(3,false),(4,true),(5,false),(6,true),(7,false)]),(27,[(0,true),(1,true),(2,true),(3,true),(4,true),(5,false),(6,true)])]⟩
def C5:Go.Rmp.Fn:=⟨195,2,[.t 4,.t 5,.t 6],so [op 4 (.ar (.c (.int .i64 0))),op 5 (.ar (.c .br)),op 6 (.ar (.c (.int .i64 0)))]<|sq (so [mv 22 1,op 23 (.bin .lss (.r 22) (.c (.int .i64 0))),mv 24 23,mf 25 1 24,gf 26 24 (.bin .gtr (.r 25) (.c (.int .i64 1099511627776))),op 27 (.pick (.r 24) (.c (.bool true)) (.r 26))]<|.cond (.r 27) (so [op 4 (.ar (.c (.int .i64 0))),op 5 (.ar (.c .br)),op 6 (.ar (.c (.int .i64 1)))]<|.ret) (.skip))<|so [mv 28 0,dG 29 28,op 30 (.bin .sub (.r 29) (.c (.int .i64 4))),mv 7 30]<|sq (so [mv 31 7,op 32 (.bin .lss (.r 31) (.c (.int .i64 0))),mv 33 32,mf 34 0 33,mf 35 7 33,gf 36 33 (.eF 1 (.r 34) (.r 35)),gf 37 33 (.ld 1 false (.r 36)),gf 38 33 (.fG .u32 (.r 37)),gf 39 33 (.bin .shl (.r 38) (.c (.int .u64 24))),mf 40 0 33,mf 41 7 33,gf 42 33 (.bin .add (.r 41) (.c (.int .i64 1))),gf 43 33 (.eF 1 (.r 40) (.r 42)),gf 44 33 (.ld 1 false (.r 43)),gf 45 33 (.fG .u32 (.r 44)),gf 46 33 (.bin .shl (.r 45) (.c (.int .u64 16))),gf 47 33 (.bin .or (.r 39) (.r 46)),mf 48 0 33,mf 49 7 33,gf 50 33 (.bin .add (.r 49) (.c (.int .i64 2))),gf 51 33 (.eF 1 (.r 48) (.r 50)),gf 52 33 (.ld 1 false (.r 51)),gf 53 33 (.fG .u32 (.r 52)),gf 54 33 (.bin .shl (.r 53) (.c (.int .u64 8))),gf 55 33 (.bin .or (.r 47) (.r 54)),mf 56 0 33,mf 57 7 33,gf 58 33 (.bin .add (.r 57) (.c (.int .i64 3))),gf 59 33 (.eF 1 (.r 56) (.r 58)),gf 60 33 (.ld 1 false (.r 59)),gf 61 33 (.fG .u32 (.r 60)),gf 62 33 (.bin .or (.r 55) (.r 61)),mf 63 0 33,mf 64 7 33,gf 65 33 (.gH 1 (.r 63) none (some (.r 64)) none),⟨(some 66),.call 41 [.r 65],(some (33,false)),[⟨37,.ld 1 false (.r 36),(some (33,false))⟩,⟨44,.ld 1 false (.r 43),(some (33,false))⟩,⟨52,.ld 1 false (.r 51),(some (33,false))⟩,⟨60,.ld 1 false (.r 59),(some (33,false))⟩]⟩,gf 67 33 (.bin .neq (.r 62) (.r 66)),op 68 (.pick (.r 33) (.c (.bool true)) (.r 67))]<|.cond (.r 68) (so [op 4 (.ar (.c (.int .i64 0))),op 5 (.ar (.c .br)),op 6 (.ar (.c (.int .i64 90)))]<|.ret) (.skip))<|so [mv 69 0,mv 70 7,op 71 (.gH 1 (.r 69) none (some (.r 70)) none),op 72 (.build [.sl .nil [],.bool false] [(0,1,(.r 71))]),op 73 (.box (.r 72)),mv 8 73]<|so [mv 74 8,cl 75 84 [.r 74,(.c (.int .i64 5))]]<|so [mv 76 8,cl 77 85 [.r 76,(.c (.int .i64 8))],op 78 (.fG .i64 (.r 77)),mv 9 78]<|so [op 10 (.ar (.c (.sl .nil [])))]<|sq (so [mv 79 8,cl 80 85 [.r 79,(.c (.int .i64 4))],mv 11 80]<|.block 0 (.loop (sq (so [mv 81 11,op 82 (.bin .gtr (.r 81) (.c (.int .u64 0))),mv 83 82,mt 84 8 83,gt 85 83 (.lS (.r 84)),gt 86 83 (.fL 1 (.r 85)),gt 87 83 (.ld 1 false (.r 86)),gt 88 83 (.un .not (.r 87)),op 89 (.pick (.r 83) (.r 88) (.c (.bool false)))]<|cx 89 0)<|sq (.block 1 (so [mv 92 8,cl 93 86 [.r 92],mv 12 93]<|.ops [mv 94 10,mv 95 12,mv 96 8,cl 97 85 [.r 96,(.c (.int .i64 8))],op 98 (.build [.str ⟨#[]⟩,.int .u64 0] [(0,1,(.r 95)),(1,1,(.r 97))]),op 99 (.mJ 1 [.str ⟨#[]⟩,.int .u64 0] [(0,(.r 98))]),op 100 (.app 2 24 false (.r 94) (.r 99)),mv 10 100]))<|.ops [mv 90 11,op 91 (.bin .sub (.r 90) (.c (.int .u64 1))),mv 11 91])))<|so [op 13 (.ar (.c (.sl .nil [])))]<|sq (so [mv 101 8,cl 102 85 [.r 101,(.c (.int .i64 4))],mv 14 102]<|.block 2 (.loop (sq (so [mv 103 14,op 104 (.bin .gtr (.r 103) (.c (.int .u64 0))),mv 105 104,mt 106 8 105,gt 107 105 (.lS (.r 106)),gt 108 105 (.fL 1 (.r 107)),gt 109 105 (.ld 1 false (.r 108)),gt 110 105 (.un .not (.r 109)),op 111 (.pick (.r 105) (.r 110) (.c (.bool false)))]<|cx 111 2)<|sq (.block 3 (so [mv 114 8,cl 115 86 [.r 114],op 116 (.build [.str ⟨#[]⟩,.int .u64 0,.str ⟨#[]⟩,.sl .nil []] [(0,1,(.r 115))]),op 15 (.alloc [.str ⟨#[]⟩,.int .u64 0,.str ⟨#[]⟩,.sl .nil []]),se 4 15 116]<|so [mv 117 8,cl 118 85 [.r 117,(.c (.int .i64 8))],fa 119 1 15,se 1 119 118]<|so [mv 120 8,cl 121 86 [.r 120],fa 122 2 15,se 1 122 121]<|sq (so [mv 123 8,cl 124 85 [.r 123,(.c (.int .i64 4))],mv 16 124]<|.block 4 (.loop (sq (so [mv 125 16,op 126 (.bin .gtr (.r 125) (.c (.int .u64 0))),mv 127 126,mt 128 8 127,gt 129 127 (.lS (.r 128)),gt 130 127 (.fL 1 (.r 129)),gt 131 127 (.ld 1 false (.r 130)),gt 132 127 (.un .not (.r 131)),op 133 (.pick (.r 127) (.r 132) (.c (.bool false)))]<|cx 133 4)<|sq (.block 5 (.ops [fa 136 3 15,l1 137 136,mv 138 8,⟨(some 139),.call 86 [.r 138],none,[⟨137,.ld 1 false (.r 136),none⟩]⟩,op 140 (.mJ 1 [.str ⟨#[]⟩] [(0,(.r 139))]),op 141 (.app 1 16 false (.r 137) (.r 140)),fa 142 3 15,se 1 142 141]))<|.ops [mv 134 16,op 135 (.bin .sub (.r 134) (.c (.int .u64 1))),mv 16 135])))<|so [ln 143 4 15,op 144 (.build [.str ⟨#[]⟩,.int .u64 0,.str ⟨#[]⟩,.sl .nil [],.int .i64 0] [(0,4,(.r 143)),(4,1,(.c (.int .i64 (-1))))]),op 17 (.alloc [.str ⟨#[]⟩,.int .u64 0,.str ⟨#[]⟩,.sl .nil [],.int .i64 0]),se 5 17 144]<|sq (so [fa 145 1 15,l1 146 145,mv 147 10,fa 148 0 15,l1 149 148,⟨(some 150),.call 87 [.r 147,.r 149],none,[⟨146,.ld 1 false (.r 145),none⟩]⟩,b2 151 .lss 146 150]<|.cond (.r 151) (.ops [mv 152 1,fa 153 4 17,se 1 153 152]) (.skip))<|.ops [mv 154 13,ln 155 5 17,op 156 (.mJ 1 [.str ⟨#[]⟩,.int .u64 0,.str ⟨#[]⟩,.sl .nil [],.int .i64 0] [(0,(.r 155))]),op 157 (.app 5 72 false (.r 154) (.r 156)),mv 13 157]))<|.ops [mv 112 14,op 113 (.bin .sub (.r 112) (.c (.int .u64 1))),mv 14 113])))<|sq (so [mv 158 8,nc 159 158,fa 160 1 159,l1 161 160,mv 162 161,mf 163 8 162,gf 164 162 (.lS (.r 163)),gf 165 162 (.fL 0 (.r 164)),gf 166 162 (.ld 1 false (.r 165)),gf 167 162 (.len .sl (.r 166)),gf 168 162 (.bin .gtr (.r 167) (.c (.int .i64 0))),op 169 (.pick (.r 162) (.c (.bool true)) (.r 168))]<|.cond (.r 169) (so [op 4 (.ar (.c (.int .i64 0))),op 5 (.ar (.c .br)),op 6 (.ar (.c (.int .i64 2)))]<|.ret) (.skip))<|so [mv 171 13,mv 172 10,cl 173 88 [.r 171,.r 172],mv 170 173,xt 174 0 170,xt 175 1 170,mv 18 174,mv 19 175]<|sq (so [mv 176 19,op 177 (.bin .neq (.r 176) (.c (.int .i64 0)))]<|.cond (.r 177) (so [op 4 (.ar (.c (.int .i64 0))),op 5 (.ar (.c .br)),op 6 (.ar (.c (.int .i64 2)))]<|.ret) (.skip))<|so [mv 179 9,mv 180 18,cl 181 11 [.r 179,.r 180],mv 178 181,xt 182 0 178,xt 183 1 178,mv 20 182,mv 21 183]<|sq (so [mv 184 21,op 185 (.bin .neq (.r 184) (.c (.int .i64 0))),mv 186 185,mf 187 20 186,gf 188 186 (.AO (.r 187)),mf 189 0 186,gf 190 186 (.AO (.r 189)),gf 191 186 (.bin .neq (.r 188) (.r 190)),op 192 (.pick (.r 186) (.c (.bool true)) (.r 191))]<|.cond (.r 192) (so [op 4 (.ar (.c (.int .i64 0))),op 5 (.ar (.c .br)),op 6 (.ar (.c (.int .i64 2)))]<|.ret) (.skip))<|so [mv 193 9,mv 194 18,mv 4 193,mv 5 194,op 6 (.ar (.c (.int .i64 0)))]<|.ret⟩
def aav:An:=⟨[],[]⟩
def PI:Go.Rmp.Fn:=⟨7,1,[.t 2],so [op 2 (.ar (.c .br))]<|so [mv 3 0,cl 4 74 [.r 3],op 5 (.build [.sl .nil [],.int .i64 0] [(0,1,(.r 4))]),op 6 (.box (.r 5)),mv 2 6]<|.ret⟩
def aaw:An:=⟨[],[]⟩
def PJ:Go.Rmp.Fn:=⟨6,1,[.t 2],so [op 2 (.ar (.c (.int .u32 0)))]<|so [mv 3 0,cl 4 89 [.r 3,(.c (.int .i64 4))],op 5 (.fG .u32 (.r 4)),mv 2 5]<|.ret⟩
def aax:An:=⟨[],[]⟩
def PK:Go.Rmp.Fn:=⟨6,1,[.t 2],so [op 2 (.ar (.c (.int .u8 0)))]<|so [mv 3 0,cl 4 89 [.r 3,(.c (.int .i64 1))],op 5 (.fG .u8 (.r 4)),mv 2 5]<|.ret⟩
def aay:An:=⟨[],[]⟩
def PL:Go.Rmp.Fn:=⟨5,1,[.t 2],so [op 2 (.ar (.c (.int .u64 0)))]<|so [mv 3 0,cl 4 89 [.r 3,(.c (.int .i64 8))],mv 2 4]<|.ret⟩
def aaz:An:=⟨[],[]⟩
def PM:Go.Rmp.Fn:=⟨36,1,[.t 2,.t 3],so [op 2 (.ar (.c (.sl .nil []))),op 3 (.ar (.c .hY))]<|so [op 4 (.ar (.c (.sl .nil [])))]<|so [op 8 (.AP),mv 5 8]<|sq (so [mv 9 0,cl 10 53 [.r 9,(.c (.int .i64 2147483647))],mv 6 10]<|.block 0 (.loop (sq (so [mv 11 6,op 12 (.bin .gtr (.r 11) (.c (.int .i64 0))),mv 13 12,mt 14 0 13,⟨(some 15),.call 54 [.r 14],(some (13,true)),[]⟩,gt 16 13 (.bin .eql (.r 15) (.c (.int .i64 0))),op 17 (.pick (.r 13) (.r 16) (.c (.bool false)))]<|cx 17 0)<|sq (.block 1 (so [mv 20 0,cl 21 55 [.r 20,(.c (.int .i64 65535))],mv 22 0,cl 23 51 [.r 22],op 24 (.build [.str ⟨#[]⟩,.int .u64 0] [(0,1,(.r 21)),(1,1,(.r 23))]),op 7 (.alloc [.str ⟨#[]⟩,.int .u64 0]),se 2 7 24]<|so [mv 25 4,ln 26 2 7,op 27 (.mJ 1 [.str ⟨#[]⟩,.int .u64 0] [(0,(.r 26))]),op 28 (.app 2 24 false (.r 25) (.r 27)),mv 4 28]<|.ops [mv 29 5,fa 30 0 7,l1 31 30,fa 32 1 7,l1 33 32,ef (.AQ (.sc .str) (.r 29) (.r 31) (.r 33))]))<|.ops [mv 18 6,op 19 (.bin .sub (.r 18) (.c (.int .i64 1))),mv 6 19])))<|so [mv 34 4,mv 35 5,mv 2 34,mv 3 35]<|.ret⟩
def aaA:An:=⟨[],[]⟩
def PN:Go.Rmp.Fn:=⟨23,2,[.t 4],so [op 4 (.ar (.c (.int .i64 0)))]<|so [mv 8 0,mv 9 1,cl 10 90 [.r 8,.r 9],mv 7 10,xt 11 0 7,xt 12 1 7,mv 5 11,mv 6 12]<|sq (so [mv 13 6]<|.cond (.r 13) (.ops [mv 14 0,mv 15 0,nc 16 15,fa 17 0 16,l1 18 17,op 19 (.gH 1 (.r 18) (some (.c (.int .i64 4))) none none),nc 20 14,fa 21 0 20,se 1 21 19]) (.skip))<|so [mv 22 5,mv 4 22]<|.ret⟩
def aaB:An:=⟨[],[]⟩
def La:Go.Rmp.Fn:=⟨7,1,[.t 2],so [op 2 (.ar (.c (.int .i64 0)))]<|so [mv 3 0,nc 4 3,fa 5 1 4,l1 6 5,mv 2 6]<|.ret⟩
def aaC:An:=⟨[],[]⟩
def PO:Go.Rmp.Fn:=⟨46,2,[.t 4],so [op 4 (.ar (.c (.str ⟨#[]⟩)))]<|so [mv 9 0,mv 10 1,cl 11 90 [.r 9,.r 10],mv 8 11,xt 12 0 8,xt 13 1 8,mv 5 12,mv 6 13]<|sq (so [mv 14 6,op 15 (.un .not (.r 14))]<|.cond (.r 15) (so [op 4 (.ar (.c (.str ⟨#[]⟩)))]<|.ret) (.skip))<|sq (so [mv 16 0,nc 17 16,fa 18 0 17,l1 19 18,dG 20 19,op 21 (.bin .sub (.r 20) (.c (.int .i64 4))),mv 22 5,b2 23 .lss 21 22]<|.cond (.r 23) (so [mv 24 0,nc 25 24,fa 26 1 25,ef (.st 1 (.r 26) (.c (.int .i64 4)))]<|so [op 4 (.ar (.c (.str ⟨#[]⟩)))]<|.ret) (.skip))<|so [mv 27 0,nc 28 27,fa 29 0 28,l1 30 29,mv 31 5,op 32 (.bin .add (.c (.int .i64 4)) (.r 31)),op 33 (.gH 1 (.r 30) (some (.c (.int .i64 4))) (some (.r 32)) none),op 34 (.AO (.r 33)),mv 7 34]<|so [mv 35 0,mv 36 0,nc 37 36,fa 38 0 37,l1 39 38,mv 40 5,op 41 (.bin .add (.c (.int .i64 4)) (.r 40)),op 42 (.gH 1 (.r 39) (some (.r 41)) none none),nc 43 35,fa 44 0 43,se 1 44 42]<|so [mv 45 7,mv 4 45]<|.ret⟩
def aaD:An:=⟨[],[]⟩
def PQ:Go.Rmp.Fn:=⟨42,3,[.t 6],so [op 6 (.ar (.c (.sl .nil [])))]<|so [mv 10 0,nc 11 10,fa 12 0 11,l1 13 12,mv 7 13]<|so [mv 14 0,mv 15 1,cl 16 53 [.r 14,.r 15],mv 8 16]<|so [op 9 (.ar (.c (.sl .nil [])))]<|sq (so [mv 17 8,op 18 (.ar (.c (.int .i64 0)))]<|.block 0 (.loop (so [b2 19 .lss 18 17]<|sq (cx 19 0)<|sq (.block 1 (so [mv 20 9,mv 21 0,mv 22 2,cl 23 55 [.r 21,.r 22],op 24 (.mJ 1 [.str ⟨#[]⟩] [(0,(.r 23))]),op 25 (.app 1 16 false (.r 20) (.r 24)),mv 9 25]<|so [mv 26 0,nc 27 26,fa 28 1 27,l1 29 28,op 30 (.bin .neq (.r 29) (.c (.int .i64 0)))]<|.cond (.r 30) (.exit 0) (.skip)))<|.ops [op 31 (.bin .add (.r 18) (.c (.int .i64 1))),mv 18 31])))<|sq (so [mv 32 0,nc 33 32,fa 34 1 33,l1 35 34,op 36 (.bin .neq (.r 35) (.c (.int .i64 0)))]<|.cond (.r 36) (so [mv 37 0,mv 38 7,nc 39 37,fa 40 0 39,se 1 40 38]<|so [op 6 (.ar (.c (.sl .nil [])))]<|.ret) (.skip))<|so [mv 41 9,mv 6 41]<|.ret⟩
def aaE:An:=⟨[],[]⟩
def Gx:Go.Rmp.Fn:=⟨20,1,[.t 2],so [op 2 (.ar (.c (.int .i64 0)))]<|sq (so [mv 3 0,nc 4 3,fa 5 1 4,l1 6 5,op 7 (.bin .eql (.r 6) (.c (.int .i64 0))),mv 8 7,mt 9 0 8,gt 10 8 (.lS (.r 9)),gt 11 8 (.fL 0 (.r 10)),gt 12 8 (.ld 1 false (.r 11)),gt 13 8 (.len .sl (.r 12)),gt 14 8 (.bin .gtr (.r 13) (.c (.int .i64 0))),op 15 (.pick (.r 8) (.r 14) (.c (.bool false)))]<|.cond (.r 15) (so [op 2 (.ar (.c (.int .i64 5)))]<|.ret) (.skip))<|so [mv 16 0,nc 17 16,fa 18 1 17,l1 19 18,mv 2 19]<|.ret⟩
def aaF:An:=⟨[],[(5,[(0,true),(1,true),(2,true),(3,true),(4,true),(5,true),(6,true),(7,true),(8,true),(9,true),(10,true),(11,true),(12,true)]),(7,[(0,true),(1,true),(2,true),(3,true),(4,true),(5,true),(6,true),(7,true),(8,false)]),(13,[(0,true),(1,true),(2,true),(3,true),(4,true),(5,true),(6,true),(7,true),(8,true),(9,true),(10,true),(11,true),(12,true),(13,true),(14,true),(15,true),(16,true),(17,true),(18,true),(19,false),(20,true),(21,true),(22,true),(23,true),(24,true),(25,false),(26,true),(27,true)]),(15,[(0,true),(1,true),(2,true),(3,true),(4,true),(5,true),(6,true),(7,true),(9,true),(10,true),(8,false),(11,true),(12,false)])]⟩
def PS:Go.Rmp.Fn:=⟨126,2,[.t 4,.t 5],so [op 4 (.ar (.c .br)),op 5 (.ar (.c (.int .i64 0)))]<|so [cl 16 28 [],mv 6 16]<|sq (so [mv 17 1,dG 18 17,op 19 (.ar (.c (.int .i64 0)))]<|.block 0 (.loop (so [b2 20 .lss 19 18]<|sq (cx 20 0)<|sq (.block 1 (so [mv 21 19,ia 22 2 17 19,ln 23 2 22,op 8 (.alloc [.str ⟨#[]⟩,.int .u64 0]),mv 7 21,se 2 8 23]<|sq (so [mv 24 7,op 25 (.bin .gtr (.r 24) (.c (.int .i64 0))),mv 26 25,gt 27 26 (.fL 0 (.r 8)),gt 28 26 (.ld 1 false (.r 27)),mt 29 1 26,mt 30 7 26,gt 31 26 (.bin .sub (.r 30) (.c (.int .i64 1))),gt 32 26 (.eF 2 (.r 29) (.r 31)),gt 33 26 (.fL 0 (.r 32)),gt 34 26 (.ld 1 false (.r 33)),gt 35 26 (.bin .leq (.r 28) (.r 34)),op 36 (.pick (.r 26) (.r 35) (.c (.bool false)))]<|.cond (.r 36) (so [op 4 (.ar (.c .br)),op 5 (.ar (.c (.int .i64 1)))]<|.ret) (.skip))<|.ops [mv 37 6,nc 38 37,fa 39 3 38,l1 40 39,fa 41 0 8,l1 42 41,fa 43 1 8,l1 44 43,ef (.AQ (.sc .str) (.r 40) (.r 42) (.r 44))]))<|.ops [op 45 (.bin .add (.r 19) (.c (.int .i64 1))),mv 19 45])))<|sq (so [mv 46 0,dG 47 46,op 48 (.ar (.c (.int .i64 0)))]<|.block 2 (.loop (so [b2 49 .lss 48 47]<|sq (cx 49 2)<|sq (.block 3 (so [mv 50 48,ia 51 5 46 48,ln 52 5 51,op 10 (.alloc [.str ⟨#[]⟩,.int .u64 0,.str ⟨#[]⟩,.sl .nil [],.int .i64 0]),mv 9 50,se 5 10 52]<|so [fa 53 0 10,fa 54 0 53,l1 55 54,fa 56 0 10,fa 57 1 56,l1 58 57,op 59 (.build [.str ⟨#[]⟩,.int .u64 0] [(0,1,(.r 55)),(1,1,(.r 58))]),op 11 (.alloc [.str ⟨#[]⟩,.int .u64 0]),se 2 11 59]<|sq (so [mv 60 9,op 61 (.bin .gtr (.r 60) (.c (.int .i64 0))),mv 62 61,mt 63 0 62,mt 64 9 62,gt 65 62 (.bin .sub (.r 64) (.c (.int .i64 1))),gt 66 62 (.eF 5 (.r 63) (.r 65)),gt 67 62 (.fL 0 (.r 66)),gt 68 62 (.fL 0 (.r 67)),gt 69 62 (.ld 1 false (.r 68)),mt 70 0 62,mt 71 9 62,gt 72 62 (.bin .sub (.r 71) (.c (.int .i64 1))),gt 73 62 (.eF 5 (.r 70) (.r 72)),gt 74 62 (.fL 0 (.r 73)),gt 75 62 (.fL 1 (.r 74)),gt 76 62 (.ld 1 false (.r 75)),gt 77 62 (.build [.str ⟨#[]⟩,.int .u64 0] [(0,1,(.r 69)),(1,1,(.r 76))]),gt 78 62 (.ld 2 true (.r 11)),⟨(some 79),.call 61 [.r 77,.r 78],(some (62,true)),[]⟩,gt 80 62 (.bin .geq (.r 79) (.c (.int .i64 0))),op 81 (.pick (.r 62) (.r 80) (.c (.bool false))),mv 82 81,mf 83 6 82,gf 84 82 (.ld 5 true (.r 10)),⟨(some 85),.call 91 [.r 83,.r 84],(some (82,false)),[]⟩,gf 86 82 (.un .not (.r 85)),op 87 (.pick (.r 82) (.c (.bool true)) (.r 86))]<|.cond (.r 87) (so [op 4 (.ar (.c .br)),op 5 (.ar (.c (.int .i64 1)))]<|.ret) (.skip))<|.ops [mv 88 6,ln 89 2 11,fa 90 0 10,fa 91 2 90,l1 92 91,fa 93 0 10,fa 94 3 93,l1 95 94,fa 97 4 10,l1 98 97,⟨(some 96),.call 69 [.r 95],none,[⟨89,.ld 2 true (.r 11),none⟩,⟨92,.ld 1 false (.r 91),none⟩,⟨98,.ld 1 false (.r 97),none⟩]⟩,op 99 (.build [.str ⟨#[]⟩,.sl .nil [],.int .i64 0] [(0,1,(.r 92)),(1,1,(.r 96)),(2,1,(.r 98))]),cl 100 68 [.r 88,.r 89,.r 99]]))<|.ops [op 101 (.bin .add (.r 48) (.c (.int .i64 1))),mv 48 101])))<|sq (so [mv 102 6,nc 103 102,fa 104 3 103,l1 105 104,op 106 (.N8 (.r 105))]<|.block 4 (.loop (so [op 107 (.qM (.r 106)),xt 108 0 107]<|sq (cx 108 4)<|.block 5 (so [op 109 (.N9 (.r 106)),xt 110 0 109,xt 111 1 109,mv 12 110,mv 13 111]<|so [mv 113 6,nc 114 113,fa 115 0 114,l1 116 115,mv 117 12,mv 118 13,op 119 (.build [.str ⟨#[]⟩,.int .u64 0] [(0,1,(.r 117)),(1,1,(.r 118))]),op 120 (.om (.st [.str,.int]) (.agg [.str ⟨#[]⟩,.sl .nil [],.int .i64 0]) true (.r 116) (.r 119)),mv 112 120,xt 121 0 112,xt 122 1 112,op 14 (.alloc [.str ⟨#[]⟩,.sl .nil [],.int .i64 0]),se 3 14 121,mv 15 122]<|so [mv 123 15,op 124 (.un .not (.r 123))]<|.cond (.r 124) (so [op 4 (.ar (.c .br)),op 5 (.ar (.c (.int .i64 1)))]<|.ret) (.skip)))))<|so [mv 125 6,mv 4 125,op 5 (.ar (.c (.int .i64 0)))]<|.ret⟩
def aaG:An:=⟨[],[]⟩
def PT:Go.Rmp.Fn:=⟨12,2,[.t 4],so [op 4 (.ar (.c (.sl .nil [])))]<|so [mv 6 0,cl 7 92 [.r 6],mv 5 7]<|so [mv 8 5,mv 9 1,cl 10 93 [.r 8,.r 9]]<|so [mv 11 5,mv 4 11]<|.ret⟩
def aaH:An:=⟨[],[]⟩
def PU:Go.Rmp.Fn:=⟨4,1,[.t 2],so [op 1 (.box (.r 0)),op 2 (.ar (.c .nG))]<|so [op 3 (.JG 94 [.r 1]),mv 2 3]<|.ret⟩
def aaI:An:=⟨[],[(1,[(0,true),(1,true),(2,true),(3,true),(5,true),(6,true),(7,true),(8,true),(4,false),(9,false),(10,true),(11,false),(12,true)])]⟩
def PX:Go.Rmp.Fn:=⟨17,2,[.t 4],so [op 2 (.box (.r 0)),op 3 (.box (.r 1)),op 4 (.ar (.c (.int .i64 0)))]<|so [fa 5 0 2,l1 6 5,fa 7 0 3,l1 8 7,fa 10 1 2,l1 11 10,fa 12 1 3,l1 13 12,⟨(some 9),.call 96 [.r 6,.r 8],none,[⟨11,.ld 1 false (.r 10),none⟩,⟨13,.ld 1 false (.r 12),none⟩]⟩,cl 14 97 [.r 11,.r 13],op 15 (.mJ 2 [.int .i64 0] [(0,(.r 9)),(1,(.r 14))]),cl 16 95 [.r 15],mv 4 16]<|.ret⟩
def aaJ:An:=⟨[],[(1,[(0,true),(1,true),(2,true),(3,true),(4,true),(5,true),(6,true),(7,false)]),(2,[(0,true),(1,true),(2,true),(3,true),(4,true),(5,true),(6,true),(7,true),(8,false),(9,true),(10,false)])]⟩
def PY:Go.Rmp.Fn:=⟨22,2,[.cl 4 4 true],so [op 3 (.box (.r 1)),op 4 (.alloc [.str ⟨#[]⟩,.int .u64 0,.str ⟨#[]⟩,.sl .nil []])]<|so [mv 6 0,nc 7 6,fa 8 0 7,l1 9 8,ln 10 2 3,op 11 (.om (.st [.str,.int]) (.agg [.str ⟨#[]⟩,.sl .nil [],.int .i64 0]) false (.r 9) (.r 10)),op 5 (.alloc [.str ⟨#[]⟩,.sl .nil [],.int .i64 0]),se 3 5 11]<|so [fa 12 0 3,l1 13 12,fa 14 1 3,l1 15 14,fa 16 0 5,l1 17 16,fa 18 1 5,l1 19 18,⟨(some 20),.call 69 [.r 19],none,[⟨13,.ld 1 false (.r 12),none⟩,⟨15,.ld 1 false (.r 14),none⟩,⟨17,.ld 1 false (.r 16),none⟩]⟩,op 21 (.build [.str ⟨#[]⟩,.int .u64 0,.str ⟨#[]⟩,.sl .nil []] [(0,1,(.r 13)),(1,1,(.r 15)),(2,1,(.r 17)),(3,1,(.r 20))]),se 4 4 21]<|.ret⟩
def aaK:An:=⟨[],[(6,[(0,true),(1,true),(2,true),(3,true),(4,true),(5,true),(6,true),(7,true),(8,true)])]⟩
def PZ:Go.Rmp.Fn:=⟨26,2,[.t 4],so [op 4 (.ar (.c (.bool false)))]<|sq (so [mv 6 0,dG 7 6,mv 8 1,dG 9 8,b2 10 .neq 7 9]<|.cond (.r 10) (so [op 4 (.ar (.c (.bool false)))]<|.ret) (.skip))<|sq (so [op 5 (.ar (.c (.int .i64 0)))]<|.block 0 (.loop (sq (so [mv 11 5,mv 12 0,dG 13 12,b2 14 .lss 11 13]<|cx 14 0)<|sq (.block 1 (so [mv 17 0,mv 18 5,ia 19 1 17 18,l1 20 19,mv 21 1,mv 22 5,ia 23 1 21 22,l1 24 23,b2 25 .neq 20 24]<|.cond (.r 25) (so [op 4 (.ar (.c (.bool false)))]<|.ret) (.skip)))<|.ops [mv 15 5,op 16 (.bin .add (.r 15) (.c (.int .i64 1))),mv 5 16])))<|so [op 4 (.ar (.c (.bool true)))]<|.ret⟩
def aaL:An:=⟨[],[]⟩
def P0:Go.Rmp.Fn:=⟨9,1,[.t 2],so [op 2 (.ar (.c (.sl .nil [])))]<|so [mv 4 0,cl 5 98 [.r 4],mv 3 5]<|so [mv 6 3,cl 7 99 [.r 6]]<|so [mv 8 3,mv 2 8]<|.ret⟩
def aaM:An:=⟨[],[]⟩
def P1:Go.Rmp.Fn:=⟨4,1,[.t 2],so [op 1 (.box (.r 0)),op 2 (.ar (.c .nG))]<|so [op 3 (.JG 100 [.r 1]),mv 2 3]<|.ret⟩
def aaN:An:=⟨[],[(6,[(0,true),(1,true),(2,true),(3,true),(4,true),(5,true),(6,true),(7,true),(8,true),(9,true),(10,true),(11,true),(12,true),(13,true),(14,true),(15,true),(16,true),(17,false),(18,true),(19,true),(20,true),(21,true),(22,true),(23,true),(24,true),(25,true)])]⟩
def Lb:Go.Rmp.Fn:=⟨55,3,[.t 6],so [op 6 (.ar (.c (.bool false)))]<|sq (so [mv 9 0,op 10 (.bin .lss (.r 9) (.c (.int .u64 65536))),mv 11 10,mf 12 2 11,⟨(some 13),.call 101 [.r 12],(some (11,false)),[]⟩,gf 14 11 (.un .not (.r 13)),op 15 (.pick (.r 11) (.c (.bool true)) (.r 14)),mv 16 15,mf 17 1 16,gf 18 16 (.len .sl (.r 17)),gf 19 16 (.bin .lss (.r 18) (.c (.int .i64 1))),op 20 (.pick (.r 16) (.c (.bool true)) (.r 19))]<|.cond (.r 20) (so [op 6 (.ar (.c (.bool false)))]<|.ret) (.skip))<|sq (so [mv 21 1,dG 22 21,op 23 (.ar (.c (.int .i64 0)))]<|.block 0 (.loop (so [b2 24 .lss 23 22]<|sq (cx 24 0)<|sq (.block 1 (so [mv 25 23,ia 26 2 21 23,ln 27 2 26,op 8 (.alloc [.str ⟨#[]⟩,.str ⟨#[]⟩]),mv 7 25,se 2 8 27]<|so [mv 28 7,op 29 (.bin .gtr (.r 28) (.c (.int .i64 0))),mv 30 29,gt 31 30 (.fL 0 (.r 8)),gt 32 30 (.ld 1 false (.r 31)),mt 33 1 30,mt 34 7 30,gt 35 30 (.bin .sub (.r 34) (.c (.int .i64 1))),gt 36 30 (.eF 2 (.r 33) (.r 35)),gt 37 30 (.fL 0 (.r 36)),gt 38 30 (.ld 1 false (.r 37)),gt 39 30 (.bin .leq (.r 32) (.r 38)),op 40 (.pick (.r 30) (.r 39) (.c (.bool false))),mv 41 40,mf 42 2 41,gf 43 41 (.fL 0 (.r 8)),gf 44 41 (.ld 1 false (.r 43)),⟨(some 45),.call 102 [.r 42,.r 44],(some (41,false)),[]⟩,gf 46 41 (.un .not (.r 45)),op 47 (.pick (.r 41) (.c (.bool true)) (.r 46)),mv 48 47,gf 49 48 (.fL 1 (.r 8)),gf 50 48 (.ld 1 false (.r 49)),gf 51 48 (.len .str (.r 50)),gf 52 48 (.bin .gtr (.r 51) (.c (.int .i64 65535))),op 53 (.pick (.r 48) (.c (.bool true)) (.r 52))]<|.cond (.r 53) (so [op 6 (.ar (.c (.bool false)))]<|.ret) (.skip)))<|.ops [op 54 (.bin .add (.r 23) (.c (.int .i64 1))),mv 23 54])))<|so [op 6 (.ar (.c (.bool true)))]<|.ret⟩
def aaO:An:=⟨[],[]⟩
def Ld:Go.Rmp.Fn:=⟨9,1,[.t 2],so [op 2 (.ar (.c (.bool false)))]<|so [mv 3 0,op 4 (.bin .geq (.r 3) (.c (.int .i64 0))),mv 5 4,mt 6 0 5,gt 7 5 (.bin .leq (.r 6) (.c (.int .i64 1099511627776))),op 8 (.pick (.r 5) (.r 7) (.c (.bool false))),mv 2 8]<|.ret⟩
def aaP:An:=⟨[(3,16),(4,16)],[(1,[(0,true),(1,true),(2,true),(3,true),(4,true),(5,true),(6,false)]),(2,[(0,true),(1,true),(2,true),(3,true),(4,true),(5,true),(6,true),(7,true),(8,true),(9,false),(10,true),(11,true),(12,true),(13,true),(14,true)]),(3,[(0,true),(1,true),(2,true),(3,true),(4,true),(5,true),(6,true),(7,true),(8,true),(9,true),(10,true),(11,true),(12,true),(13,true),(14,true),(15,true),(16,false),(17,false),(18,false)]),(4,[(0,true),(1,true),(2,true),(3,true),(4,true),(5,true),(6,true),(7,true),(8,true),(9,true),(10,true),(11,true),(12,true),(13,true),(14,true),(15,true),(16,false),(17,false)])]⟩
def P2:Go.Rmp.Fn:=⟨62,3,[],so [op 4 (.box (.r 1)),op 5 (.box (.r 2))]<|so [mv 8 0,nc 9 8,fa 10 0 9,l1 11 10,ln 12 2 4,ln 13 3 5,ef (.AQ (.st [.str,.int]) (.r 11) (.r 12) (.r 13))]<|so [mv 15 0,nc 16 15,fa 17 1 16,l1 18 17,fa 19 0 4,l1 20 19,op 21 (.om (.sc .str) (.sl .nil []) false (.r 18) (.r 20)),fa 22 1 4,l1 23 22,cl 24 103 [.r 21,.r 23],mv 14 24,xt 25 0 14,xt 26 1 14,mv 6 25,mv 7 26]<|so [mv 27 0,nc 28 27,fa 29 1 28,l1 30 29,fa 31 0 4,l1 32 31,mv 33 0,nc 34 33,fa 35 1 34,l1 36 35,fa 37 0 4,l1 38 37,op 39 (.om (.sc .str) (.sl .nil []) false (.r 36) (.r 38)),mv 40 6,fa 41 1 4,l1 42 41,⟨(some 43),.b (.Sp 1 [.int .u64 0] [(0,(.r 42))]),none,[⟨30,.ld 1 false (.r 29),none⟩,⟨32,.ld 1 false (.r 31),none⟩,⟨36,.ld 1 false (.r 35),none⟩,⟨38,.ld 1 false (.r 37),none⟩,⟨39,.om (.sc .str) (.sl .nil []) false (.r 36) (.r 38),none⟩]⟩,⟨(some 44),.call 104 [.r 39,.r 40,.r 43],none,[⟨30,.ld 1 false (.r 29),none⟩,⟨32,.ld 1 false (.r 31),none⟩]⟩,ef (.AQ (.sc .str) (.r 30) (.r 32) (.r 44))]<|.ops [mv 45 0,nc 46 45,fa 47 2 46,l1 48 47,fa 49 1 4,l1 50 49,mv 51 0,nc 52 51,fa 53 2 52,l1 54 53,fa 55 1 4,l1 56 55,op 57 (.om (.sc .int) (.sl .nil []) false (.r 54) (.r 56)),fa 58 0 4,l1 59 58,op 60 (.mJ 1 [.str ⟨#[]⟩] [(0,(.r 59))]),⟨(some 61),.b (.app 1 16 true (.r 57) (.r 60)),none,[⟨48,.ld 1 false (.r 47),none⟩,⟨50,.ld 1 false (.r 49),none⟩]⟩,ef (.AQ (.sc .int) (.r 48) (.r 50) (.r 61))]⟩
def aaQ:An:=⟨[],[]⟩
def vY:Go.Rmp.Fn:=⟨8,1,[.t 2],so [op 2 (.ar (.c (.sl .nil [])))]<|sq (so [mv 3 0,op 4 (.nH false .slice (.r 3) (.c (.sl .nil [])))]<|.cond (.r 4) (so [op 2 (.ar (.c (.sl .nil [])))]<|.ret) (.skip))<|so [op 5 (.mJ 0 [.str ⟨#[]⟩] []),mv 6 0,op 7 (.app 1 16 false (.r 5) (.r 6)),mv 2 7]<|.ret⟩
def aaR:An:=⟨[],[]⟩
def P3:Go.Rmp.Fn:=⟨8,2,[.t 4],so [op 3 (.box (.r 1)),op 4 (.ar (.c (.sl .nil [])))]<|so [mv 5 0,op 6 (.JG 106 [.r 3]),cl 7 105 [.r 5,.r 6],mv 4 7]<|.ret⟩
def aaS:An:=⟨[],[]⟩
def P4:Go.Rmp.Fn:=⟨8,2,[.t 4],so [op 3 (.box (.r 1)),op 4 (.ar (.c (.sl .nil [])))]<|so [mv 5 0,op 6 (.JG 108 [.r 3]),cl 7 107 [.r 5,.r 6],mv 4 7]<|.ret⟩
def aaT:An:=⟨[],[(1,[(0,true),(1,true),(2,true),(3,true),(4,true),(5,true),(6,true),(7,true),(8,true),(9,true),(10,true),(11,true),(12,true),(13,true),(14,true),(15,true),(16,true),(17,true),(18,true)])]⟩
def P5:Go.Rmp.Fn:=⟨32,2,[.t 4],so [op 4 (.ar (.c (.bool false)))]<|sq (so [mv 5 0,nc 6 5,fa 7 2 6,l1 8 7,op 9 (.bin .eql (.r 8) (.c (.int .i64 0))),mv 10 9,mt 11 1 10,mt 12 0 10,gt 13 10 (.lS (.r 12)),gt 14 10 (.fL 0 (.r 13)),gt 15 10 (.ld 1 false (.r 14)),mt 16 0 10,gt 17 10 (.lS (.r 16)),gt 18 10 (.fL 1 (.r 17)),gt 19 10 (.ld 1 false (.r 18)),gt 20 10 (.len .sl (.r 19)),gt 21 10 (.bin .sub (.r 15) (.r 20)),gt 22 10 (.bin .gtr (.r 11) (.r 21)),op 23 (.pick (.r 10) (.r 22) (.c (.bool false)))]<|.cond (.r 23) (.ops [mv 24 0,nc 25 24,fa 26 2 25,ef (.st 1 (.r 26) (.c (.int .i64 3)))]) (.skip))<|so [mv 27 0,nc 28 27,fa 29 2 28,l1 30 29,op 31 (.bin .eql (.r 30) (.c (.int .i64 0))),mv 4 31]<|.ret⟩
def aaU:An:=⟨[],[(3,[(0,true),(1,true),(2,true),(3,true),(4,true),(5,true),(6,true),(7,true),(8,true),(9,true),(10,true),(11,false),(12,true),(13,true),(14,false)])]⟩
def P6:Go.Rmp.Fn:=⟨27,3,[],so [mv 7 2,op 8 (.bin .sub (.r 7) (.c (.int .i64 1))),mv 6 8]<|.block 0 (.loop (sq (so [mv 9 6,op 10 (.bin .geq (.r 9) (.c (.int .i64 0)))]<|cx 10 0)<|sq (.block 1 (.ops [mv 13 0,mv 14 0,nc 15 14,fa 16 1 15,l1 17 16,mv 18 1,mv 19 6,op 20 (.bin .mul (.c (.int .i64 8)) (.r 19)),b2 21 .shr 18 20,op 22 (.fG .u8 (.r 21)),op 23 (.mJ 1 [.int .u8 0] [(0,(.r 22))]),op 24 (.app 1 1 false (.r 17) (.r 23)),nc 25 13,fa 26 1 25,se 1 26 24]))<|.ops [mv 11 6,op 12 (.bin .sub (.r 11) (.c (.int .i64 1))),mv 6 12]))⟩
def aaV:An:=⟨[],[]⟩
def Gy:Go.Rmp.Fn:=⟨8,1,[.t 2],so [op 2 (.ar (.c (.sl .nil [])))]<|sq (so [mv 3 0,op 4 (.nH false .slice (.r 3) (.c (.sl .nil [])))]<|.cond (.r 4) (so [op 2 (.ar (.c (.sl .nil [])))]<|.ret) (.skip))<|so [op 5 (.mJ 0 [.int .u8 0] []),mv 6 0,op 7 (.app 1 1 false (.r 5) (.r 6)),mv 2 7]<|.ret⟩
def aaW:An:=⟨[],[]⟩
def P7:Go.Rmp.Fn:=⟨8,1,[.cl 2 4 true],so [op 1 (.box (.r 0)),op 2 (.alloc [.str ⟨#[]⟩,.int .u64 0,.str ⟨#[]⟩,.sl .nil []])]<|so [fa 3 3 1,l1 4 3,op 5 (.app 1 16 false (.c (.sl .nil [])) (.r 4)),fa 6 3 1,se 1 6 5]<|so [ln 7 4 1,se 4 2 7]<|.ret⟩
def aaX:An:=⟨[],[]⟩
def P8:Go.Rmp.Fn:=⟨31,2,[.t 4],so [op 4 (.ar (.c (.int .u32 0)))]<|so [mv 8 0,op 9 (.un .xor (.r 8)),mv 5 9]<|sq (so [op 6 (.ar (.c (.int .i64 0)))]<|.block 0 (.loop (sq (so [mv 10 6,mv 11 1,dG 12 11,b2 13 .lss 10 12]<|cx 13 0)<|sq (.block 1 (so [mv 16 5,mv 17 1,mv 18 6,ia 19 1 17 18,l1 20 19,op 21 (.fG .u32 (.r 20)),b2 22 .xor 16 21,mv 5 22]<|so [op 7 (.ar (.c (.int .i64 0)))]<|.block 2 (.loop (sq (so [mv 23 7,op 24 (.bin .lss (.r 23) (.c (.int .i64 8)))]<|cx 24 2)<|sq (.block 3 (.ops [mv 27 5,cl 28 109 [.r 27],mv 5 28]))<|.ops [mv 25 7,op 26 (.bin .add (.r 25) (.c (.int .i64 1))),mv 7 26]))))<|.ops [mv 14 6,op 15 (.bin .add (.r 14) (.c (.int .i64 1))),mv 6 15])))<|so [mv 29 5,op 30 (.un .xor (.r 29)),mv 4 30]<|.ret⟩
def aaY:An:=⟨[],[]⟩
def P9:Go.Rmp.Fn:=⟨9,1,[.t 2],so [op 2 (.ar (.c (.bool false)))]<|so [mv 3 0,op 4 (.bin .geq (.r 3) (.c (.int .i64 0))),mv 5 4,mt 6 0 5,gt 7 5 (.bin .leq (.r 6) (.c (.int .i64 1099511627776))),op 8 (.pick (.r 5) (.r 7) (.c (.bool false))),mv 2 8]<|.ret⟩
def aaZ:An:=⟨[],[(4,[(0,true),(1,true),(2,true),(3,true),(4,true),(5,true),(6,true),(7,true),(8,true),(9,true),(10,true),(11,true),(12,true),(13,true),(14,true),(15,true),(16,true),(17,true),(18,true),(19,true),(20,true),(21,true),(22,true),(23,true),(24,true),(25,true),(26,true),(27,true),(28,true),(29,true),(30,true),(31,true),(32,true),(33,true),(34,true),(35,true)])]⟩
def Qa:Go.Rmp.Fn:=⟨66,3,[.t 6,.t 7],so [op 6 (.ar (.c (.int .i64 0))),op 7 (.ar (.c (.bool false)))]<|so [op 8 (.ar (.c (.int .i64 0)))]<|sq (.block 0 (.loop (sq (so [mv 9 8,mv 10 0,nc 11 10,fa 12 0 11,l1 13 12,dG 14 13,b2 15 .lss 9 14,mv 16 15,mt 17 0 16,gt 18 16 (.lS (.r 17)),gt 19 16 (.fL 0 (.r 18)),gt 20 16 (.ld 1 false (.r 19)),mt 21 8 16,gt 22 16 (.eF 5 (.r 20) (.r 21)),gt 23 16 (.fL 0 (.r 22)),gt 24 16 (.ld 4 true (.r 23)),mt 25 1 16,mt 26 2 16,gt 27 16 (.build [.str ⟨#[]⟩,.int .u64 0,.str ⟨#[]⟩,.sl .nil []] [(0,1,(.r 25)),(1,1,(.r 26))]),⟨(some 28),.call 112 [.r 24,.r 27],(some (16,true)),[]⟩,op 29 (.pick (.r 16) (.r 28) (.c (.bool false)))]<|cx 29 0)<|.block 1 (.ops [mv 30 8,op 31 (.bin .add (.r 30) (.c (.int .i64 1))),mv 8 31]))))<|so [mv 32 8,mv 33 8,mv 34 0,nc 35 34,fa 36 0 35,l1 37 36,dG 38 37,b2 39 .lss 33 38,mv 40 39,mt 41 0 40,gt 42 40 (.lS (.r 41)),gt 43 40 (.fL 0 (.r 42)),gt 44 40 (.ld 1 false (.r 43)),mt 45 8 40,gt 46 40 (.eF 5 (.r 44) (.r 45)),gt 47 40 (.fL 0 (.r 46)),gt 48 40 (.fL 0 (.r 47)),gt 49 40 (.ld 1 false (.r 48)),mt 50 1 40,gt 51 40 (.bin .eql (.r 49) (.r 50)),op 52 (.pick (.r 40) (.r 51) (.c (.bool false))),mv 53 52,mt 54 0 53,gt 55 53 (.lS (.r 54)),gt 56 53 (.fL 0 (.r 55)),gt 57 53 (.ld 1 false (.r 56)),mt 58 8 53,gt 59 53 (.eF 5 (.r 57) (.r 58)),gt 60 53 (.fL 0 (.r 59)),gt 61 53 (.fL 1 (.r 60)),gt 62 53 (.ld 1 false (.r 61)),mt 63 2 53,gt 64 53 (.bin .eql (.r 62) (.r 63)),op 65 (.pick (.r 53) (.r 64) (.c (.bool false))),mv 6 32,mv 7 65]<|.ret⟩
def aa0:An:=⟨[],[]⟩
def Qb:Go.Rmp.Fn:=⟨33,2,[.t 4],so [op 4 (.ar (.c (.int .u64 0)))]<|sq (so [op 5 (.ar (.c (.int .i64 0)))]<|.block 0 (.loop (sq (so [mv 6 5,mv 7 0,nc 8 7,fa 9 1 8,l1 10 9,dG 11 10,b2 12 .lss 6 11]<|cx 12 0)<|sq (.block 1 (so [mv 15 0,nc 16 15,fa 17 1 16,l1 18 17,mv 19 5,ia 20 2 18 19,fa 21 0 20,l1 22 21,mv 23 1,b2 24 .eql 22 23]<|.cond (.r 24) (so [mv 25 0,nc 26 25,fa 27 1 26,l1 28 27,mv 29 5,ia 30 2 28 29,fa 31 1 30,l1 32 31,mv 4 32]<|.ret) (.skip)))<|.ops [mv 13 5,op 14 (.bin .add (.r 13) (.c (.int .i64 1))),mv 5 14])))<|so [op 4 (.ar (.c (.int .u64 0)))]<|.ret⟩
def aa1:An:=⟨[],[]⟩
def Qc:Go.Rmp.Fn:=⟨5,1,[.t 2],so [op 2 (.ar (.c (.bool false)))]<|so [mv 3 0,op 4 (.bin .geq (.r 3) (.c (.int .u64 65536))),mv 2 4]<|.ret⟩
def aa2:An:=⟨[],[]⟩
def Qd:Go.Rmp.Fn:=⟨19,0,[.cl 0 16 true],so [op 0 (.alloc [.int .u32 0,.int .u32 0,.int .u32 0,.int .u32 0,.int .u32 0,.int .u32 0,.int .u32 0,.int .u32 0,.int .u32 0,.int .u32 0,.int .u32 0,.int .u32 0,.int .u32 0,.int .u32 0,.int .u32 0,.int .u32 0])]<|so [op 1 (.alloc [.int .u32 0,.int .u32 0,.int .u32 0,.int .u32 0,.int .u32 0,.int .u32 0,.int .u32 0,.int .u32 0,.int .u32 0,.int .u32 0,.int .u32 0,.int .u32 0,.int .u32 0,.int .u32 0,.int .u32 0,.int .u32 0])]<|sq (so [op 4 (.ar (.c (.int .i64 0)))]<|.block 0 (.loop (so [op 5 (.bin .lss (.r 4) (.c (.int .i64 16)))]<|sq (cx 5 0)<|sq (.block 1 (so [mv 6 4,mv 2 6]<|so [mv 7 2,op 8 (.fG .u32 (.r 7)),mv 3 8]<|sq (so [op 9 (.ar (.c (.int .i64 0)))]<|.block 2 (.loop (so [op 10 (.bin .lss (.r 9) (.c (.int .i64 4)))]<|sq (cx 10 2)<|sq (.block 3 (.ops [mv 11 3,cl 12 113 [.r 11],mv 3 12]))<|.ops [op 13 (.bin .add (.r 9) (.c (.int .i64 1))),mv 9 13])))<|.ops [mv 14 2,mv 15 3,op 16 (.N7 16 1 (.r 1) (.r 14)),se 1 16 15]))<|.ops [op 17 (.bin .add (.r 4) (.c (.int .i64 1))),mv 4 17])))<|so [ln 18 16 1,se 16 0 18]<|.ret⟩
def aa3:An:=⟨[],[]⟩
def Gz:Go.Rmp.Fn:=⟨42,2,[.t 4],so [op 4 (.ar (.c (.sl .nil [])))]<|sq (so [mv 6 0,nc 7 6,fa 8 1 7,l1 9 8,mv 10 9,mf 11 1 10,gf 12 10 (.bin .lss (.r 11) (.c (.int .i64 0))),op 13 (.pick (.r 10) (.c (.bool true)) (.r 12)),mv 14 13,mf 15 1 14,mf 16 0 14,gf 17 14 (.lS (.r 16)),gf 18 14 (.fL 0 (.r 17)),gf 19 14 (.ld 1 false (.r 18)),gf 20 14 (.len .sl (.r 19)),gf 21 14 (.bin .gtr (.r 15) (.r 20)),op 22 (.pick (.r 14) (.c (.bool true)) (.r 21))]<|.cond (.r 22) (so [mv 23 0,nc 24 23,fa 25 1 24,ef (.st 1 (.r 25) (.c (.bool true)))]<|so [op 4 (.ar (.c (.sl .nil [])))]<|.ret) (.skip))<|so [mv 26 0,nc 27 26,fa 28 0 27,l1 29 28,mv 30 1,op 31 (.gH 1 (.r 29) none (some (.r 30)) none),mv 5 31]<|so [mv 32 0,mv 33 0,nc 34 33,fa 35 0 34,l1 36 35,mv 37 1,op 38 (.gH 1 (.r 36) (some (.r 37)) none none),nc 39 32,fa 40 0 39,se 1 40 38]<|so [mv 41 5,mv 4 41]<|.ret⟩
def aa4:An:=⟨[],[]⟩
def Qe:Go.Rmp.Fn:=⟨26,2,[.t 4],so [op 4 (.ar (.c (.int .u64 0)))]<|so [mv 8 0,mv 9 1,cl 10 84 [.r 8,.r 9],mv 5 10]<|so [op 6 (.ar (.c (.int .u64 0)))]<|sq (so [op 7 (.ar (.c (.int .i64 0)))]<|.block 0 (.loop (sq (so [mv 11 7,mv 12 5,dG 13 12,b2 14 .lss 11 13]<|cx 14 0)<|sq (.block 1 (.ops [mv 17 6,op 18 (.bin .shl (.r 17) (.c (.int .u64 8))),mv 19 5,mv 20 7,ia 21 1 19 20,l1 22 21,op 23 (.fG .u64 (.r 22)),b2 24 .or 18 23,mv 6 24]))<|.ops [mv 15 7,op 16 (.bin .add (.r 15) (.c (.int .i64 1))),mv 7 16])))<|so [mv 25 6,mv 4 25]<|.ret⟩
def aa5:An:=⟨[],[]⟩
def Qf:Go.Rmp.Fn:=⟨9,1,[.t 2],so [op 2 (.ar (.c (.str ⟨#[]⟩)))]<|so [mv 3 0,mv 4 0,cl 5 85 [.r 4,(.c (.int .i64 4))],op 6 (.fG .i64 (.r 5)),cl 7 84 [.r 3,.r 6],op 8 (.AO (.r 7)),mv 2 8]<|.ret⟩
def aa6:An:=⟨[],[]⟩
def Qg:Go.Rmp.Fn:=⟨24,2,[.t 4],so [op 4 (.ar (.c (.int .u64 0)))]<|sq (so [op 5 (.ar (.c (.int .i64 0)))]<|.block 0 (.loop (sq (so [mv 6 5,mv 7 0,dG 8 7,b2 9 .lss 6 8]<|cx 9 0)<|sq (.block 1 (so [mv 12 0,mv 13 5,ia 14 2 12 13,fa 15 0 14,l1 16 15,mv 17 1,b2 18 .eql 16 17]<|.cond (.r 18) (so [mv 19 0,mv 20 5,ia 21 2 19 20,fa 22 1 21,l1 23 22,mv 4 23]<|.ret) (.skip)))<|.ops [mv 10 5,op 11 (.bin .add (.r 10) (.c (.int .i64 1))),mv 5 11])))<|so [op 4 (.ar (.c (.int .u64 0)))]<|.ret⟩
def aa7:An:=⟨[(1,1),(7,18)],[(5,[(0,true),(1,true),(2,true),(3,true),(4,true),(5,false),(6,true),(7,true),(8,true),(9,true),(10,true),(11,true),(12,true),(13,true),(14,true),(15,true),(16,true),(17,true),(18,true),(19,true),(20,true),(21,true),(22,false),(23,true),(24,true),(25,true)]),(7,[(0,true),(1,true),(2,true),(3,true),(4,true),(5,true),(6,true),(7,true),(8,true),(9,true),(11,true),(12,true),(13,true),(14,true),(15,true),(10,false),(16,true),(17,true),(18,false),(19,true),(20,true),(21,false)]),(11,[(0,true),(1,true),(2,true),(3,true),(4,true),(5,true),(6,true),(7,true),(8,true),(9,true),(10,true),(11,false),(12,true),(13,true),(14,true),(15,true),(16,true)]),(12,[(0,true),(1,true),(2,true),(3,true),(4,true),(5,true),(6,true),(7,true),(8,true),(9,true),(10,true),(11,true),(12,true),(13,true),(14,true),(15,true),(16,true),(17,true),(18,true),(19,true)])]⟩
def Qh:Go.Rmp.Fn:=⟨110,2,[.t 4,.t 5],so [op 4 (.ar (.c .br)),op 5 (.ar (.c (.int .i64 0)))]<|so [mv 11 1,op 12 (.app 2 24 true (.c (.sl .nil [])) (.r 11)),op 13 (.build [.sl .nil [],.sl .nil []] [(1,1,(.r 12))]),op 14 (.box (.r 13)),mv 6 14]<|sq (so [op 7 (.ar (.c (.int .i64 0)))]<|.block 0 (.loop (sq (so [mv 15 7,mv 16 0,dG 17 16,b2 18 .lss 15 17]<|cx 18 0)<|sq (.block 1 (sq (so [mv 21 6,mv 22 0,mv 23 7,ia 24 5 22 23,ln 25 5 24,cl 26 114 [.r 21,.r 25],op 27 (.un .not (.r 26)),mv 28 27,mf 29 7 28,gf 30 28 (.bin .gtr (.r 29) (.c (.int .i64 0))),mf 31 30 28,mt 32 0 31,mt 33 7 31,gt 34 31 (.bin .sub (.r 33) (.c (.int .i64 1))),gt 35 31 (.eF 5 (.r 32) (.r 34)),gt 36 31 (.fL 0 (.r 35)),gt 37 31 (.ld 4 true (.r 36)),mt 38 0 31,mt 39 7 31,gt 40 31 (.eF 5 (.r 38) (.r 39)),gt 41 31 (.fL 0 (.r 40)),gt 42 31 (.ld 4 true (.r 41)),⟨(some 43),.call 112 [.r 37,.r 42],(some (31,true)),[]⟩,gt 44 31 (.un .not (.r 43)),gf 45 28 (.pick (.r 31) (.r 44) (.c (.bool false))),op 46 (.pick (.r 28) (.c (.bool true)) (.r 45))]<|.cond (.r 46) (so [op 4 (.ar (.c .br)),op 5 (.ar (.c (.int .i64 1)))]<|.ret) (.skip))<|.ops [mv 47 6,mv 48 6,nc 49 48,fa 50 0 49,l1 51 50,mv 52 0,mv 53 7,ia 54 5 52 53,fa 55 0 54,ln 56 4 55,mv 58 0,mv 59 7,ia 60 5 58 59,fa 61 4 60,l1 62 61,⟨(some 57),.call 75 [.r 56],none,[⟨51,.ld 1 false (.r 50),none⟩,⟨62,.ld 1 false (.r 61),none⟩]⟩,op 63 (.build [.str ⟨#[]⟩,.int .u64 0,.str ⟨#[]⟩,.sl .nil [],.int .i64 0] [(0,4,(.r 57)),(4,1,(.r 62))]),op 64 (.mJ 1 [.str ⟨#[]⟩,.int .u64 0,.str ⟨#[]⟩,.sl .nil [],.int .i64 0] [(0,(.r 63))]),op 65 (.app 5 72 true (.r 51) (.r 64)),nc 66 47,fa 67 0 66,se 1 67 65]))<|.ops [mv 19 7,op 20 (.bin .add (.r 19) (.c (.int .i64 1))),mv 7 20])))<|sq (so [op 8 (.ar (.c (.int .i64 0)))]<|.block 2 (.loop (sq (so [mv 68 8,mv 69 1,dG 70 69,b2 71 .lss 68 70]<|cx 71 2)<|sq (.block 3 (so [mv 75 6,mv 76 1,mv 77 8,ia 78 2 76 77,fa 79 0 78,l1 80 79,mv 81 1,mv 82 8,ia 83 2 81 82,fa 84 1 83,l1 85 84,cl 86 79 [.r 75,.r 80,.r 85],mv 74 86,xt 87 0 74,xt 88 1 74,mv 9 87,mv 10 88]<|so [mv 89 10,op 90 (.un .not (.r 89)),mv 91 90,mf 92 8 91,gf 93 91 (.bin .gtr (.r 92) (.c (.int .i64 0))),mf 94 93 91,mt 95 1 94,mt 96 8 94,gt 97 94 (.bin .sub (.r 96) (.c (.int .i64 1))),gt 98 94 (.eF 2 (.r 95) (.r 97)),gt 99 94 (.fL 0 (.r 98)),gt 100 94 (.ld 1 false (.r 99)),mt 101 1 94,mt 102 8 94,gt 103 94 (.eF 2 (.r 101) (.r 102)),gt 104 94 (.fL 0 (.r 103)),gt 105 94 (.ld 1 false (.r 104)),gt 106 94 (.bin .geq (.r 100) (.r 105)),gf 107 91 (.pick (.r 94) (.r 106) (.c (.bool false))),op 108 (.pick (.r 91) (.c (.bool true)) (.r 107))]<|.cond (.r 108) (so [op 4 (.ar (.c .br)),op 5 (.ar (.c (.int .i64 1)))]<|.ret) (.skip)))<|.ops [mv 72 8,op 73 (.bin .add (.r 72) (.c (.int .i64 1))),mv 8 73])))<|so [mv 109 6,mv 4 109,op 5 (.ar (.c (.int .i64 0)))]<|.ret⟩
def aa8:An:=⟨[],[]⟩
def Qi:Go.Rmp.Fn:=⟨24,2,[.t 4],so [op 4 (.ar (.c (.int .u64 0)))]<|so [mv 8 0,mv 9 1,cl 10 115 [.r 8,.r 9],mv 7 10,xt 11 0 7,xt 12 1 7,mv 5 11,mv 6 12]<|sq (so [mv 13 6]<|.cond (.r 13) (.ops [mv 14 0,mv 15 0,nc 16 15,fa 17 0 16,l1 18 17,mv 19 1,op 20 (.gH 1 (.r 18) (some (.r 19)) none none),nc 21 14,fa 22 0 21,se 1 22 20]) (.skip))<|so [mv 23 5,mv 4 23]<|.ret⟩
def aa9:An:=⟨[],[]⟩
def Lf:Go.Rmp.Fn:=⟨27,2,[.t 4,.t 5],so [op 4 (.ar (.c (.int .i64 0))),op 5 (.ar (.c (.bool false)))]<|so [mv 9 0,cl 10 115 [.r 9,(.c (.int .i64 4))],mv 8 10,xt 11 0 8,xt 12 1 8,mv 6 11,mv 7 12]<|sq (so [mv 13 7,mv 14 13,mt 15 6 14,mt 16 1 14,gt 17 14 (.mx (.r 16) (.c (.int .i64 0))),gt 18 14 (.fG .u64 (.r 17)),gt 19 14 (.bin .gtr (.r 15) (.r 18)),op 20 (.pick (.r 14) (.r 19) (.c (.bool false)))]<|.cond (.r 20) (so [mv 21 0,nc 22 21,fa 23 1 22,ef (.st 1 (.r 23) (.c (.int .i64 3)))]<|so [op 4 (.ar (.c (.int .i64 0))),op 5 (.ar (.c (.bool false)))]<|.ret) (.skip))<|so [mv 24 6,op 25 (.fG .i64 (.r 24)),mv 26 7,mv 4 25,mv 5 26]<|.ret⟩
def aba:An:=⟨[],[(4,[(0,true),(1,true),(2,true),(3,true),(4,true),(5,true),(6,true),(7,true),(8,true),(9,true)])]⟩
def Lg:Go.Rmp.Fn:=⟨47,2,[.t 4],so [op 3 (.box (.r 1)),op 4 (.ar (.c (.bool false)))]<|so [fa 6 0 3,ln 7 4 6,op 5 (.alloc [.str ⟨#[]⟩,.int .u64 0,.str ⟨#[]⟩,.sl .nil []]),se 4 5 7]<|sq (so [fa 8 1 5,l1 9 8,op 10 (.bin .lss (.r 9) (.c (.int .u64 65536))),mv 11 10,gf 12 11 (.fL 3 (.r 5)),gf 13 11 (.ld 1 false (.r 12)),⟨(some 14),.call 101 [.r 13],(some (11,false)),[]⟩,gf 15 11 (.un .not (.r 14)),op 16 (.pick (.r 11) (.c (.bool true)) (.r 15)),mv 17 16,gf 18 17 (.fL 3 (.r 5)),gf 19 17 (.ld 1 false (.r 18)),gf 20 17 (.fL 0 (.r 5)),gf 21 17 (.ld 1 false (.r 20)),⟨(some 22),.call 102 [.r 19,.r 21],(some (17,false)),[]⟩,gf 23 17 (.un .not (.r 22)),op 24 (.pick (.r 17) (.c (.bool true)) (.r 23)),mv 25 24,gf 26 25 (.fL 2 (.r 5)),gf 27 25 (.ld 1 false (.r 26)),gf 28 25 (.len .str (.r 27)),gf 29 25 (.bin .gtr (.r 28) (.c (.int .i64 65535))),op 30 (.pick (.r 25) (.c (.bool true)) (.r 29))]<|.cond (.r 30) (so [op 4 (.ar (.c (.bool false)))]<|.ret) (.skip))<|sq (so [fa 31 1 5,l1 32 31,mv 33 0,nc 34 33,fa 35 3 34,l1 36 35,fa 37 0 5,l1 38 37,op 39 (.om (.sc .str) (.int .u64 0) false (.r 36) (.r 38)),b2 40 .lss 32 39]<|.cond (.r 40) (so [fa 41 4 3,l1 42 41,cl 43 67 [.r 42],mv 4 43]<|.ret) (.skip))<|so [fa 44 4 3,l1 45 44,op 46 (.bin .eql (.r 45) (.c (.int .i64 (-1)))),mv 4 46]<|.ret⟩
def abb:An:=⟨[],[]⟩
def Qj:Go.Rmp.Fn:=⟨5,1,[.t 2],so [op 2 (.ar (.c (.sl .nil [])))]<|so [mv 3 0,cl 4 116 [(.c (.sl .nil [])),.r 3],mv 2 4]<|.ret⟩
def abc:An:=⟨[],[]⟩
def Lh:Go.Rmp.Fn:=⟨14,2,[],so [mv 5 0,dG 6 5,mv 4 6]<|.ops [mv 7 0,mv 8 4,mv 9 4,op 10 (.fG .u64 (.r 9)),cl 11 118 [.r 10],mv 12 1,cl 13 117 [.r 7,(.c (.int .i64 0)),.r 8,.r 11,.r 12]]⟩
def abd:An:=⟨[],[]⟩
def Qk:Go.Rmp.Fn:=⟨14,2,[],so [l1 4 1,op 5 (.N8 (.r 4))]<|.block 0 (.loop (so [op 6 (.qM (.r 5)),xt 7 0 6]<|sq (cx 7 0)<|.block 1 (so [op 8 (.N9 (.r 5)),xt 9 0 8,op 3 (.alloc [.str ⟨#[]⟩,.int .u64 0]),se 2 3 9]<|so [mv 10 0,ln 11 2 3,⟨(some 12),.bJ (.r 10) [.r 11],none,[]⟩,op 13 (.un .not (.r 12))]<|.cond (.r 13) (.ret) (.skip))))⟩
def abe:An:=⟨[],[]⟩
def Ql:Go.Rmp.Fn:=⟨18,1,[.t 2],so [op 2 (.ar (.c (.int .i64 0)))]<|so [op 3 (.ar (.c (.int .i64 0)))]<|sq (so [mv 6 0,dG 7 6,op 8 (.ar (.c (.int .i64 0)))]<|.block 0 (.loop (so [b2 9 .lss 8 7]<|sq (cx 9 0)<|sq (.block 1 (so [ia 10 1 6 8,l1 11 10,mv 5 11]<|so [mv 12 5,mv 13 3,b2 14 .neq 12 13]<|.cond (.r 14) (so [mv 15 5,mv 2 15]<|.ret) (.skip)))<|.ops [op 16 (.bin .add (.r 8) (.c (.int .i64 1))),mv 8 16])))<|so [mv 17 3,mv 2 17]<|.ret⟩
def abf:An:=⟨[],[]⟩
def Qm:Go.Rmp.Fn:=⟨20,2,[.t 4],so [op 4 (.ar (.c (.int .i64 0)))]<|so [mv 7 0,cl 8 119 [.r 7],mv 5 8]<|so [mv 9 1,cl 10 119 [.r 9],mv 6 10]<|sq (so [mv 11 5]<|.cond (.r 11) (sq (so [mv 12 6]<|.cond (.r 12) (so [op 4 (.ar (.c (.int .i64 0)))]<|.ret) (.skip))<|so [op 4 (.ar (.c (.int .i64 (-1))))]<|.ret) (.skip))<|sq (so [mv 13 6]<|.cond (.r 13) (so [op 4 (.ar (.c (.int .i64 1)))]<|.ret) (.skip))<|sq (so [mv 14 0,mv 15 1,b2 16 .lss 14 15]<|.cond (.r 16) (so [op 4 (.ar (.c (.int .i64 (-1))))]<|.ret) (.skip))<|sq (so [mv 17 0,mv 18 1,b2 19 .gtr 17 18]<|.cond (.r 19) (so [op 4 (.ar (.c (.int .i64 1)))]<|.ret) (.skip))<|so [op 4 (.ar (.c (.int .i64 0)))]<|.ret⟩
def abg:An:=⟨[],[]⟩
def Qn:Go.Rmp.Fn:=⟨20,2,[.t 4],so [op 4 (.ar (.c (.int .i64 0)))]<|so [mv 7 0,cl 8 120 [.r 7],mv 5 8]<|so [mv 9 1,cl 10 120 [.r 9],mv 6 10]<|sq (so [mv 11 5]<|.cond (.r 11) (sq (so [mv 12 6]<|.cond (.r 12) (so [op 4 (.ar (.c (.int .i64 0)))]<|.ret) (.skip))<|so [op 4 (.ar (.c (.int .i64 (-1))))]<|.ret) (.skip))<|sq (so [mv 13 6]<|.cond (.r 13) (so [op 4 (.ar (.c (.int .i64 1)))]<|.ret) (.skip))<|sq (so [mv 14 0,mv 15 1,b2 16 .lss 14 15]<|.cond (.r 16) (so [op 4 (.ar (.c (.int .i64 (-1))))]<|.ret) (.skip))<|sq (so [mv 17 0,mv 18 1,b2 19 .gtr 17 18]<|.cond (.r 19) (so [op 4 (.ar (.c (.int .i64 1)))]<|.ret) (.skip))<|so [op 4 (.ar (.c (.int .i64 0)))]<|.ret⟩
def abh:An:=⟨[],[]⟩
def Qo:Go.Rmp.Fn:=⟨5,1,[.t 2],so [op 2 (.ar (.c (.sl .nil [])))]<|so [mv 3 0,cl 4 121 [(.c (.sl .nil [])),.r 3],mv 2 4]<|.ret⟩
def abi:An:=⟨[],[]⟩
def Li:Go.Rmp.Fn:=⟨11,1,[],so [mv 3 0,dG 4 3,mv 2 4]<|.ops [mv 5 0,mv 6 2,mv 7 2,op 8 (.fG .u64 (.r 7)),cl 9 118 [.r 8],cl 10 122 [.r 5,(.c (.int .i64 0)),.r 6,.r 9]]⟩
def Uu:An:=⟨[],[]⟩
def GA:Go.Rmp.Fn:=⟨14,2,[],so [l1 4 1,op 5 (.N8 (.r 4))]<|.block 0 (.loop (so [op 6 (.qM (.r 5)),xt 7 0 6]<|sq (cx 7 0)<|.block 1 (so [op 8 (.N9 (.r 5)),xt 9 0 8,mv 3 9]<|so [mv 10 0,mv 11 3,⟨(some 12),.bJ (.r 10) [.r 11],none,[]⟩,op 13 (.un .not (.r 12))]<|.cond (.r 13) (.ret) (.skip))))⟩
def Uv:An:=⟨[],[]⟩
def GB:Go.Rmp.Fn:=⟨37,1,[.t 2],so [op 2 (.ar (.c (.bool false)))]<|sq (so [mv 5 0,dG 6 5,op 7 (.ar (.c (.int .i64 0)))]<|.block 0 (.loop (so [b2 8 .lss 7 6]<|sq (cx 8 0)<|sq (.block 1 (so [mv 9 7,ia 10 1 5 7,l1 11 10,mv 3 9,mv 4 11]<|so [mv 12 4,op 13 (.len .str (.r 12)),op 14 (.bin .gtr (.r 13) (.c (.int .i64 65535))),mv 15 14,mf 16 3 15,gf 17 15 (.bin .gtr (.r 16) (.c (.int .i64 0))),mf 18 17 15,mt 19 4 18,mt 20 0 18,mt 21 3 18,gt 22 18 (.bin .sub (.r 21) (.c (.int .i64 1))),gt 23 18 (.eF 1 (.r 20) (.r 22)),gt 24 18 (.ld 1 false (.r 23)),gt 25 18 (.bin .leq (.r 19) (.r 24)),gf 26 15 (.pick (.r 18) (.r 25) (.c (.bool false))),op 27 (.pick (.r 15) (.c (.bool true)) (.r 26))]<|.cond (.r 27) (so [op 2 (.ar (.c (.bool false)))]<|.ret) (.skip)))<|.ops [op 28 (.bin .add (.r 7) (.c (.int .i64 1))),mv 7 28])))<|so [mv 29 0,dG 30 29,op 31 (.bin .geq (.r 30) (.c (.int .i64 1))),mv 32 31,mt 33 0 32,gt 34 32 (.len .sl (.r 33)),gt 35 32 (.bin .leq (.r 34) (.c (.int .i64 1024))),op 36 (.pick (.r 32) (.r 35) (.c (.bool false))),mv 2 36]<|.ret⟩
def Uw:An:=⟨[],[]⟩
def GC:Go.Rmp.Fn:=⟨14,2,[.t 4],so [op 4 (.ar (.c (.bool false)))]<|so [mv 8 0,mv 9 1,cl 10 123 [.r 8,.r 9],mv 7 10,xt 11 0 7,xt 12 1 7,mv 5 11,mv 6 12]<|so [mv 13 6,mv 4 13]<|.ret⟩
def Ux:An:=⟨[],[]⟩
def GD:Go.Rmp.Fn:=⟨54,2,[.t 4,.t 5],so [op 4 (.ar (.c (.int .i64 0))),op 5 (.ar (.c (.bool false)))]<|so [mv 10 0,dG 11 10,mv 6 11]<|so [mv 12 6,op 7 (.ar (.c (.int .i64 0))),mv 8 12]<|sq (.block 0 (.loop (sq (so [mv 13 7,mv 14 8,b2 15 .lss 13 14]<|cx 15 0)<|.block 1 (so [mv 16 7,mv 17 8,b2 18 .add 16 17,op 19 (.fG .u64 (.r 18)),op 20 (.bin .shr (.r 19) (.c (.int .u64 1))),op 21 (.fG .i64 (.r 20)),mv 9 21]<|so [mv 22 0,mv 23 9,ia 24 1 22 23,l1 25 24,mv 26 1,cl 27 124 [.r 25,.r 26]]<|.cond (.r 27) (.ops [mv 28 9,op 29 (.bin .add (.r 28) (.c (.int .i64 1))),mv 7 29]) (.ops [mv 30 9,mv 8 30])))))<|so [mv 31 7,mv 32 7,mv 33 6,b2 34 .lss 32 33,mv 35 34,mt 36 0 35,mt 37 7 35,gt 38 35 (.eF 1 (.r 36) (.r 37)),gt 39 35 (.ld 1 false (.r 38)),mt 40 1 35,gt 41 35 (.bin .eql (.r 39) (.r 40)),mt 42 41 35,mf 43 0 42,mf 44 7 42,gf 45 42 (.eF 1 (.r 43) (.r 44)),gf 46 42 (.ld 1 false (.r 45)),⟨(some 47),.call 125 [.r 46],(some (42,false)),[]⟩,mf 48 47 42,mt 49 1 48,⟨(some 50),.call 125 [.r 49],(some (48,true)),[]⟩,gf 51 42 (.pick (.r 48) (.r 50) (.c (.bool false))),gt 52 35 (.pick (.r 42) (.c (.bool true)) (.r 51)),op 53 (.pick (.r 35) (.r 52) (.c (.bool false))),mv 4 31,mv 5 53]<|.ret⟩
def Uy:An:=⟨[(7,2)],[(11,[(0,true),(1,true),(2,true),(3,true),(4,true),(5,true),(6,true),(7,true),(8,false)]),(15,[(0,true),(1,true),(2,true),(3,true),(4,true),(5,true),(6,true),(7,true),(8,false)])]⟩
def Nr:Go.Rmp.Fn:=⟨95,3,[.t 6],so [op 6 (.ar (.c (.sl .nil [])))]<|so [mv 10 0,mv 11 1,op 12 (.gH 1 (.r 10) (some (.r 11)) none none)]<|so [mv 13 2,dG 14 13,mv 7 14]<|sq (so [mv 15 7,op 16 (.bin .eql (.r 15) (.c (.int .i64 0)))]<|.cond (.r 16) (so [mv 17 0,mv 6 17]<|.ret) (.skip))<|so [mv 18 0,dG 19 18,mv 8 19]<|sq (so [mv 20 1,mv 21 8,b2 22 .eql 20 21]<|.cond (.r 22) (so [mv 23 0,mv 24 2,op 25 (.app 1 8 true (.r 23) (.r 24)),mv 6 25]<|.ret) (.skip))<|sq (so [mv 26 8,mv 27 7,b2 28 .add 26 27,mv 29 0,op 30 (.cap (.r 29)),b2 31 .gtr 28 30]<|.cond (.r 31) (so [mv 32 0,mv 33 1,op 34 (.gH 1 (.r 32) none (some (.r 33)) none),mv 35 8,mv 36 7,b2 37 .add 35 36,mv 38 1,b2 39 .sub 37 38,op 40 (.Ti 1 8 [.int .u64 0] (.r 34) (.r 39)),mv 9 40]<|so [mv 41 9,mv 42 1,op 43 (.gH 1 (.r 41) (some (.r 42)) none none),mv 44 2,op 45 (.Cl 1 (.r 43) (.r 44))]<|so [mv 46 9,mv 47 1,mv 48 7,b2 49 .add 47 48,op 50 (.gH 1 (.r 46) (some (.r 49)) none none),mv 51 0,mv 52 1,op 53 (.gH 1 (.r 51) (some (.r 52)) none none),op 54 (.Cl 1 (.r 50) (.r 53))]<|so [mv 55 9,mv 6 55]<|.ret) (.skip))<|so [mv 56 0,mv 57 8,mv 58 7,b2 59 .add 57 58,op 60 (.gH 1 (.r 56) none (some (.r 59)) none),mv 0 60]<|sq (so [mv 61 2,mv 62 0,mv 63 1,mv 64 7,b2 65 .add 63 64,op 66 (.gH 1 (.r 62) (some (.r 65)) none none),op 67 (.Sn 1 (.r 61) (.r 66)),op 68 (.un .not (.r 67))]<|.cond (.r 68) (so [mv 69 0,mv 70 1,mv 71 7,b2 72 .add 70 71,op 73 (.gH 1 (.r 69) (some (.r 72)) none none),mv 74 0,mv 75 1,op 76 (.gH 1 (.r 74) (some (.r 75)) none none),op 77 (.Cl 1 (.r 73) (.r 76))]<|so [mv 78 0,mv 79 1,op 80 (.gH 1 (.r 78) (some (.r 79)) none none),mv 81 2,op 82 (.Cl 1 (.r 80) (.r 81))]<|so [mv 83 0,mv 6 83]<|.ret) (.skip))<|so [mv 84 0,mv 85 8,op 86 (.gH 1 (.r 84) (some (.r 85)) none none),mv 87 2,op 88 (.Cl 1 (.r 86) (.r 87))]<|so [mv 89 0,mv 90 1,op 91 (.gH 1 (.r 89) (some (.r 90)) none none),mv 92 7,cl 93 127 [.r 91,.r 92]]<|so [mv 94 0,mv 6 94]<|.ret⟩
def Uz:An:=⟨[],[]⟩
def GF:Go.Rmp.Fn:=⟨42,2,[.t 4],so [op 4 (.ar (.c (.sl .nil [])))]<|so [mv 8 0,mv 9 1,cl 10 128 [.r 8,.r 9],mv 5 10]<|sq (so [mv 11 5,op 12 (.bin .eql (.r 11) (.c (.int .i64 (-1))))]<|.cond (.r 12) (so [mv 13 0,mv 4 13]<|.ret) (.skip))<|sq (so [mv 14 5,op 15 (.bin .add (.r 14) (.c (.int .i64 1))),mv 6 15]<|.block 0 (.loop (sq (so [mv 16 6,mv 17 0,dG 18 17,b2 19 .lss 16 18]<|cx 19 0)<|sq (.block 1 (so [mv 22 0,mv 23 6,ia 24 1 22 23,l1 25 24,mv 7 25]<|so [mv 26 1,mv 27 7,⟨(some 28),.bJ (.r 26) [.r 27],none,[]⟩,op 29 (.un .not (.r 28))]<|.cond (.r 29) (so [mv 30 0,mv 31 5,mv 32 7,ia 33 1 30 31,se 1 33 32]<|.ops [mv 34 5,op 35 (.bin .add (.r 34) (.c (.int .i64 1))),mv 5 35]) (.skip)))<|.ops [mv 20 6,op 21 (.bin .add (.r 20) (.c (.int .i64 1))),mv 6 21])))<|so [mv 36 0,mv 37 5,op 38 (.gH 1 (.r 36) (some (.r 37)) none none),ef (.So 1 [.int .u64 0] (.r 38))]<|so [mv 39 0,mv 40 5,op 41 (.gH 1 (.r 39) none (some (.r 40)) none),mv 4 41]<|.ret⟩
def UA:An:=⟨[],[]⟩
def GG:Go.Rmp.Fn:=⟨7,2,[.t 3],so [op 3 (.ar (.c (.bool false)))]<|so [mv 4 0,l1 5 1,b2 6 .eql 4 5,mv 3 6]<|.ret⟩
def UB:An:=⟨[],[]⟩
def GH:Go.Rmp.Fn:=⟨42,2,[.t 4],so [op 4 (.ar (.c (.sl .nil [])))]<|so [mv 8 0,mv 9 1,cl 10 129 [.r 8,.r 9],mv 5 10]<|sq (so [mv 11 5,op 12 (.bin .eql (.r 11) (.c (.int .i64 (-1))))]<|.cond (.r 12) (so [mv 13 0,mv 4 13]<|.ret) (.skip))<|sq (so [mv 14 5,op 15 (.bin .add (.r 14) (.c (.int .i64 1))),mv 6 15]<|.block 0 (.loop (sq (so [mv 16 6,mv 17 0,dG 18 17,b2 19 .lss 16 18]<|cx 19 0)<|sq (.block 1 (so [mv 22 0,mv 23 6,ia 24 1 22 23,l1 25 24,mv 7 25]<|so [mv 26 1,mv 27 7,⟨(some 28),.bJ (.r 26) [.r 27],none,[]⟩,op 29 (.un .not (.r 28))]<|.cond (.r 29) (so [mv 30 0,mv 31 5,mv 32 7,ia 33 1 30 31,se 1 33 32]<|.ops [mv 34 5,op 35 (.bin .add (.r 34) (.c (.int .i64 1))),mv 5 35]) (.skip)))<|.ops [mv 20 6,op 21 (.bin .add (.r 20) (.c (.int .i64 1))),mv 6 21])))<|so [mv 36 0,mv 37 5,op 38 (.gH 1 (.r 36) (some (.r 37)) none none),ef (.So 1 [.str ⟨#[]⟩] (.r 38))]<|so [mv 39 0,mv 40 5,op 41 (.gH 1 (.r 39) none (some (.r 40)) none),mv 4 41]<|.ret⟩
def UC:An:=⟨[],[]⟩
def GI:Go.Rmp.Fn:=⟨7,2,[.t 3],so [op 3 (.ar (.c (.bool false)))]<|so [mv 4 0,l1 5 1,b2 6 .eql 4 5,mv 3 6]<|.ret⟩
def UD:An:=⟨[],[]⟩
def BG:Go.Rmp.Fn:=⟨11,1,[.t 2],so [op 2 (.ar (.c (.int .u32 0)))]<|sq (so [mv 3 0,op 4 (.bin .and (.r 3) (.c (.int .u32 1))),op 5 (.bin .eql (.r 4) (.c (.int .u32 1)))]<|.cond (.r 5) (so [mv 6 0,op 7 (.bin .shr (.r 6) (.c (.int .u64 1))),op 8 (.bin .xor (.r 7) (.c (.int .u32 3988292384))),mv 2 8]<|.ret) (.skip))<|so [mv 9 0,op 10 (.bin .shr (.r 9) (.c (.int .u64 1))),mv 2 10]<|.ret⟩
def UE:An:=⟨[],[]⟩
def GJ:Go.Rmp.Fn:=⟨9,1,[.t 2],so [op 2 (.ar (.c (.bool false)))]<|so [mv 3 0,cl 4 130 [.r 3],mv 5 4,mt 6 0 5,⟨(some 7),.call 131 [.r 6],(some (5,true)),[]⟩,op 8 (.pick (.r 5) (.r 7) (.c (.bool false))),mv 2 8]<|.ret⟩
def UF:An:=⟨[],[]⟩
def GK:Go.Rmp.Fn:=⟨18,2,[.t 4],so [op 4 (.ar (.c (.bool false)))]<|sq (so [op 5 (.ar (.c (.int .i64 0)))]<|.block 0 (.loop (sq (so [mv 6 5,mv 7 0,dG 8 7,b2 9 .lss 6 8]<|cx 9 0)<|sq (.block 1 (so [mv 12 0,mv 13 5,ia 14 1 12 13,l1 15 14,mv 16 1,b2 17 .eql 15 16]<|.cond (.r 17) (so [op 4 (.ar (.c (.bool true)))]<|.ret) (.skip)))<|.ops [mv 10 5,op 11 (.bin .add (.r 10) (.c (.int .i64 1))),mv 5 11])))<|so [op 4 (.ar (.c (.bool false)))]<|.ret⟩
def UG:An:=⟨[],[]⟩
def yw:Go.Rmp.Fn:=⟨24,2,[.t 4],so [op 2 (.box (.r 0)),op 3 (.box (.r 1)),op 4 (.ar (.c (.bool false)))]<|so [fa 5 0 2,l1 6 5,fa 7 0 3,l1 8 7,b2 9 .lss 6 8,mv 10 9,gf 11 10 (.fL 0 (.r 2)),gf 12 10 (.ld 1 false (.r 11)),gf 13 10 (.fL 0 (.r 3)),gf 14 10 (.ld 1 false (.r 13)),gf 15 10 (.bin .eql (.r 12) (.r 14)),mf 16 15 10,gt 17 16 (.fL 1 (.r 2)),gt 18 16 (.ld 1 false (.r 17)),gt 19 16 (.fL 1 (.r 3)),gt 20 16 (.ld 1 false (.r 19)),gt 21 16 (.bin .lss (.r 18) (.r 20)),gf 22 10 (.pick (.r 16) (.r 21) (.c (.bool false))),op 23 (.pick (.r 10) (.c (.bool true)) (.r 22)),mv 4 23]<|.ret⟩
def UH:An:=⟨[],[]⟩
def BH:Go.Rmp.Fn:=⟨11,1,[.t 2],so [op 2 (.ar (.c (.int .u32 0)))]<|sq (so [mv 3 0,op 4 (.bin .and (.r 3) (.c (.int .u32 1))),op 5 (.bin .eql (.r 4) (.c (.int .u32 1)))]<|.cond (.r 5) (so [mv 6 0,op 7 (.bin .shr (.r 6) (.c (.int .u64 1))),op 8 (.bin .xor (.r 7) (.c (.int .u32 3988292384))),mv 2 8]<|.ret) (.skip))<|so [mv 9 0,op 10 (.bin .shr (.r 9) (.c (.int .u64 1))),mv 2 10]<|.ret⟩
def UI:An:=⟨[],[(4,[(0,true),(1,true),(2,true),(3,true),(4,true),(5,false),(6,true)])]⟩
def BI:Go.Rmp.Fn:=⟨45,2,[.t 4],so [op 3 (.box (.r 1)),op 4 (.ar (.c (.bool false)))]<|so [fa 6 0 3,ln 7 4 6,op 5 (.alloc [.str ⟨#[]⟩,.int .u64 0,.str ⟨#[]⟩,.sl .nil []]),se 4 5 7]<|sq (so [fa 8 1 5,l1 9 8,cl 10 81 [.r 9],op 11 (.un .not (.r 10)),mv 12 11,gf 13 12 (.fL 3 (.r 5)),gf 14 12 (.ld 1 false (.r 13)),⟨(some 15),.call 110 [.r 14],(some (12,false)),[]⟩,gf 16 12 (.un .not (.r 15)),op 17 (.pick (.r 12) (.c (.bool true)) (.r 16)),mv 18 17,gf 19 18 (.fL 3 (.r 5)),gf 20 18 (.ld 1 false (.r 19)),gf 21 18 (.fL 0 (.r 5)),gf 22 18 (.ld 1 false (.r 21)),⟨(some 23),.call 111 [.r 20,.r 22],(some (18,false)),[]⟩,gf 24 18 (.un .not (.r 23)),op 25 (.pick (.r 18) (.c (.bool true)) (.r 24)),mv 26 25,gf 27 26 (.fL 2 (.r 5)),gf 28 26 (.ld 1 false (.r 27)),gf 29 26 (.len .str (.r 28)),gf 30 26 (.bin .gtr (.r 29) (.c (.int .i64 65535))),op 31 (.pick (.r 26) (.c (.bool true)) (.r 30))]<|.cond (.r 31) (so [op 4 (.ar (.c (.bool false)))]<|.ret) (.skip))<|sq (so [fa 32 1 5,l1 33 32,mv 34 0,fa 35 0 5,l1 36 35,⟨(some 37),.call 80 [.r 34,.r 36],none,[⟨33,.ld 1 false (.r 32),none⟩]⟩,b2 38 .lss 33 37]<|.cond (.r 38) (so [fa 39 4 3,l1 40 39,cl 41 78 [.r 40],mv 4 41]<|.ret) (.skip))<|so [fa 42 4 3,l1 43 42,op 44 (.bin .eql (.r 43) (.c (.int .i64 (-1)))),mv 4 44]<|.ret⟩
def UJ:An:=⟨[],[]⟩
def yx:Go.Rmp.Fn:=⟨49,2,[.t 4,.t 5],so [op 4 (.ar (.c (.int .u64 0))),op 5 (.ar (.c (.bool false)))]<|sq (so [mv 9 0,nc 10 9,fa 11 1 10,l1 12 11,op 13 (.bin .eql (.r 12) (.c (.int .i64 0))),mv 14 13,mt 15 0 14,gt 16 14 (.lS (.r 15)),gt 17 14 (.fL 0 (.r 16)),gt 18 14 (.ld 1 false (.r 17)),gt 19 14 (.len .sl (.r 18)),mt 20 1 14,gt 21 14 (.bin .lss (.r 19) (.r 20)),op 22 (.pick (.r 14) (.r 21) (.c (.bool false)))]<|.cond (.r 22) (.ops [mv 23 0,nc 24 23,fa 25 1 24,ef (.st 1 (.r 25) (.c (.int .i64 4)))]) (.skip))<|sq (so [mv 26 0,nc 27 26,fa 28 1 27,l1 29 28,op 30 (.bin .neq (.r 29) (.c (.int .i64 0)))]<|.cond (.r 30) (so [op 4 (.ar (.c (.int .u64 0))),op 5 (.ar (.c (.bool false)))]<|.ret) (.skip))<|so [op 6 (.ar (.c (.int .u64 0)))]<|sq (so [mv 31 0,nc 32 31,fa 33 0 32,l1 34 33,mv 35 1,op 36 (.gH 1 (.r 34) none (some (.r 35)) none),dG 37 36,op 38 (.ar (.c (.int .i64 0)))]<|.block 0 (.loop (so [b2 39 .lss 38 37]<|sq (cx 39 0)<|sq (.block 1 (so [ia 40 1 36 38,l1 41 40,mv 8 41]<|.ops [mv 42 6,op 43 (.bin .shl (.r 42) (.c (.int .u64 8))),mv 44 8,op 45 (.fG .u64 (.r 44)),b2 46 .or 43 45,mv 6 46]))<|.ops [op 47 (.bin .add (.r 38) (.c (.int .i64 1))),mv 38 47])))<|so [mv 48 6,mv 4 48,op 5 (.ar (.c (.bool true)))]<|.ret⟩
def UK:An:=⟨[(3,3)],[]⟩
def GL:Go.Rmp.Fn:=⟨13,2,[.t 4],so [op 2 (.box (.r 0)),op 4 (.ar (.c (.sl .nil [])))]<|sq (so [mv 6 1]<|.block 0 (.cZ 13 (.r 6) [7] (.ops [op 5 (.alloc [.str ⟨#[]⟩,.int .u64 0]),se 2 5 7]) (.block 1 (.ops [l1 8 2,ln 9 2 5,op 10 (.mJ 1 [.str ⟨#[]⟩,.int .u64 0] [(0,(.r 9))]),op 11 (.app 2 24 true (.r 8) (.r 10)),se 1 2 11]))))<|so [l1 12 2,mv 4 12]<|.ret⟩
def UL:An:=⟨[],[(17,[(0,true),(1,true),(2,true),(3,true),(4,true),(5,true),(6,true),(7,true),(8,true),(9,true),(10,true),(11,true),(12,true),(13,false),(14,true),(15,true),(16,true)])]⟩
def fg:Go.Rmp.Fn:=⟨148,5,[],so [op 10 (.ar (.c (.bool true)))]<|so [op 11 (.ar (.c (.bool true)))]<|.block 0 (.loop (.block 1 (so [mv 21 2,mv 22 1,b2 23 .sub 21 22,mv 12 23]<|sq (so [mv 24 12,op 25 (.bin .leq (.r 24) (.c (.int .i64 12)))]<|.cond (.r 25) (so [mv 26 0,mv 27 1,mv 28 2,mv 29 4,cl 30 132 [.r 26,.r 27,.r 28,.r 29]]<|.ret) (.skip))<|sq (so [mv 31 3,op 32 (.bin .eql (.r 31) (.c (.int .i64 0)))]<|.cond (.r 32) (so [mv 33 0,mv 34 1,mv 35 2,mv 36 4,cl 37 133 [.r 33,.r 34,.r 35,.r 36]]<|.ret) (.skip))<|sq (so [mv 38 10,op 39 (.un .not (.r 38))]<|.cond (.r 39) (so [mv 40 0,mv 41 1,mv 42 2,mv 43 4,cl 44 134 [.r 40,.r 41,.r 42,.r 43]]<|.ops [mv 45 3,op 46 (.bin .sub (.r 45) (.c (.int .i64 1))),mv 3 46]) (.skip))<|so [mv 48 0,mv 49 1,mv 50 2,mv 51 4,cl 52 135 [.r 48,.r 49,.r 50,.r 51],mv 47 52,xt 53 0 47,xt 54 1 47,mv 13 53,mv 14 54]<|sq (so [mv 55 14,op 56 (.bin .eql (.r 55) (.c (.int .i64 2)))]<|.cond (.r 56) (so [mv 57 0,mv 58 1,mv 59 2,mv 60 4,cl 61 136 [.r 57,.r 58,.r 59,.r 60]]<|so [mv 62 2,op 63 (.bin .sub (.r 62) (.c (.int .i64 1))),mv 64 13,mv 65 1,b2 66 .sub 64 65,b2 67 .sub 63 66,mv 13 67]<|.ops [op 14 (.ar (.c (.int .i64 1)))]) (.skip))<|sq (so [mv 68 10,mv 69 68,mt 70 11 69,op 71 (.pick (.r 69) (.r 70) (.c (.bool false))),mv 72 71,mt 73 14 72,gt 74 72 (.bin .eql (.r 73) (.c (.int .i64 1))),op 75 (.pick (.r 72) (.r 74) (.c (.bool false)))]<|.cond (.r 75) (so [mv 76 0,mv 77 1,mv 78 2,mv 79 4,cl 80 137 [.r 76,.r 77,.r 78,.r 79]]<|.cond (.r 80) (.ret) (.skip)) (.skip))<|sq (so [mv 81 1,op 82 (.bin .gtr (.r 81) (.c (.int .i64 0))),mv 83 82,mt 84 4 83,mt 85 0 83,mt 86 1 83,gt 87 83 (.bin .sub (.r 86) (.c (.int .i64 1))),gt 88 83 (.eF 2 (.r 85) (.r 87)),gt 89 83 (.ld 2 true (.r 88)),mt 90 0 83,mt 91 13 83,gt 92 83 (.eF 2 (.r 90) (.r 91)),gt 93 83 (.ld 2 true (.r 92)),⟨(some 94),.bJ (.r 84) [.r 89,.r 93],(some (83,true)),[]⟩,gt 95 83 (.bin .lss (.r 94) (.c (.int .i64 0))),gt 96 83 (.un .not (.r 95)),op 97 (.pick (.r 83) (.r 96) (.c (.bool false)))]<|.cond (.r 97) (so [mv 98 0,mv 99 1,mv 100 2,mv 101 13,mv 102 4,cl 103 138 [.r 98,.r 99,.r 100,.r 101,.r 102],mv 15 103]<|so [mv 104 15,mv 1 104]<|.exit 1) (.skip))<|so [mv 106 0,mv 107 1,mv 108 2,mv 109 13,mv 110 4,cl 111 139 [.r 106,.r 107,.r 108,.r 109,.r 110],mv 105 111,xt 112 0 105,xt 113 1 105,mv 16 112,mv 17 113]<|so [mv 114 17,mv 11 114]<|so [mv 115 16,mv 116 1,b2 117 .sub 115 116,mv 118 2,mv 119 16,b2 120 .sub 118 119,mv 18 117,mv 19 120]<|so [mv 121 12,op 122 (.bin .quo (.r 121) (.c (.int .i64 8))),mv 20 122]<|so [mv 123 18,mv 124 19,b2 125 .lss 123 124]<|.cond (.r 125) (so [mv 126 18,mv 127 20,b2 128 .geq 126 127,mv 10 128]<|so [mv 129 0,mv 130 1,mv 131 16,mv 132 3,mv 133 4,cl 134 117 [.r 129,.r 130,.r 131,.r 132,.r 133]]<|.ops [mv 135 16,op 136 (.bin .add (.r 135) (.c (.int .i64 1))),mv 1 136]) (so [mv 137 19,mv 138 20,b2 139 .geq 137 138,mv 10 139]<|so [mv 140 0,mv 141 16,op 142 (.bin .add (.r 141) (.c (.int .i64 1))),mv 143 2,mv 144 3,mv 145 4,cl 146 117 [.r 140,.r 142,.r 143,.r 144,.r 145]]<|.ops [mv 147 16,mv 2 147]))))⟩
def UM:An:=⟨[],[]⟩
def BJ:Go.Rmp.Fn:=⟨8,1,[.t 2],so [op 2 (.ar (.c (.int .i64 0)))]<|sq (.cond (.c (.bool false)) (so [mv 3 0,op 4 (.fG .u32 (.r 3)),cl 5 140 [.r 4],mv 2 5]<|.ret) (.skip))<|so [mv 6 0,cl 7 141 [.r 6],mv 2 7]<|.ret⟩
def UN:An:=⟨[],[]⟩
def GM:Go.Rmp.Fn:=⟨6,1,[.t 2],so [op 2 (.ar (.c (.bool false)))]<|so [mv 3 0,mv 4 0,b2 5 .neq 3 4,mv 2 5]<|.ret⟩
def UO:An:=⟨[],[]⟩
def GN:Go.Rmp.Fn:=⟨6,1,[.t 2],so [op 2 (.ar (.c (.bool false)))]<|so [mv 3 0,mv 4 0,b2 5 .neq 3 4,mv 2 5]<|.ret⟩
def UP:An:=⟨[(3,3)],[]⟩
def GO:Go.Rmp.Fn:=⟨13,2,[.t 4],so [op 2 (.box (.r 0)),op 4 (.ar (.c (.sl .nil [])))]<|sq (so [mv 6 1]<|.block 0 (.cZ 13 (.r 6) [7] (.ops [mv 5 7]) (.block 1 (.ops [l1 8 2,mv 9 5,op 10 (.mJ 1 [.str ⟨#[]⟩] [(0,(.r 9))]),op 11 (.app 1 16 true (.r 8) (.r 10)),se 1 2 11]))))<|so [l1 12 2,mv 4 12]<|.ret⟩
def UQ:An:=⟨[],[(17,[(0,true),(1,true),(2,true),(3,true),(4,true),(5,true),(6,true),(7,true),(8,true),(9,true),(10,true),(11,true),(12,false),(13,true),(14,true)])]⟩
def fh:Go.Rmp.Fn:=⟨134,4,[],so [op 8 (.ar (.c (.bool true)))]<|so [op 9 (.ar (.c (.bool true)))]<|.block 0 (.loop (.block 1 (so [mv 19 2,mv 20 1,b2 21 .sub 19 20,mv 10 21]<|sq (so [mv 22 10,op 23 (.bin .leq (.r 22) (.c (.int .i64 12)))]<|.cond (.r 23) (so [mv 24 0,mv 25 1,mv 26 2,cl 27 142 [.r 24,.r 25,.r 26]]<|.ret) (.skip))<|sq (so [mv 28 3,op 29 (.bin .eql (.r 28) (.c (.int .i64 0)))]<|.cond (.r 29) (so [mv 30 0,mv 31 1,mv 32 2,cl 33 143 [.r 30,.r 31,.r 32]]<|.ret) (.skip))<|sq (so [mv 34 8,op 35 (.un .not (.r 34))]<|.cond (.r 35) (so [mv 36 0,mv 37 1,mv 38 2,cl 39 144 [.r 36,.r 37,.r 38]]<|.ops [mv 40 3,op 41 (.bin .sub (.r 40) (.c (.int .i64 1))),mv 3 41]) (.skip))<|so [mv 43 0,mv 44 1,mv 45 2,cl 46 145 [.r 43,.r 44,.r 45],mv 42 46,xt 47 0 42,xt 48 1 42,mv 11 47,mv 12 48]<|sq (so [mv 49 12,op 50 (.bin .eql (.r 49) (.c (.int .i64 2)))]<|.cond (.r 50) (so [mv 51 0,mv 52 1,mv 53 2,cl 54 146 [.r 51,.r 52,.r 53]]<|so [mv 55 2,op 56 (.bin .sub (.r 55) (.c (.int .i64 1))),mv 57 11,mv 58 1,b2 59 .sub 57 58,b2 60 .sub 56 59,mv 11 60]<|.ops [op 12 (.ar (.c (.int .i64 1)))]) (.skip))<|sq (so [mv 61 8,mv 62 61,mt 63 9 62,op 64 (.pick (.r 62) (.r 63) (.c (.bool false))),mv 65 64,mt 66 12 65,gt 67 65 (.bin .eql (.r 66) (.c (.int .i64 1))),op 68 (.pick (.r 65) (.r 67) (.c (.bool false)))]<|.cond (.r 68) (so [mv 69 0,mv 70 1,mv 71 2,cl 72 147 [.r 69,.r 70,.r 71]]<|.cond (.r 72) (.ret) (.skip)) (.skip))<|sq (so [mv 73 1,op 74 (.bin .gtr (.r 73) (.c (.int .i64 0))),mv 75 74,mt 76 0 75,mt 77 1 75,gt 78 75 (.bin .sub (.r 77) (.c (.int .i64 1))),gt 79 75 (.eF 1 (.r 76) (.r 78)),gt 80 75 (.ld 1 false (.r 79)),mt 81 0 75,mt 82 11 75,gt 83 75 (.eF 1 (.r 81) (.r 82)),gt 84 75 (.ld 1 false (.r 83)),⟨(some 85),.call 148 [.r 80,.r 84],(some (75,true)),[]⟩,gt 86 75 (.un .not (.r 85)),op 87 (.pick (.r 75) (.r 86) (.c (.bool false)))]<|.cond (.r 87) (so [mv 88 0,mv 89 1,mv 90 2,mv 91 11,cl 92 149 [.r 88,.r 89,.r 90,.r 91],mv 13 92]<|so [mv 93 13,mv 1 93]<|.exit 1) (.skip))<|so [mv 95 0,mv 96 1,mv 97 2,mv 98 11,cl 99 150 [.r 95,.r 96,.r 97,.r 98],mv 94 99,xt 100 0 94,xt 101 1 94,mv 14 100,mv 15 101]<|so [mv 102 15,mv 9 102]<|so [mv 103 14,mv 104 1,b2 105 .sub 103 104,mv 106 2,mv 107 14,b2 108 .sub 106 107,mv 16 105,mv 17 108]<|so [mv 109 10,op 110 (.bin .quo (.r 109) (.c (.int .i64 8))),mv 18 110]<|so [mv 111 16,mv 112 17,b2 113 .lss 111 112]<|.cond (.r 113) (so [mv 114 16,mv 115 18,b2 116 .geq 114 115,mv 8 116]<|so [mv 117 0,mv 118 1,mv 119 14,mv 120 3,cl 121 122 [.r 117,.r 118,.r 119,.r 120]]<|.ops [mv 122 14,op 123 (.bin .add (.r 122) (.c (.int .i64 1))),mv 1 123]) (so [mv 124 17,mv 125 18,b2 126 .geq 124 125,mv 8 126]<|so [mv 127 0,mv 128 14,op 129 (.bin .add (.r 128) (.c (.int .i64 1))),mv 130 2,mv 131 3,cl 132 122 [.r 127,.r 129,.r 130,.r 131]]<|.ops [mv 133 14,mv 2 133]))))⟩
def UR:An:=⟨[],[]⟩
def GP:Go.Rmp.Fn:=⟨54,2,[.t 4,.t 5],so [op 4 (.ar (.c (.int .i64 0))),op 5 (.ar (.c (.bool false)))]<|so [mv 10 0,dG 11 10,mv 6 11]<|so [mv 12 6,op 7 (.ar (.c (.int .i64 0))),mv 8 12]<|sq (.block 0 (.loop (sq (so [mv 13 7,mv 14 8,b2 15 .lss 13 14]<|cx 15 0)<|.block 1 (so [mv 16 7,mv 17 8,b2 18 .add 16 17,op 19 (.fG .u64 (.r 18)),op 20 (.bin .shr (.r 19) (.c (.int .u64 1))),op 21 (.fG .i64 (.r 20)),mv 9 21]<|so [mv 22 0,mv 23 9,ia 24 1 22 23,l1 25 24,mv 26 1,cl 27 148 [.r 25,.r 26]]<|.cond (.r 27) (.ops [mv 28 9,op 29 (.bin .add (.r 28) (.c (.int .i64 1))),mv 7 29]) (.ops [mv 30 9,mv 8 30])))))<|so [mv 31 7,mv 32 7,mv 33 6,b2 34 .lss 32 33,mv 35 34,mt 36 0 35,mt 37 7 35,gt 38 35 (.eF 1 (.r 36) (.r 37)),gt 39 35 (.ld 1 false (.r 38)),mt 40 1 35,gt 41 35 (.bin .eql (.r 39) (.r 40)),mt 42 41 35,mf 43 0 42,mf 44 7 42,gf 45 42 (.eF 1 (.r 43) (.r 44)),gf 46 42 (.ld 1 false (.r 45)),⟨(some 47),.call 151 [.r 46],(some (42,false)),[]⟩,mf 48 47 42,mt 49 1 48,⟨(some 50),.call 151 [.r 49],(some (48,true)),[]⟩,gf 51 42 (.pick (.r 48) (.r 50) (.c (.bool false))),gt 52 35 (.pick (.r 42) (.c (.bool true)) (.r 51)),op 53 (.pick (.r 35) (.r 52) (.c (.bool false))),mv 4 31,mv 5 53]<|.ret⟩
def US:An:=⟨[],[]⟩
def GQ:Go.Rmp.Fn:=⟨17,2,[.t 4],so [op 4 (.ar (.c (.bool false)))]<|so [mv 5 0,cl 6 120 [.r 5],mv 7 6,mt 8 1 7,⟨(some 9),.call 120 [.r 8],(some (7,true)),[]⟩,gt 10 7 (.un .not (.r 9)),op 11 (.pick (.r 7) (.r 10) (.c (.bool false))),mv 12 11,mf 13 0 12,mf 14 1 12,gf 15 12 (.bin .lss (.r 13) (.r 14)),op 16 (.pick (.r 12) (.c (.bool true)) (.r 15)),mv 4 16]<|.ret⟩
def UT:An:=⟨[],[]⟩
def GR:Go.Rmp.Fn:=⟨6,1,[.t 2],so [op 2 (.ar (.c (.bool false)))]<|so [mv 3 0,mv 4 0,b2 5 .neq 3 4,mv 2 5]<|.ret⟩
def UU:An:=⟨[],[]⟩
def GS:Go.Rmp.Fn:=⟨19,2,[.t 4],so [op 4 (.ar (.c (.int .i64 0)))]<|sq (so [mv 6 0,dG 7 6,op 8 (.ar (.c (.int .i64 0)))]<|.block 0 (.loop (so [b2 9 .lss 8 7]<|sq (cx 9 0)<|sq (.block 1 (so [mv 10 8,mv 5 10]<|so [mv 11 1,mv 12 0,mv 13 5,ia 14 1 12 13,l1 15 14,⟨(some 16),.bJ (.r 11) [.r 15],none,[]⟩]<|.cond (.r 16) (so [mv 17 5,mv 4 17]<|.ret) (.skip)))<|.ops [op 18 (.bin .add (.r 8) (.c (.int .i64 1))),mv 8 18])))<|so [op 4 (.ar (.c (.int .i64 (-1))))]<|.ret⟩
def UW:An:=⟨[],[]⟩
def GU:Go.Rmp.Fn:=⟨19,2,[.t 4],so [op 4 (.ar (.c (.int .i64 0)))]<|sq (so [mv 6 0,dG 7 6,op 8 (.ar (.c (.int .i64 0)))]<|.block 0 (.loop (so [b2 9 .lss 8 7]<|sq (cx 9 0)<|sq (.block 1 (so [mv 10 8,mv 5 10]<|so [mv 11 1,mv 12 0,mv 13 5,ia 14 1 12 13,l1 15 14,⟨(some 16),.bJ (.r 11) [.r 15],none,[]⟩]<|.cond (.r 16) (so [mv 17 5,mv 4 17]<|.ret) (.skip)))<|.ops [op 18 (.bin .add (.r 8) (.c (.int .i64 1))),mv 8 18])))<|so [op 4 (.ar (.c (.int .i64 (-1))))]<|.ret⟩
def UX:An:=⟨[],[]⟩
def GV:Go.Rmp.Fn:=⟨24,1,[.t 2],so [op 2 (.ar (.c (.bool false)))]<|sq (so [op 3 (.ar (.c (.int .i64 0)))]<|.block 0 (.loop (sq (so [mv 4 3,mv 5 0,dG 6 5,b2 7 .lss 4 6]<|cx 7 0)<|sq (.block 1 (so [mv 10 0,mv 11 3,ia 12 1 10 11,l1 13 12,op 14 (.len .str (.r 13)),op 15 (.bin .gtr (.r 14) (.c (.int .i64 65535)))]<|.cond (.r 15) (so [op 2 (.ar (.c (.bool false)))]<|.ret) (.skip)))<|.ops [mv 8 3,op 9 (.bin .add (.r 8) (.c (.int .i64 1))),mv 3 9])))<|so [mv 16 0,dG 17 16,op 18 (.bin .geq (.r 17) (.c (.int .i64 1))),mv 19 18,mt 20 0 19,gt 21 19 (.len .sl (.r 20)),gt 22 19 (.bin .leq (.r 21) (.c (.int .i64 1024))),op 23 (.pick (.r 19) (.r 22) (.c (.bool false))),mv 2 23]<|.ret⟩
def UY:An:=⟨[],[(4,[(0,true),(1,true),(2,true),(3,true),(4,true),(5,true),(6,true),(7,true),(8,true),(9,true)])]⟩
def GW:Go.Rmp.Fn:=⟨20,1,[.t 2],so [op 2 (.ar (.c (.bool false)))]<|sq (so [op 3 (.ar (.c (.int .i64 1)))]<|.block 0 (.loop (sq (so [mv 4 3,mv 5 0,dG 6 5,b2 7 .lss 4 6]<|cx 7 0)<|sq (.block 1 (so [mv 10 0,mv 11 3,op 12 (.bin .sub (.r 11) (.c (.int .i64 1))),ia 13 1 10 12,l1 14 13,mv 15 0,mv 16 3,ia 17 1 15 16,l1 18 17,b2 19 .geq 14 18]<|.cond (.r 19) (so [op 2 (.ar (.c (.bool false)))]<|.ret) (.skip)))<|.ops [mv 8 3,op 9 (.bin .add (.r 8) (.c (.int .i64 1))),mv 3 9])))<|so [op 2 (.ar (.c (.bool true)))]<|.ret⟩
def UZ:An:=⟨[],[(4,[(0,true),(1,true),(2,true),(3,true),(4,true),(5,true),(6,true),(7,true),(8,true),(9,true),(10,true),(11,true),(12,true),(13,true),(14,false),(15,true),(16,true)]),(6,[(0,true),(1,true),(2,true),(3,true),(4,true),(5,true),(6,true),(7,true),(8,true),(9,true),(10,true),(11,true),(12,true),(13,true),(14,true),(15,false),(16,true),(17,false)])]⟩
def BK:Go.Rmp.Fn:=⟨53,4,[],so [mv 10 1,op 11 (.bin .add (.r 10) (.c (.int .i64 1))),mv 8 11]<|.block 0 (.loop (sq (so [mv 12 8,mv 13 2,b2 14 .lss 12 13]<|cx 14 0)<|sq (.block 1 (so [mv 17 8,mv 9 17]<|.block 2 (.loop (sq (so [mv 18 9,mv 19 1,b2 20 .gtr 18 19,mv 21 20,mt 22 3 21,mt 23 0 21,mt 24 9 21,gt 25 21 (.eF 2 (.r 23) (.r 24)),gt 26 21 (.ld 2 true (.r 25)),mt 27 0 21,mt 28 9 21,gt 29 21 (.bin .sub (.r 28) (.c (.int .i64 1))),gt 30 21 (.eF 2 (.r 27) (.r 29)),gt 31 21 (.ld 2 true (.r 30)),⟨(some 32),.bJ (.r 22) [.r 26,.r 31],(some (21,true)),[]⟩,gt 33 21 (.bin .lss (.r 32) (.c (.int .i64 0))),op 34 (.pick (.r 21) (.r 33) (.c (.bool false)))]<|cx 34 2)<|sq (.block 3 (.ops [mv 37 0,mv 38 9,mv 39 0,mv 40 9,op 41 (.bin .sub (.r 40) (.c (.int .i64 1))),mv 42 0,mv 43 9,op 44 (.bin .sub (.r 43) (.c (.int .i64 1))),ia 45 2 42 44,ln 46 2 45,mv 47 0,mv 48 9,ia 49 2 47 48,ln 50 2 49,ia 51 2 37 38,se 2 51 46,ia 52 2 39 41,se 2 52 50]))<|.ops [mv 35 9,op 36 (.bin .sub (.r 35) (.c (.int .i64 1))),mv 9 36]))))<|.ops [mv 15 8,op 16 (.bin .add (.r 15) (.c (.int .i64 1))),mv 8 16]))⟩
def U0:An:=⟨[],[(10,[(0,true),(1,true),(2,true),(3,true),(4,true),(5,true),(6,true),(7,true),(8,true),(9,true),(10,true),(11,true),(12,true),(13,true),(14,true),(15,true),(16,true),(17,false),(18,true),(19,false)])]⟩
def GX:Go.Rmp.Fn:=⟨60,4,[],so [mv 13 1,mv 8 13]<|so [op 9 (.ar (.c (.int .i64 0)))]<|so [mv 14 2,mv 15 1,b2 16 .sub 14 15,mv 10 16]<|sq (so [mv 17 10,op 18 (.bin .sub (.r 17) (.c (.int .i64 1))),op 19 (.bin .quo (.r 18) (.c (.int .i64 2))),mv 11 19]<|.block 0 (.loop (sq (so [mv 20 11,op 21 (.bin .geq (.r 20) (.c (.int .i64 0)))]<|cx 21 0)<|sq (.block 1 (.ops [mv 24 0,mv 25 11,mv 26 10,mv 27 8,mv 28 3,cl 29 153 [.r 24,.r 25,.r 26,.r 27,.r 28]]))<|.ops [mv 22 11,op 23 (.bin .sub (.r 22) (.c (.int .i64 1))),mv 11 23])))<|so [mv 30 10,op 31 (.bin .sub (.r 30) (.c (.int .i64 1))),mv 12 31]<|.block 2 (.loop (sq (so [mv 32 12,op 33 (.bin .geq (.r 32) (.c (.int .i64 0)))]<|cx 33 2)<|sq (.block 3 (so [mv 36 0,mv 37 8,mv 38 0,mv 39 8,mv 40 12,b2 41 .add 39 40,mv 42 0,mv 43 8,mv 44 12,b2 45 .add 43 44,ia 46 2 42 45,ln 47 2 46,mv 48 0,mv 49 8,ia 50 2 48 49,ln 51 2 50,ia 52 2 36 37,se 2 52 47,ia 53 2 38 41,se 2 53 51]<|.ops [mv 54 0,mv 55 9,mv 56 12,mv 57 8,mv 58 3,cl 59 153 [.r 54,.r 55,.r 56,.r 57,.r 58]]))<|.ops [mv 34 12,op 35 (.bin .sub (.r 34) (.c (.int .i64 1))),mv 12 35]))⟩
def U1:An:=⟨[],[(10,[(0,true),(1,true),(2,true),(3,true),(4,true),(5,true),(6,true),(7,true),(8,true),(9,true),(10,true),(11,true),(12,true),(13,true),(14,true),(15,true),(16,true),(17,false),(18,true),(19,false)])]⟩
def GY:Go.Rmp.Fn:=⟨67,4,[],so [mv 13 2,mv 14 1,b2 15 .sub 13 14,mv 8 15]<|so [mv 16 8,op 17 (.bin .geq (.r 16) (.c (.int .i64 8)))]<|.cond (.r 17) (so [mv 18 8,op 19 (.fG .u64 (.r 18)),op 9 (.alloc [.int .u64 0]),se 1 9 19]<|so [mv 20 8,cl 21 154 [.r 20],mv 10 21]<|so [mv 22 1,mv 23 8,op 24 (.bin .quo (.r 23) (.c (.int .i64 4))),op 25 (.bin .mul (.r 24) (.c (.int .i64 2))),b2 26 .add 22 25,op 27 (.bin .sub (.r 26) (.c (.int .i64 1))),mv 11 27]<|.block 0 (.loop (sq (so [mv 28 11,mv 29 1,mv 30 8,op 31 (.bin .quo (.r 30) (.c (.int .i64 4))),op 32 (.bin .mul (.r 31) (.c (.int .i64 2))),b2 33 .add 29 32,op 34 (.bin .add (.r 33) (.c (.int .i64 1))),b2 35 .leq 28 34]<|cx 35 0)<|sq (.block 1 (so [cl 38 155 [.r 9],mv 39 10,op 40 (.bin .sub (.r 39) (.c (.int .u64 1))),b2 41 .and 38 40,op 42 (.fG .i64 (.r 41)),mv 12 42]<|sq (so [mv 43 12,mv 44 8,b2 45 .geq 43 44]<|.cond (.r 45) (.ops [mv 46 12,mv 47 8,b2 48 .sub 46 47,mv 12 48]) (.skip))<|.ops [mv 49 0,mv 50 11,mv 51 0,mv 52 1,mv 53 12,b2 54 .add 52 53,mv 55 0,mv 56 1,mv 57 12,b2 58 .add 56 57,ia 59 2 55 58,ln 60 2 59,mv 61 0,mv 62 11,ia 63 2 61 62,ln 64 2 63,ia 65 2 49 50,se 2 65 60,ia 66 2 51 54,se 2 66 64]))<|.ops [mv 36 11,op 37 (.bin .add (.r 36) (.c (.int .i64 1))),mv 11 37]))) (.skip)⟩
def U2:An:=⟨[],[]⟩
def BL:Go.Rmp.Fn:=⟨63,4,[.t 8,.t 9],so [op 8 (.ar (.c (.int .i64 0))),op 9 (.ar (.c (.int .i64 0)))]<|so [mv 15 2,mv 16 1,b2 17 .sub 15 16,mv 10 17]<|so [op 11 (.alloc [.int .i64 0])]<|so [mv 18 1,mv 19 10,op 20 (.bin .quo (.r 19) (.c (.int .i64 4))),op 21 (.bin .mul (.r 20) (.c (.int .i64 1))),b2 22 .add 18 21,mv 12 22]<|so [mv 23 1,mv 24 10,op 25 (.bin .quo (.r 24) (.c (.int .i64 4))),op 26 (.bin .mul (.r 25) (.c (.int .i64 2))),b2 27 .add 23 26,mv 13 27]<|so [mv 28 1,mv 29 10,op 30 (.bin .quo (.r 29) (.c (.int .i64 4))),op 31 (.bin .mul (.r 30) (.c (.int .i64 3))),b2 32 .add 28 31,mv 14 32]<|sq (so [mv 33 10,op 34 (.bin .geq (.r 33) (.c (.int .i64 8)))]<|.cond (.r 34) (sq (so [mv 35 10,op 36 (.bin .geq (.r 35) (.c (.int .i64 50)))]<|.cond (.r 36) (so [mv 37 0,mv 38 12,mv 39 3,cl 40 156 [.r 37,.r 38,.r 11,.r 39],mv 12 40]<|so [mv 41 0,mv 42 13,mv 43 3,cl 44 156 [.r 41,.r 42,.r 11,.r 43],mv 13 44]<|.ops [mv 45 0,mv 46 14,mv 47 3,cl 48 156 [.r 45,.r 46,.r 11,.r 47],mv 14 48]) (.skip))<|.ops [mv 49 0,mv 50 12,mv 51 13,mv 52 14,mv 53 3,cl 54 157 [.r 49,.r 50,.r 51,.r 52,.r 11,.r 53],mv 13 54]) (.skip))<|so [l1 55 11]<|.block 0 (so [op 58 (.bin .eql (.r 55) (.c (.int .i64 0))),mv 57 58]<|.cond (.r 57) (so [mv 59 13,mv 8 59,op 9 (.ar (.c (.int .i64 1)))]<|.ret) (so [op 61 (.bin .eql (.r 55) (.c (.int .i64 12))),mv 60 61]<|.cond (.r 60) (so [mv 62 13,mv 8 62,op 9 (.ar (.c (.int .i64 2)))]<|.ret) (so [mv 56 13,mv 8 56,op 9 (.ar (.c (.int .i64 0)))]<|.ret)))⟩
def U3:An:=⟨[],[(3,[(0,true),(1,true),(2,true),(3,true),(4,true),(5,true),(6,true),(7,true),(8,true),(9,true),(10,true),(11,true),(12,true),(13,false),(14,true),(15,false)])]⟩
def GZ:Go.Rmp.Fn:=⟨34,4,[],so [mv 10 1,mv 8 10]<|so [mv 11 2,op 12 (.bin .sub (.r 11) (.c (.int .i64 1))),mv 9 12]<|.block 0 (.loop (sq (so [mv 13 8,mv 14 9,b2 15 .lss 13 14]<|cx 15 0)<|.block 1 (so [mv 16 0,mv 17 8,mv 18 0,mv 19 9,mv 20 0,mv 21 9,ia 22 2 20 21,ln 23 2 22,mv 24 0,mv 25 8,ia 26 2 24 25,ln 27 2 26,ia 28 2 16 17,se 2 28 23,ia 29 2 18 19,se 2 29 27]<|so [mv 30 8,op 31 (.bin .add (.r 30) (.c (.int .i64 1))),mv 8 31]<|.ops [mv 32 9,op 33 (.bin .sub (.r 32) (.c (.int .i64 1))),mv 9 33])))⟩
def U4:An:=⟨[],[(5,[(0,true),(1,true),(2,true),(3,true),(4,true),(5,true),(6,true),(7,true),(8,true),(9,true),(10,true),(11,true),(12,true),(13,true),(14,false),(15,true),(16,true),(17,true)]),(11,[(0,true),(1,true),(2,true),(3,true),(4,true),(5,true),(6,true),(7,true),(8,true),(9,true),(10,true),(11,true),(12,true),(13,true),(14,true),(15,false),(16,true),(17,false)]),(16,[(0,true),(1,true),(2,true),(3,true),(4,true),(5,true),(6,true),(7,true),(8,true),(9,true),(10,false),(11,true),(12,true)]),(17,[(0,true),(1,true),(2,true),(3,true),(4,true),(5,true),(6,true),(7,true),(8,true),(9,true),(10,true),(11,true),(12,true),(13,true),(14,true),(15,false),(16,true),(17,false)]),(22,[(0,true),(1,true),(2,true),(3,true),(4,true),(5,true),(6,true),(7,true),(8,true),(9,true),(10,false),(11,true),(12,true)]),(23,[(0,true),(1,true),(2,true),(3,true),(4,true),(5,true),(6,true),(7,true),(8,true),(9,true),(10,true),(11,true),(12,true),(13,true),(14,true),(15,false),(16,true),(17,false)])]⟩
def G0:Go.Rmp.Fn:=⟨141,4,[.t 8],so [op 8 (.ar (.c (.bool false)))]<|so [mv 13 1,op 14 (.bin .add (.r 13) (.c (.int .i64 1))),mv 9 14]<|sq (so [op 10 (.ar (.c (.int .i64 0)))]<|.block 0 (.loop (sq (so [mv 15 10,op 16 (.bin .lss (.r 15) (.c (.int .i64 5)))]<|cx 16 0)<|sq (.block 1 (sq (.block 2 (.loop (sq (so [mv 19 9,mv 20 2,b2 21 .lss 19 20,mv 22 21,mt 23 3 22,mt 24 0 22,mt 25 9 22,gt 26 22 (.eF 2 (.r 24) (.r 25)),gt 27 22 (.ld 2 true (.r 26)),mt 28 0 22,mt 29 9 22,gt 30 22 (.bin .sub (.r 29) (.c (.int .i64 1))),gt 31 22 (.eF 2 (.r 28) (.r 30)),gt 32 22 (.ld 2 true (.r 31)),⟨(some 33),.bJ (.r 23) [.r 27,.r 32],(some (22,true)),[]⟩,gt 34 22 (.bin .lss (.r 33) (.c (.int .i64 0))),gt 35 22 (.un .not (.r 34)),op 36 (.pick (.r 22) (.r 35) (.c (.bool false)))]<|cx 36 2)<|.block 3 (.ops [mv 37 9,op 38 (.bin .add (.r 37) (.c (.int .i64 1))),mv 9 38]))))<|sq (so [mv 39 9,mv 40 2,b2 41 .eql 39 40]<|.cond (.r 41) (so [op 8 (.ar (.c (.bool true)))]<|.ret) (.skip))<|sq (so [mv 42 2,mv 43 1,b2 44 .sub 42 43,op 45 (.bin .lss (.r 44) (.c (.int .i64 50)))]<|.cond (.r 45) (so [op 8 (.ar (.c (.bool false)))]<|.ret) (.skip))<|so [mv 46 0,mv 47 9,mv 48 0,mv 49 9,op 50 (.bin .sub (.r 49) (.c (.int .i64 1))),mv 51 0,mv 52 9,op 53 (.bin .sub (.r 52) (.c (.int .i64 1))),ia 54 2 51 53,ln 55 2 54,mv 56 0,mv 57 9,ia 58 2 56 57,ln 59 2 58,ia 60 2 46 47,se 2 60 55,ia 61 2 48 50,se 2 61 59]<|sq (so [mv 62 9,mv 63 1,b2 64 .sub 62 63,op 65 (.bin .geq (.r 64) (.c (.int .i64 2)))]<|.cond (.r 65) (so [mv 66 9,op 67 (.bin .sub (.r 66) (.c (.int .i64 1))),mv 11 67]<|.block 4 (.loop (sq (so [mv 68 11,op 69 (.bin .geq (.r 68) (.c (.int .i64 1)))]<|cx 69 4)<|sq (.block 5 (sq (so [mv 72 3,mv 73 0,mv 74 11,ia 75 2 73 74,ln 76 2 75,mv 77 0,mv 78 11,op 79 (.bin .sub (.r 78) (.c (.int .i64 1))),ia 80 2 77 79,ln 81 2 80,⟨(some 82),.bJ (.r 72) [.r 76,.r 81],none,[]⟩,op 83 (.bin .lss (.r 82) (.c (.int .i64 0))),op 84 (.un .not (.r 83))]<|.cond (.r 84) (.exit 4) (.skip))<|.ops [mv 85 0,mv 86 11,mv 87 0,mv 88 11,op 89 (.bin .sub (.r 88) (.c (.int .i64 1))),mv 90 0,mv 91 11,op 92 (.bin .sub (.r 91) (.c (.int .i64 1))),ia 93 2 90 92,ln 94 2 93,mv 95 0,mv 96 11,ia 97 2 95 96,ln 98 2 97,ia 99 2 85 86,se 2 99 94,ia 100 2 87 89,se 2 100 98]))<|.ops [mv 70 11,op 71 (.bin .sub (.r 70) (.c (.int .i64 1))),mv 11 71]))) (.skip))<|so [mv 101 2,mv 102 9,b2 103 .sub 101 102,op 104 (.bin .geq (.r 103) (.c (.int .i64 2)))]<|.cond (.r 104) (so [mv 105 9,op 106 (.bin .add (.r 105) (.c (.int .i64 1))),mv 12 106]<|.block 6 (.loop (sq (so [mv 107 12,mv 108 2,b2 109 .lss 107 108]<|cx 109 6)<|sq (.block 7 (sq (so [mv 112 3,mv 113 0,mv 114 12,ia 115 2 113 114,ln 116 2 115,mv 117 0,mv 118 12,op 119 (.bin .sub (.r 118) (.c (.int .i64 1))),ia 120 2 117 119,ln 121 2 120,⟨(some 122),.bJ (.r 112) [.r 116,.r 121],none,[]⟩,op 123 (.bin .lss (.r 122) (.c (.int .i64 0))),op 124 (.un .not (.r 123))]<|.cond (.r 124) (.exit 6) (.skip))<|.ops [mv 125 0,mv 126 12,mv 127 0,mv 128 12,op 129 (.bin .sub (.r 128) (.c (.int .i64 1))),mv 130 0,mv 131 12,op 132 (.bin .sub (.r 131) (.c (.int .i64 1))),ia 133 2 130 132,ln 134 2 133,mv 135 0,mv 136 12,ia 137 2 135 136,ln 138 2 137,ia 139 2 125 126,se 2 139 134,ia 140 2 127 129,se 2 140 138]))<|.ops [mv 110 12,op 111 (.bin .add (.r 110) (.c (.int .i64 1))),mv 12 111]))) (.skip)))<|.ops [mv 17 10,op 18 (.bin .add (.r 17) (.c (.int .i64 1))),mv 10 18])))<|so [op 8 (.ar (.c (.bool false)))]<|.ret⟩
def U5:An:=⟨[],[(1,[(0,true),(1,true),(2,true),(3,true),(4,true),(5,true),(6,true),(7,true),(8,true),(9,true),(10,true),(11,true),(12,true),(13,false),(14,true),(15,false)]),(3,[(0,true),(1,true),(2,true),(3,true),(4,true),(5,true),(6,true),(7,true),(8,true),(9,true),(10,true),(11,true),(12,true),(13,false),(14,true),(15,true),(16,true)]),(5,[(0,true),(1,true),(2,true),(3,true),(4,true),(5,true),(6,true),(7,true),(8,true),(9,true),(10,true),(11,true),(12,true),(13,false),(14,true),(15,true)]),(8,[(0,true),(1,true),(2,true),(3,true),(4,true),(5,true),(6,true),(7,true),(8,true),(9,true),(10,true),(11,true),(12,true),(13,false),(14,true),(15,false)])]⟩
def G1:Go.Rmp.Fn:=⟨90,5,[.t 10],so [op 10 (.ar (.c (.int .i64 0)))]<|so [mv 13 0,mv 14 1,mv 15 0,mv 16 3,mv 17 0,mv 18 3,ia 19 2 17 18,ln 20 2 19,mv 21 0,mv 22 1,ia 23 2 21 22,ln 24 2 23,ia 25 2 13 14,se 2 25 20,ia 26 2 15 16,se 2 26 24]<|so [mv 27 1,op 28 (.bin .add (.r 27) (.c (.int .i64 1))),mv 29 2,op 30 (.bin .sub (.r 29) (.c (.int .i64 1))),mv 11 28,mv 12 30]<|sq (.block 0 (.loop (.block 1 (sq (.block 2 (.loop (sq (so [mv 31 11,mv 32 12,b2 33 .leq 31 32,mv 34 33,mt 35 4 34,mt 36 0 34,mt 37 1 34,gt 38 34 (.eF 2 (.r 36) (.r 37)),gt 39 34 (.ld 2 true (.r 38)),mt 40 0 34,mt 41 11 34,gt 42 34 (.eF 2 (.r 40) (.r 41)),gt 43 34 (.ld 2 true (.r 42)),⟨(some 44),.bJ (.r 35) [.r 39,.r 43],(some (34,true)),[]⟩,gt 45 34 (.bin .lss (.r 44) (.c (.int .i64 0))),gt 46 34 (.un .not (.r 45)),op 47 (.pick (.r 34) (.r 46) (.c (.bool false)))]<|cx 47 2)<|.block 3 (.ops [mv 48 11,op 49 (.bin .add (.r 48) (.c (.int .i64 1))),mv 11 49]))))<|sq (.block 4 (.loop (sq (so [mv 50 11,mv 51 12,b2 52 .leq 50 51,mv 53 52,mt 54 4 53,mt 55 0 53,mt 56 1 53,gt 57 53 (.eF 2 (.r 55) (.r 56)),gt 58 53 (.ld 2 true (.r 57)),mt 59 0 53,mt 60 12 53,gt 61 53 (.eF 2 (.r 59) (.r 60)),gt 62 53 (.ld 2 true (.r 61)),⟨(some 63),.bJ (.r 54) [.r 58,.r 62],(some (53,true)),[]⟩,gt 64 53 (.bin .lss (.r 63) (.c (.int .i64 0))),op 65 (.pick (.r 53) (.r 64) (.c (.bool false)))]<|cx 65 4)<|.block 5 (.ops [mv 66 12,op 67 (.bin .sub (.r 66) (.c (.int .i64 1))),mv 12 67]))))<|sq (so [mv 68 11,mv 69 12,b2 70 .gtr 68 69]<|.cond (.r 70) (.exit 0) (.skip))<|so [mv 71 0,mv 72 11,mv 73 0,mv 74 12,mv 75 0,mv 76 12,ia 77 2 75 76,ln 78 2 77,mv 79 0,mv 80 11,ia 81 2 79 80,ln 82 2 81,ia 83 2 71 72,se 2 83 78,ia 84 2 73 74,se 2 84 82]<|so [mv 85 11,op 86 (.bin .add (.r 85) (.c (.int .i64 1))),mv 11 86]<|.ops [mv 87 12,op 88 (.bin .sub (.r 87) (.c (.int .i64 1))),mv 12 88]))))<|so [mv 89 11,mv 10 89]<|.ret⟩
def U6:An:=⟨[],[(1,[(0,true),(1,true),(2,true),(3,true),(4,true),(5,true),(6,true),(7,true),(8,true),(9,true),(10,true),(11,true),(12,true),(13,false),(14,true),(15,false)]),(3,[(0,true),(1,true),(2,true),(3,true),(4,true),(5,true),(6,true),(7,true),(8,true),(9,true),(10,true),(11,true),(12,true),(13,false),(14,true),(15,true)]),(5,[(0,true),(1,true),(2,true),(3,true),(4,true),(5,true),(6,true),(7,true),(8,true),(9,true),(10,true),(11,true),(12,true),(13,false),(14,true),(15,true),(16,true)]),(8,[(0,true),(1,true),(2,true),(3,true),(4,true),(5,true),(6,true),(7,true),(8,true),(9,true),(10,true),(11,true),(12,true),(13,false),(14,true),(15,false)]),(10,[(0,true),(1,true),(2,true),(3,true),(4,true),(5,true),(6,true),(7,true),(8,true),(9,true),(10,true),(11,true),(12,true),(13,false),(14,true),(15,false)]),(13,[(0,true),(1,true),(2,true),(3,true),(4,true),(5,true),(6,true),(7,true),(8,true),(9,true),(10,true),(11,true),(12,true),(13,false),(14,true),(15,true)]),(15,[(0,true),(1,true),(2,true),(3,true),(4,true),(5,true),(6,true),(7,true),(8,true),(9,true),(10,true),(11,true),(12,true),(13,false),(14,true),(15,true),(16,true)]),(18,[(0,true),(1,true),(2,true),(3,true),(4,true),(5,true),(6,true),(7,true),(8,true),(9,true),(10,true),(11,true),(12,true),(13,false),(14,true),(15,false)]),(21,[(0,true),(1,true),(2,true),(3,true),(4,true),(5,true),(6,true),(7,true),(8,true),(9,true),(10,true),(11,true),(12,true),(13,false),(14,true),(15,false)])]⟩
def G2:Go.Rmp.Fn:=⟨178,5,[.t 10,.t 11],so [op 10 (.ar (.c (.int .i64 0))),op 11 (.ar (.c (.bool false)))]<|so [mv 14 0,mv 15 1,mv 16 0,mv 17 3,mv 18 0,mv 19 3,ia 20 2 18 19,ln 21 2 20,mv 22 0,mv 23 1,ia 24 2 22 23,ln 25 2 24,ia 26 2 14 15,se 2 26 21,ia 27 2 16 17,se 2 27 25]<|so [mv 28 1,op 29 (.bin .add (.r 28) (.c (.int .i64 1))),mv 30 2,op 31 (.bin .sub (.r 30) (.c (.int .i64 1))),mv 12 29,mv 13 31]<|sq (.block 0 (.loop (sq (so [mv 32 12,mv 33 13,b2 34 .leq 32 33,mv 35 34,mt 36 4 35,mt 37 0 35,mt 38 12 35,gt 39 35 (.eF 2 (.r 37) (.r 38)),gt 40 35 (.ld 2 true (.r 39)),mt 41 0 35,mt 42 1 35,gt 43 35 (.eF 2 (.r 41) (.r 42)),gt 44 35 (.ld 2 true (.r 43)),⟨(some 45),.bJ (.r 36) [.r 40,.r 44],(some (35,true)),[]⟩,gt 46 35 (.bin .lss (.r 45) (.c (.int .i64 0))),op 47 (.pick (.r 35) (.r 46) (.c (.bool false)))]<|cx 47 0)<|.block 1 (.ops [mv 48 12,op 49 (.bin .add (.r 48) (.c (.int .i64 1))),mv 12 49]))))<|sq (.block 2 (.loop (sq (so [mv 50 12,mv 51 13,b2 52 .leq 50 51,mv 53 52,mt 54 4 53,mt 55 0 53,mt 56 13 53,gt 57 53 (.eF 2 (.r 55) (.r 56)),gt 58 53 (.ld 2 true (.r 57)),mt 59 0 53,mt 60 1 53,gt 61 53 (.eF 2 (.r 59) (.r 60)),gt 62 53 (.ld 2 true (.r 61)),⟨(some 63),.bJ (.r 54) [.r 58,.r 62],(some (53,true)),[]⟩,gt 64 53 (.bin .lss (.r 63) (.c (.int .i64 0))),gt 65 53 (.un .not (.r 64)),op 66 (.pick (.r 53) (.r 65) (.c (.bool false)))]<|cx 66 2)<|.block 3 (.ops [mv 67 13,op 68 (.bin .sub (.r 67) (.c (.int .i64 1))),mv 13 68]))))<|sq (so [mv 69 12,mv 70 13,b2 71 .gtr 69 70]<|.cond (.r 71) (so [mv 72 0,mv 73 13,mv 74 0,mv 75 1,mv 76 0,mv 77 1,ia 78 2 76 77,ln 79 2 78,mv 80 0,mv 81 13,ia 82 2 80 81,ln 83 2 82,ia 84 2 72 73,se 2 84 79,ia 85 2 74 75,se 2 85 83]<|so [mv 86 13,mv 10 86,op 11 (.ar (.c (.bool true)))]<|.ret) (.skip))<|so [mv 87 0,mv 88 12,mv 89 0,mv 90 13,mv 91 0,mv 92 13,ia 93 2 91 92,ln 94 2 93,mv 95 0,mv 96 12,ia 97 2 95 96,ln 98 2 97,ia 99 2 87 88,se 2 99 94,ia 100 2 89 90,se 2 100 98]<|so [mv 101 12,op 102 (.bin .add (.r 101) (.c (.int .i64 1))),mv 12 102]<|so [mv 103 13,op 104 (.bin .sub (.r 103) (.c (.int .i64 1))),mv 13 104]<|sq (.block 4 (.loop (.block 5 (sq (.block 6 (.loop (sq (so [mv 105 12,mv 106 13,b2 107 .leq 105 106,mv 108 107,mt 109 4 108,mt 110 0 108,mt 111 12 108,gt 112 108 (.eF 2 (.r 110) (.r 111)),gt 113 108 (.ld 2 true (.r 112)),mt 114 0 108,mt 115 1 108,gt 116 108 (.eF 2 (.r 114) (.r 115)),gt 117 108 (.ld 2 true (.r 116)),⟨(some 118),.bJ (.r 109) [.r 113,.r 117],(some (108,true)),[]⟩,gt 119 108 (.bin .lss (.r 118) (.c (.int .i64 0))),op 120 (.pick (.r 108) (.r 119) (.c (.bool false)))]<|cx 120 6)<|.block 7 (.ops [mv 121 12,op 122 (.bin .add (.r 121) (.c (.int .i64 1))),mv 12 122]))))<|sq (.block 8 (.loop (sq (so [mv 123 12,mv 124 13,b2 125 .leq 123 124,mv 126 125,mt 127 4 126,mt 128 0 126,mt 129 13 126,gt 130 126 (.eF 2 (.r 128) (.r 129)),gt 131 126 (.ld 2 true (.r 130)),mt 132 0 126,mt 133 1 126,gt 134 126 (.eF 2 (.r 132) (.r 133)),gt 135 126 (.ld 2 true (.r 134)),⟨(some 136),.bJ (.r 127) [.r 131,.r 135],(some (126,true)),[]⟩,gt 137 126 (.bin .lss (.r 136) (.c (.int .i64 0))),gt 138 126 (.un .not (.r 137)),op 139 (.pick (.r 126) (.r 138) (.c (.bool false)))]<|cx 139 8)<|.block 9 (.ops [mv 140 13,op 141 (.bin .sub (.r 140) (.c (.int .i64 1))),mv 13 141]))))<|sq (so [mv 142 12,mv 143 13,b2 144 .gtr 142 143]<|.cond (.r 144) (.exit 4) (.skip))<|so [mv 145 0,mv 146 12,mv 147 0,mv 148 13,mv 149 0,mv 150 13,ia 151 2 149 150,ln 152 2 151,mv 153 0,mv 154 12,ia 155 2 153 154,ln 156 2 155,ia 157 2 145 146,se 2 157 152,ia 158 2 147 148,se 2 158 156]<|so [mv 159 12,op 160 (.bin .add (.r 159) (.c (.int .i64 1))),mv 12 160]<|.ops [mv 161 13,op 162 (.bin .sub (.r 161) (.c (.int .i64 1))),mv 13 162]))))<|so [mv 163 0,mv 164 13,mv 165 0,mv 166 1,mv 167 0,mv 168 1,ia 169 2 167 168,ln 170 2 169,mv 171 0,mv 172 13,ia 173 2 171 172,ln 174 2 173,ia 175 2 163 164,se 2 175 170,ia 176 2 165 166,se 2 176 174]<|so [mv 177 13,mv 10 177,op 11 (.ar (.c (.bool false)))]<|.ret⟩
def U7:An:=⟨[],[]⟩
def uY:Go.Rmp.Fn:=⟨25,1,[.t 2],so [op 2 (.ar (.c (.int .i64 0)))]<|sq (so [mv 3 0,op 4 (.bin .geq (.r 3) (.c (.int .u64 4294967296)))]<|.cond (.r 4) (so [mv 5 0,op 6 (.bin .shr (.r 5) (.c (.int .u64 32))),mv 0 6]<|.ops [op 2 (.ar (.c (.int .i64 32)))]) (.skip))<|sq (so [mv 7 0,op 8 (.bin .geq (.r 7) (.c (.int .u64 65536)))]<|.cond (.r 8) (so [mv 9 0,op 10 (.bin .shr (.r 9) (.c (.int .u64 16))),mv 0 10]<|.ops [mv 11 2,op 12 (.bin .add (.r 11) (.c (.int .i64 16))),mv 2 12]) (.skip))<|sq (so [mv 13 0,op 14 (.bin .geq (.r 13) (.c (.int .u64 256)))]<|.cond (.r 14) (so [mv 15 0,op 16 (.bin .shr (.r 15) (.c (.int .u64 8))),mv 0 16]<|.ops [mv 17 2,op 18 (.bin .add (.r 17) (.c (.int .i64 8))),mv 2 18]) (.skip))<|so [mv 19 2,mv 20 0,op 21 (.fG .u8 (.r 20)),op 22 (.Tg (.c (.str ⟨#[0,1,2,2,3,3,3,3,4,4,4,4,4,4,4,4,5,5,5,5,5,5,5,5,5,5,5,5,5,5,5,5,6,6,6,6,6,6,6,6,6,6,6,6,6,6,6,6,6,6,6,6,6,6,6,6,6,6,6,6,6,6,6,6,7,7,7,7,7,7,7,7,7,7,7,7,7,7,7,7,7,7,7,7,7,7,7,7,7,7,7,7,7,7,7,7,7,7,7,7,7,7,7,7,7,7,7,7,7,7,7,7,7,7,7,7,7,7,7,7,7,7,7,7,7,7,7,7,8,8,8,8,8,8,8,8,8,8,8,8,8,8,8,8,8,8,8,8,8,8,8,8,8,8,8,8,8,8,8,8,8,8,8,8,8,8,8,8,8,8,8,8,8,8,8,8,8,8,8,8,8,8,8,8,8,8,8,8,8,8,8,8,8,8,8,8,8,8,8,8,8,8,8,8,8,8,8,8,8,8,8,8,8,8,8,8,8,8,8,8,8,8,8,8,8,8,8,8,8,8,8,8,8,8,8,8,8,8,8,8,8,8,8,8,8,8,8,8,8,8,8,8,8,8,8,8]⟩)) (.r 21)),op 23 (.fG .i64 (.r 22)),b2 24 .add 19 23,mv 2 24]<|.ret⟩
def U8:An:=⟨[],[(4,[(0,true),(1,true),(2,true),(3,true),(4,true),(5,true),(6,true),(7,true),(8,true),(9,true),(10,true),(11,true),(12,true),(13,false),(14,true)]),(6,[(0,true),(1,true),(2,true),(3,true),(4,true),(5,true),(6,true),(7,true),(8,true),(9,true),(10,true),(11,true),(12,true),(13,true),(14,true),(15,false),(16,true),(17,false)])]⟩
def BM:Go.Rmp.Fn:=⟨49,3,[],so [mv 8 1,op 9 (.bin .add (.r 8) (.c (.int .i64 1))),mv 6 9]<|.block 0 (.loop (sq (so [mv 10 6,mv 11 2,b2 12 .lss 10 11]<|cx 12 0)<|sq (.block 1 (so [mv 15 6,mv 7 15]<|.block 2 (.loop (sq (so [mv 16 7,mv 17 1,b2 18 .gtr 16 17,mv 19 18,mt 20 0 19,mt 21 7 19,gt 22 19 (.eF 1 (.r 20) (.r 21)),gt 23 19 (.ld 1 false (.r 22)),mt 24 0 19,mt 25 7 19,gt 26 19 (.bin .sub (.r 25) (.c (.int .i64 1))),gt 27 19 (.eF 1 (.r 24) (.r 26)),gt 28 19 (.ld 1 false (.r 27)),⟨(some 29),.call 148 [.r 23,.r 28],(some (19,true)),[]⟩,op 30 (.pick (.r 19) (.r 29) (.c (.bool false)))]<|cx 30 2)<|sq (.block 3 (.ops [mv 33 0,mv 34 7,mv 35 0,mv 36 7,op 37 (.bin .sub (.r 36) (.c (.int .i64 1))),mv 38 0,mv 39 7,op 40 (.bin .sub (.r 39) (.c (.int .i64 1))),ia 41 1 38 40,l1 42 41,mv 43 0,mv 44 7,ia 45 1 43 44,l1 46 45,ia 47 1 33 34,se 1 47 42,ia 48 1 35 37,se 1 48 46]))<|.ops [mv 31 7,op 32 (.bin .sub (.r 31) (.c (.int .i64 1))),mv 7 32]))))<|.ops [mv 13 6,op 14 (.bin .add (.r 13) (.c (.int .i64 1))),mv 6 14]))⟩
def U9:An:=⟨[],[(10,[(0,true),(1,true),(2,true),(3,true),(4,true),(5,true),(6,true),(7,true),(8,true),(9,true),(10,true),(11,true),(12,true),(13,true),(14,true),(15,true),(16,true),(17,false),(18,true),(19,false)])]⟩
def G3:Go.Rmp.Fn:=⟨56,3,[],so [mv 11 1,mv 6 11]<|so [op 7 (.ar (.c (.int .i64 0)))]<|so [mv 12 2,mv 13 1,b2 14 .sub 12 13,mv 8 14]<|sq (so [mv 15 8,op 16 (.bin .sub (.r 15) (.c (.int .i64 1))),op 17 (.bin .quo (.r 16) (.c (.int .i64 2))),mv 9 17]<|.block 0 (.loop (sq (so [mv 18 9,op 19 (.bin .geq (.r 18) (.c (.int .i64 0)))]<|cx 19 0)<|sq (.block 1 (.ops [mv 22 0,mv 23 9,mv 24 8,mv 25 6,cl 26 158 [.r 22,.r 23,.r 24,.r 25]]))<|.ops [mv 20 9,op 21 (.bin .sub (.r 20) (.c (.int .i64 1))),mv 9 21])))<|so [mv 27 8,op 28 (.bin .sub (.r 27) (.c (.int .i64 1))),mv 10 28]<|.block 2 (.loop (sq (so [mv 29 10,op 30 (.bin .geq (.r 29) (.c (.int .i64 0)))]<|cx 30 2)<|sq (.block 3 (so [mv 33 0,mv 34 6,mv 35 0,mv 36 6,mv 37 10,b2 38 .add 36 37,mv 39 0,mv 40 6,mv 41 10,b2 42 .add 40 41,ia 43 1 39 42,l1 44 43,mv 45 0,mv 46 6,ia 47 1 45 46,l1 48 47,ia 49 1 33 34,se 1 49 44,ia 50 1 35 38,se 1 50 48]<|.ops [mv 51 0,mv 52 7,mv 53 10,mv 54 6,cl 55 158 [.r 51,.r 52,.r 53,.r 54]]))<|.ops [mv 31 10,op 32 (.bin .sub (.r 31) (.c (.int .i64 1))),mv 10 32]))⟩
def Va:An:=⟨[],[(10,[(0,true),(1,true),(2,true),(3,true),(4,true),(5,true),(6,true),(7,true),(8,true),(9,true),(10,true),(11,true),(12,true),(13,true),(14,true),(15,true),(16,true),(17,false),(18,true),(19,false)])]⟩
def G4:Go.Rmp.Fn:=⟨65,3,[],so [mv 11 2,mv 12 1,b2 13 .sub 11 12,mv 6 13]<|so [mv 14 6,op 15 (.bin .geq (.r 14) (.c (.int .i64 8)))]<|.cond (.r 15) (so [mv 16 6,op 17 (.fG .u64 (.r 16)),op 7 (.alloc [.int .u64 0]),se 1 7 17]<|so [mv 18 6,cl 19 154 [.r 18],mv 8 19]<|so [mv 20 1,mv 21 6,op 22 (.bin .quo (.r 21) (.c (.int .i64 4))),op 23 (.bin .mul (.r 22) (.c (.int .i64 2))),b2 24 .add 20 23,op 25 (.bin .sub (.r 24) (.c (.int .i64 1))),mv 9 25]<|.block 0 (.loop (sq (so [mv 26 9,mv 27 1,mv 28 6,op 29 (.bin .quo (.r 28) (.c (.int .i64 4))),op 30 (.bin .mul (.r 29) (.c (.int .i64 2))),b2 31 .add 27 30,op 32 (.bin .add (.r 31) (.c (.int .i64 1))),b2 33 .leq 26 32]<|cx 33 0)<|sq (.block 1 (so [cl 36 155 [.r 7],mv 37 8,op 38 (.bin .sub (.r 37) (.c (.int .u64 1))),b2 39 .and 36 38,op 40 (.fG .i64 (.r 39)),mv 10 40]<|sq (so [mv 41 10,mv 42 6,b2 43 .geq 41 42]<|.cond (.r 43) (.ops [mv 44 10,mv 45 6,b2 46 .sub 44 45,mv 10 46]) (.skip))<|.ops [mv 47 0,mv 48 9,mv 49 0,mv 50 1,mv 51 10,b2 52 .add 50 51,mv 53 0,mv 54 1,mv 55 10,b2 56 .add 54 55,ia 57 1 53 56,l1 58 57,mv 59 0,mv 60 9,ia 61 1 59 60,l1 62 61,ia 63 1 47 48,se 1 63 58,ia 64 1 49 52,se 1 64 62]))<|.ops [mv 34 9,op 35 (.bin .add (.r 34) (.c (.int .i64 1))),mv 9 35]))) (.skip)⟩
def Vb:An:=⟨[],[]⟩
def BN:Go.Rmp.Fn:=⟨57,3,[.t 6,.t 7],so [op 6 (.ar (.c (.int .i64 0))),op 7 (.ar (.c (.int .i64 0)))]<|so [mv 13 2,mv 14 1,b2 15 .sub 13 14,mv 8 15]<|so [op 9 (.alloc [.int .i64 0])]<|so [mv 16 1,mv 17 8,op 18 (.bin .quo (.r 17) (.c (.int .i64 4))),op 19 (.bin .mul (.r 18) (.c (.int .i64 1))),b2 20 .add 16 19,mv 10 20]<|so [mv 21 1,mv 22 8,op 23 (.bin .quo (.r 22) (.c (.int .i64 4))),op 24 (.bin .mul (.r 23) (.c (.int .i64 2))),b2 25 .add 21 24,mv 11 25]<|so [mv 26 1,mv 27 8,op 28 (.bin .quo (.r 27) (.c (.int .i64 4))),op 29 (.bin .mul (.r 28) (.c (.int .i64 3))),b2 30 .add 26 29,mv 12 30]<|sq (so [mv 31 8,op 32 (.bin .geq (.r 31) (.c (.int .i64 8)))]<|.cond (.r 32) (sq (so [mv 33 8,op 34 (.bin .geq (.r 33) (.c (.int .i64 50)))]<|.cond (.r 34) (so [mv 35 0,mv 36 10,cl 37 159 [.r 35,.r 36,.r 9],mv 10 37]<|so [mv 38 0,mv 39 11,cl 40 159 [.r 38,.r 39,.r 9],mv 11 40]<|.ops [mv 41 0,mv 42 12,cl 43 159 [.r 41,.r 42,.r 9],mv 12 43]) (.skip))<|.ops [mv 44 0,mv 45 10,mv 46 11,mv 47 12,cl 48 160 [.r 44,.r 45,.r 46,.r 47,.r 9],mv 11 48]) (.skip))<|so [l1 49 9]<|.block 0 (so [op 52 (.bin .eql (.r 49) (.c (.int .i64 0))),mv 51 52]<|.cond (.r 51) (so [mv 53 11,mv 6 53,op 7 (.ar (.c (.int .i64 1)))]<|.ret) (so [op 55 (.bin .eql (.r 49) (.c (.int .i64 12))),mv 54 55]<|.cond (.r 54) (so [mv 56 11,mv 6 56,op 7 (.ar (.c (.int .i64 2)))]<|.ret) (so [mv 50 11,mv 6 50,op 7 (.ar (.c (.int .i64 0)))]<|.ret)))⟩
def Vc:An:=⟨[],[(3,[(0,true),(1,true),(2,true),(3,true),(4,true),(5,true),(6,true),(7,true),(8,true),(9,true),(10,true),(11,true),(12,true),(13,false),(14,true),(15,false)])]⟩
def G5:Go.Rmp.Fn:=⟨32,3,[],so [mv 8 1,mv 6 8]<|so [mv 9 2,op 10 (.bin .sub (.r 9) (.c (.int .i64 1))),mv 7 10]<|.block 0 (.loop (sq (so [mv 11 6,mv 12 7,b2 13 .lss 11 12]<|cx 13 0)<|.block 1 (so [mv 14 0,mv 15 6,mv 16 0,mv 17 7,mv 18 0,mv 19 7,ia 20 1 18 19,l1 21 20,mv 22 0,mv 23 6,ia 24 1 22 23,l1 25 24,ia 26 1 14 15,se 1 26 21,ia 27 1 16 17,se 1 27 25]<|so [mv 28 6,op 29 (.bin .add (.r 28) (.c (.int .i64 1))),mv 6 29]<|.ops [mv 30 7,op 31 (.bin .sub (.r 30) (.c (.int .i64 1))),mv 7 31])))⟩
def Ve:An:=⟨[],[(5,[(0,true),(1,true),(2,true),(3,true),(4,true),(5,true),(6,true),(7,true),(8,true),(9,true),(10,true),(11,true),(12,true),(13,false),(14,true),(15,true)]),(11,[(0,true),(1,true),(2,true),(3,true),(4,true),(5,true),(6,true),(7,true),(8,true),(9,true),(10,true),(11,true),(12,true),(13,true),(14,true),(15,false),(16,true),(17,false)]),(16,[(0,true),(1,true),(2,true),(3,true),(4,true),(5,true),(6,true),(7,true),(8,true),(9,false),(10,true)]),(17,[(0,true),(1,true),(2,true),(3,true),(4,true),(5,true),(6,true),(7,true),(8,true),(9,true),(10,true),(11,true),(12,true),(13,true),(14,true),(15,false),(16,true),(17,false)]),(22,[(0,true),(1,true),(2,true),(3,true),(4,true),(5,true),(6,true),(7,true),(8,true),(9,false),(10,true)]),(23,[(0,true),(1,true),(2,true),(3,true),(4,true),(5,true),(6,true),(7,true),(8,true),(9,true),(10,true),(11,true),(12,true),(13,true),(14,true),(15,false),(16,true),(17,false)])]⟩
def G6:Go.Rmp.Fn:=⟨133,3,[.t 6],so [op 6 (.ar (.c (.bool false)))]<|so [mv 11 1,op 12 (.bin .add (.r 11) (.c (.int .i64 1))),mv 7 12]<|sq (so [op 8 (.ar (.c (.int .i64 0)))]<|.block 0 (.loop (sq (so [mv 13 8,op 14 (.bin .lss (.r 13) (.c (.int .i64 5)))]<|cx 14 0)<|sq (.block 1 (sq (.block 2 (.loop (sq (so [mv 17 7,mv 18 2,b2 19 .lss 17 18,mv 20 19,mt 21 0 20,mt 22 7 20,gt 23 20 (.eF 1 (.r 21) (.r 22)),gt 24 20 (.ld 1 false (.r 23)),mt 25 0 20,mt 26 7 20,gt 27 20 (.bin .sub (.r 26) (.c (.int .i64 1))),gt 28 20 (.eF 1 (.r 25) (.r 27)),gt 29 20 (.ld 1 false (.r 28)),⟨(some 30),.call 148 [.r 24,.r 29],(some (20,true)),[]⟩,gt 31 20 (.un .not (.r 30)),op 32 (.pick (.r 20) (.r 31) (.c (.bool false)))]<|cx 32 2)<|.block 3 (.ops [mv 33 7,op 34 (.bin .add (.r 33) (.c (.int .i64 1))),mv 7 34]))))<|sq (so [mv 35 7,mv 36 2,b2 37 .eql 35 36]<|.cond (.r 37) (so [op 6 (.ar (.c (.bool true)))]<|.ret) (.skip))<|sq (so [mv 38 2,mv 39 1,b2 40 .sub 38 39,op 41 (.bin .lss (.r 40) (.c (.int .i64 50)))]<|.cond (.r 41) (so [op 6 (.ar (.c (.bool false)))]<|.ret) (.skip))<|so [mv 42 0,mv 43 7,mv 44 0,mv 45 7,op 46 (.bin .sub (.r 45) (.c (.int .i64 1))),mv 47 0,mv 48 7,op 49 (.bin .sub (.r 48) (.c (.int .i64 1))),ia 50 1 47 49,l1 51 50,mv 52 0,mv 53 7,ia 54 1 52 53,l1 55 54,ia 56 1 42 43,se 1 56 51,ia 57 1 44 46,se 1 57 55]<|sq (so [mv 58 7,mv 59 1,b2 60 .sub 58 59,op 61 (.bin .geq (.r 60) (.c (.int .i64 2)))]<|.cond (.r 61) (so [mv 62 7,op 63 (.bin .sub (.r 62) (.c (.int .i64 1))),mv 9 63]<|.block 4 (.loop (sq (so [mv 64 9,op 65 (.bin .geq (.r 64) (.c (.int .i64 1)))]<|cx 65 4)<|sq (.block 5 (sq (so [mv 68 0,mv 69 9,ia 70 1 68 69,l1 71 70,mv 72 0,mv 73 9,op 74 (.bin .sub (.r 73) (.c (.int .i64 1))),ia 75 1 72 74,l1 76 75,cl 77 148 [.r 71,.r 76],op 78 (.un .not (.r 77))]<|.cond (.r 78) (.exit 4) (.skip))<|.ops [mv 79 0,mv 80 9,mv 81 0,mv 82 9,op 83 (.bin .sub (.r 82) (.c (.int .i64 1))),mv 84 0,mv 85 9,op 86 (.bin .sub (.r 85) (.c (.int .i64 1))),ia 87 1 84 86,l1 88 87,mv 89 0,mv 90 9,ia 91 1 89 90,l1 92 91,ia 93 1 79 80,se 1 93 88,ia 94 1 81 83,se 1 94 92]))<|.ops [mv 66 9,op 67 (.bin .sub (.r 66) (.c (.int .i64 1))),mv 9 67]))) (.skip))<|so [mv 95 2,mv 96 7,b2 97 .sub 95 96,op 98 (.bin .geq (.r 97) (.c (.int .i64 2)))]<|.cond (.r 98) (so [mv 99 7,op 100 (.bin .add (.r 99) (.c (.int .i64 1))),mv 10 100]<|.block 6 (.loop (sq (so [mv 101 10,mv 102 2,b2 103 .lss 101 102]<|cx 103 6)<|sq (.block 7 (sq (so [mv 106 0,mv 107 10,ia 108 1 106 107,l1 109 108,mv 110 0,mv 111 10,op 112 (.bin .sub (.r 111) (.c (.int .i64 1))),ia 113 1 110 112,l1 114 113,cl 115 148 [.r 109,.r 114],op 116 (.un .not (.r 115))]<|.cond (.r 116) (.exit 6) (.skip))<|.ops [mv 117 0,mv 118 10,mv 119 0,mv 120 10,op 121 (.bin .sub (.r 120) (.c (.int .i64 1))),mv 122 0,mv 123 10,op 124 (.bin .sub (.r 123) (.c (.int .i64 1))),ia 125 1 122 124,l1 126 125,mv 127 0,mv 128 10,ia 129 1 127 128,l1 130 129,ia 131 1 117 118,se 1 131 126,ia 132 1 119 121,se 1 132 130]))<|.ops [mv 104 10,op 105 (.bin .add (.r 104) (.c (.int .i64 1))),mv 10 105]))) (.skip)))<|.ops [mv 15 8,op 16 (.bin .add (.r 15) (.c (.int .i64 1))),mv 8 16])))<|so [op 6 (.ar (.c (.bool false)))]<|.ret⟩
def Vf:An:=⟨[],[]⟩
def G7:Go.Rmp.Fn:=⟨17,2,[.t 4],so [op 4 (.ar (.c (.bool false)))]<|so [mv 5 0,cl 6 119 [.r 5],mv 7 6,mt 8 1 7,⟨(some 9),.call 119 [.r 8],(some (7,true)),[]⟩,gt 10 7 (.un .not (.r 9)),op 11 (.pick (.r 7) (.r 10) (.c (.bool false))),mv 12 11,mf 13 0 12,mf 14 1 12,gf 15 12 (.bin .lss (.r 13) (.r 14)),op 16 (.pick (.r 12) (.c (.bool true)) (.r 15)),mv 4 16]<|.ret⟩
def Vg:An:=⟨[],[(1,[(0,true),(1,true),(2,true),(3,true),(4,true),(5,true),(6,true),(7,true),(8,true),(9,true),(10,true),(11,true),(12,true),(13,false),(14,true),(15,false)]),(3,[(0,true),(1,true),(2,true),(3,true),(4,true),(5,true),(6,true),(7,true),(8,true),(9,true),(10,true),(11,true),(12,false),(13,true),(14,true)]),(5,[(0,true),(1,true),(2,true),(3,true),(4,true),(5,true),(6,true),(7,true),(8,true),(9,true),(10,true),(11,true),(12,false),(13,true)]),(8,[(0,true),(1,true),(2,true),(3,true),(4,true),(5,true),(6,true),(7,true),(8,true),(9,true),(10,true),(11,true),(12,true),(13,false),(14,true),(15,false)])]⟩
def G8:Go.Rmp.Fn:=⟨84,4,[.t 8],so [op 8 (.ar (.c (.int .i64 0)))]<|so [mv 11 0,mv 12 1,mv 13 0,mv 14 3,mv 15 0,mv 16 3,ia 17 1 15 16,l1 18 17,mv 19 0,mv 20 1,ia 21 1 19 20,l1 22 21,ia 23 1 11 12,se 1 23 18,ia 24 1 13 14,se 1 24 22]<|so [mv 25 1,op 26 (.bin .add (.r 25) (.c (.int .i64 1))),mv 27 2,op 28 (.bin .sub (.r 27) (.c (.int .i64 1))),mv 9 26,mv 10 28]<|sq (.block 0 (.loop (.block 1 (sq (.block 2 (.loop (sq (so [mv 29 9,mv 30 10,b2 31 .leq 29 30,mv 32 31,mt 33 0 32,mt 34 1 32,gt 35 32 (.eF 1 (.r 33) (.r 34)),gt 36 32 (.ld 1 false (.r 35)),mt 37 0 32,mt 38 9 32,gt 39 32 (.eF 1 (.r 37) (.r 38)),gt 40 32 (.ld 1 false (.r 39)),⟨(some 41),.call 148 [.r 36,.r 40],(some (32,true)),[]⟩,gt 42 32 (.un .not (.r 41)),op 43 (.pick (.r 32) (.r 42) (.c (.bool false)))]<|cx 43 2)<|.block 3 (.ops [mv 44 9,op 45 (.bin .add (.r 44) (.c (.int .i64 1))),mv 9 45]))))<|sq (.block 4 (.loop (sq (so [mv 46 9,mv 47 10,b2 48 .leq 46 47,mv 49 48,mt 50 0 49,mt 51 1 49,gt 52 49 (.eF 1 (.r 50) (.r 51)),gt 53 49 (.ld 1 false (.r 52)),mt 54 0 49,mt 55 10 49,gt 56 49 (.eF 1 (.r 54) (.r 55)),gt 57 49 (.ld 1 false (.r 56)),⟨(some 58),.call 148 [.r 53,.r 57],(some (49,true)),[]⟩,op 59 (.pick (.r 49) (.r 58) (.c (.bool false)))]<|cx 59 4)<|.block 5 (.ops [mv 60 10,op 61 (.bin .sub (.r 60) (.c (.int .i64 1))),mv 10 61]))))<|sq (so [mv 62 9,mv 63 10,b2 64 .gtr 62 63]<|.cond (.r 64) (.exit 0) (.skip))<|so [mv 65 0,mv 66 9,mv 67 0,mv 68 10,mv 69 0,mv 70 10,ia 71 1 69 70,l1 72 71,mv 73 0,mv 74 9,ia 75 1 73 74,l1 76 75,ia 77 1 65 66,se 1 77 72,ia 78 1 67 68,se 1 78 76]<|so [mv 79 9,op 80 (.bin .add (.r 79) (.c (.int .i64 1))),mv 9 80]<|.ops [mv 81 10,op 82 (.bin .sub (.r 81) (.c (.int .i64 1))),mv 10 82]))))<|so [mv 83 9,mv 8 83]<|.ret⟩
def Vh:An:=⟨[],[(1,[(0,true),(1,true),(2,true),(3,true),(4,true),(5,true),(6,true),(7,true),(8,true),(9,true),(10,true),(11,true),(12,true),(13,false),(14,true),(15,false)]),(3,[(0,true),(1,true),(2,true),(3,true),(4,true),(5,true),(6,true),(7,true),(8,true),(9,true),(10,true),(11,true),(12,false),(13,true)]),(5,[(0,true),(1,true),(2,true),(3,true),(4,true),(5,true),(6,true),(7,true),(8,true),(9,true),(10,true),(11,true),(12,false),(13,true),(14,true)]),(8,[(0,true),(1,true),(2,true),(3,true),(4,true),(5,true),(6,true),(7,true),(8,true),(9,true),(10,true),(11,true),(12,true),(13,false),(14,true),(15,false)]),(10,[(0,true),(1,true),(2,true),(3,true),(4,true),(5,true),(6,true),(7,true),(8,true),(9,true),(10,true),(11,true),(12,true),(13,false),(14,true),(15,false)]),(13,[(0,true),(1,true),(2,true),(3,true),(4,true),(5,true),(6,true),(7,true),(8,true),(9,true),(10,true),(11,true),(12,false),(13,true)]),(15,[(0,true),(1,true),(2,true),(3,true),(4,true),(5,true),(6,true),(7,true),(8,true),(9,true),(10,true),(11,true),(12,false),(13,true),(14,true)]),(18,[(0,true),(1,true),(2,true),(3,true),(4,true),(5,true),(6,true),(7,true),(8,true),(9,true),(10,true),(11,true),(12,true),(13,false),(14,true),(15,false)]),(21,[(0,true),(1,true),(2,true),(3,true),(4,true),(5,true),(6,true),(7,true),(8,true),(9,true),(10,true),(11,true),(12,true),(13,false),(14,true),(15,false)])]⟩
def G9:Go.Rmp.Fn:=⟨168,4,[.t 8,.t 9],so [op 8 (.ar (.c (.int .i64 0))),op 9 (.ar (.c (.bool false)))]<|so [mv 12 0,mv 13 1,mv 14 0,mv 15 3,mv 16 0,mv 17 3,ia 18 1 16 17,l1 19 18,mv 20 0,mv 21 1,ia 22 1 20 21,l1 23 22,ia 24 1 12 13,se 1 24 19,ia 25 1 14 15,se 1 25 23]<|so [mv 26 1,op 27 (.bin .add (.r 26) (.c (.int .i64 1))),mv 28 2,op 29 (.bin .sub (.r 28) (.c (.int .i64 1))),mv 10 27,mv 11 29]<|sq (.block 0 (.loop (sq (so [mv 30 10,mv 31 11,b2 32 .leq 30 31,mv 33 32,mt 34 0 33,mt 35 10 33,gt 36 33 (.eF 1 (.r 34) (.r 35)),gt 37 33 (.ld 1 false (.r 36)),mt 38 0 33,mt 39 1 33,gt 40 33 (.eF 1 (.r 38) (.r 39)),gt 41 33 (.ld 1 false (.r 40)),⟨(some 42),.call 148 [.r 37,.r 41],(some (33,true)),[]⟩,op 43 (.pick (.r 33) (.r 42) (.c (.bool false)))]<|cx 43 0)<|.block 1 (.ops [mv 44 10,op 45 (.bin .add (.r 44) (.c (.int .i64 1))),mv 10 45]))))<|sq (.block 2 (.loop (sq (so [mv 46 10,mv 47 11,b2 48 .leq 46 47,mv 49 48,mt 50 0 49,mt 51 11 49,gt 52 49 (.eF 1 (.r 50) (.r 51)),gt 53 49 (.ld 1 false (.r 52)),mt 54 0 49,mt 55 1 49,gt 56 49 (.eF 1 (.r 54) (.r 55)),gt 57 49 (.ld 1 false (.r 56)),⟨(some 58),.call 148 [.r 53,.r 57],(some (49,true)),[]⟩,gt 59 49 (.un .not (.r 58)),op 60 (.pick (.r 49) (.r 59) (.c (.bool false)))]<|cx 60 2)<|.block 3 (.ops [mv 61 11,op 62 (.bin .sub (.r 61) (.c (.int .i64 1))),mv 11 62]))))<|sq (so [mv 63 10,mv 64 11,b2 65 .gtr 63 64]<|.cond (.r 65) (so [mv 66 0,mv 67 11,mv 68 0,mv 69 1,mv 70 0,mv 71 1,ia 72 1 70 71,l1 73 72,mv 74 0,mv 75 11,ia 76 1 74 75,l1 77 76,ia 78 1 66 67,se 1 78 73,ia 79 1 68 69,se 1 79 77]<|so [mv 80 11,mv 8 80,op 9 (.ar (.c (.bool true)))]<|.ret) (.skip))<|so [mv 81 0,mv 82 10,mv 83 0,mv 84 11,mv 85 0,mv 86 11,ia 87 1 85 86,l1 88 87,mv 89 0,mv 90 10,ia 91 1 89 90,l1 92 91,ia 93 1 81 82,se 1 93 88,ia 94 1 83 84,se 1 94 92]<|so [mv 95 10,op 96 (.bin .add (.r 95) (.c (.int .i64 1))),mv 10 96]<|so [mv 97 11,op 98 (.bin .sub (.r 97) (.c (.int .i64 1))),mv 11 98]<|sq (.block 4 (.loop (.block 5 (sq (.block 6 (.loop (sq (so [mv 99 10,mv 100 11,b2 101 .leq 99 100,mv 102 101,mt 103 0 102,mt 104 10 102,gt 105 102 (.eF 1 (.r 103) (.r 104)),gt 106 102 (.ld 1 false (.r 105)),mt 107 0 102,mt 108 1 102,gt 109 102 (.eF 1 (.r 107) (.r 108)),gt 110 102 (.ld 1 false (.r 109)),⟨(some 111),.call 148 [.r 106,.r 110],(some (102,true)),[]⟩,op 112 (.pick (.r 102) (.r 111) (.c (.bool false)))]<|cx 112 6)<|.block 7 (.ops [mv 113 10,op 114 (.bin .add (.r 113) (.c (.int .i64 1))),mv 10 114]))))<|sq (.block 8 (.loop (sq (so [mv 115 10,mv 116 11,b2 117 .leq 115 116,mv 118 117,mt 119 0 118,mt 120 11 118,gt 121 118 (.eF 1 (.r 119) (.r 120)),gt 122 118 (.ld 1 false (.r 121)),mt 123 0 118,mt 124 1 118,gt 125 118 (.eF 1 (.r 123) (.r 124)),gt 126 118 (.ld 1 false (.r 125)),⟨(some 127),.call 148 [.r 122,.r 126],(some (118,true)),[]⟩,gt 128 118 (.un .not (.r 127)),op 129 (.pick (.r 118) (.r 128) (.c (.bool false)))]<|cx 129 8)<|.block 9 (.ops [mv 130 11,op 131 (.bin .sub (.r 130) (.c (.int .i64 1))),mv 11 131]))))<|sq (so [mv 132 10,mv 133 11,b2 134 .gtr 132 133]<|.cond (.r 134) (.exit 4) (.skip))<|so [mv 135 0,mv 136 10,mv 137 0,mv 138 11,mv 139 0,mv 140 11,ia 141 1 139 140,l1 142 141,mv 143 0,mv 144 10,ia 145 1 143 144,l1 146 145,ia 147 1 135 136,se 1 147 142,ia 148 1 137 138,se 1 148 146]<|so [mv 149 10,op 150 (.bin .add (.r 149) (.c (.int .i64 1))),mv 10 150]<|.ops [mv 151 11,op 152 (.bin .sub (.r 151) (.c (.int .i64 1))),mv 11 152]))))<|so [mv 153 0,mv 154 11,mv 155 0,mv 156 1,mv 157 0,mv 158 1,ia 159 1 157 158,l1 160 159,mv 161 0,mv 162 11,ia 163 1 161 162,l1 164 163,ia 165 1 153 154,se 1 165 160,ia 166 1 155 156,se 1 166 164]<|so [mv 167 11,mv 8 167,op 9 (.ar (.c (.bool false)))]<|.ret⟩
def Vi:An:=⟨[],[]⟩
def Ha:Go.Rmp.Fn:=⟨6,1,[.t 2],so [op 2 (.ar (.c (.bool false)))]<|so [mv 3 0,mv 4 0,b2 5 .neq 3 4,mv 2 5]<|.ret⟩
def Vj:An:=⟨[],[(3,[(0,true),(1,true),(2,true),(3,true),(4,true),(5,true),(6,true),(7,true),(8,true),(9,true),(10,true),(11,true),(12,true),(13,true),(14,true),(15,true),(16,true),(17,true),(18,true),(19,false),(20,true),(21,true)]),(5,[(0,true),(1,true),(2,true),(3,true),(4,true),(5,true),(6,true),(7,true),(8,true),(9,true),(10,true),(11,true),(12,true),(13,false),(14,true),(15,true)]),(6,[(0,true),(1,true),(2,true),(3,true),(4,true),(5,true),(6,true),(7,true),(8,true),(9,true),(10,true),(11,true),(12,true),(13,true),(14,true),(15,true),(16,true),(17,true),(18,true),(19,true),(20,true),(21,false),(22,true),(23,false)])]⟩
def Hb:Go.Rmp.Fn:=⟨82,5,[],so [mv 12 1,mv 10 12]<|.block 0 (.loop (.block 1 (so [mv 13 10,op 14 (.bin .mul (.c (.int .i64 2)) (.r 13)),op 15 (.bin .add (.r 14) (.c (.int .i64 1))),mv 11 15]<|sq (so [mv 16 11,mv 17 2,b2 18 .geq 16 17]<|.cond (.r 18) (.exit 0) (.skip))<|sq (so [mv 19 11,op 20 (.bin .add (.r 19) (.c (.int .i64 1))),mv 21 2,b2 22 .lss 20 21,mv 23 22,mt 24 4 23,mt 25 0 23,mt 26 3 23,mt 27 11 23,gt 28 23 (.bin .add (.r 26) (.r 27)),gt 29 23 (.eF 2 (.r 25) (.r 28)),gt 30 23 (.ld 2 true (.r 29)),mt 31 0 23,mt 32 3 23,mt 33 11 23,gt 34 23 (.bin .add (.r 32) (.r 33)),gt 35 23 (.bin .add (.r 34) (.c (.int .i64 1))),gt 36 23 (.eF 2 (.r 31) (.r 35)),gt 37 23 (.ld 2 true (.r 36)),⟨(some 38),.bJ (.r 24) [.r 30,.r 37],(some (23,true)),[]⟩,gt 39 23 (.bin .lss (.r 38) (.c (.int .i64 0))),op 40 (.pick (.r 23) (.r 39) (.c (.bool false)))]<|.cond (.r 40) (.ops [mv 41 11,op 42 (.bin .add (.r 41) (.c (.int .i64 1))),mv 11 42]) (.skip))<|sq (so [mv 43 4,mv 44 0,mv 45 3,mv 46 10,b2 47 .add 45 46,ia 48 2 44 47,ln 49 2 48,mv 50 0,mv 51 3,mv 52 11,b2 53 .add 51 52,ia 54 2 50 53,ln 55 2 54,⟨(some 56),.bJ (.r 43) [.r 49,.r 55],none,[]⟩,op 57 (.bin .lss (.r 56) (.c (.int .i64 0))),op 58 (.un .not (.r 57))]<|.cond (.r 58) (.ret) (.skip))<|so [mv 59 0,mv 60 3,mv 61 10,b2 62 .add 60 61,mv 63 0,mv 64 3,mv 65 11,b2 66 .add 64 65,mv 67 0,mv 68 3,mv 69 11,b2 70 .add 68 69,ia 71 2 67 70,ln 72 2 71,mv 73 0,mv 74 3,mv 75 10,b2 76 .add 74 75,ia 77 2 73 76,ln 78 2 77,ia 79 2 59 62,se 2 79 72,ia 80 2 63 66,se 2 80 78]<|.ops [mv 81 11,mv 10 81])))⟩
def Vk:An:=⟨[],[]⟩
def Hc:Go.Rmp.Fn:=⟨7,1,[.t 2],so [op 2 (.ar (.c (.int .u64 0)))]<|so [mv 3 0,op 4 (.fG .u64 (.r 3)),cl 5 118 [.r 4],op 6 (.bin .shl (.c (.int .u64 1)) (.r 5)),mv 2 6]<|.ret⟩
def Vl:An:=⟨[],[(1,[(0,true),(1,true),(2,true),(3,true),(4,true),(5,true),(6,true),(7,true),(8,true),(9,false)]),(2,[(0,true),(1,true),(2,true),(3,true),(4,true),(5,true),(6,true),(7,true),(8,true),(9,false)]),(3,[(0,true),(1,true),(2,true),(3,true),(4,true),(5,true),(6,true),(7,true),(8,true),(9,false)])]⟩
def He:Go.Rmp.Fn:=⟨33,1,[.t 2],so [op 2 (.ar (.c (.int .u64 0)))]<|so [mv 3 0,nc 4 3,l1 5 4,mv 6 0,nc 7 6,l1 8 7,op 9 (.bin .shl (.r 8) (.c (.int .u64 13))),b2 10 .xor 5 9,nc 11 3,se 1 11 10]<|so [mv 12 0,nc 13 12,l1 14 13,mv 15 0,nc 16 15,l1 17 16,op 18 (.bin .shr (.r 17) (.c (.int .u64 7))),b2 19 .xor 14 18,nc 20 12,se 1 20 19]<|so [mv 21 0,nc 22 21,l1 23 22,mv 24 0,nc 25 24,l1 26 25,op 27 (.bin .shl (.r 26) (.c (.int .u64 17))),b2 28 .xor 23 27,nc 29 21,se 1 29 28]<|so [mv 30 0,nc 31 30,l1 32 31,mv 2 32]<|.ret⟩
def Vm:An:=⟨[],[]⟩
def Hf:Go.Rmp.Fn:=⟨18,4,[.t 8],so [op 8 (.ar (.c (.int .i64 0)))]<|so [mv 9 0,mv 10 1,op 11 (.bin .sub (.r 10) (.c (.int .i64 1))),mv 12 1,mv 13 1,op 14 (.bin .add (.r 13) (.c (.int .i64 1))),mv 15 2,mv 16 3,cl 17 157 [.r 9,.r 11,.r 12,.r 14,.r 15,.r 16],mv 8 17]<|.ret⟩
def Vn:An:=⟨[],[]⟩
def Hg:Go.Rmp.Fn:=⟨41,6,[.t 12],so [op 12 (.ar (.c (.int .i64 0)))]<|so [mv 14 0,mv 15 1,mv 16 2,mv 17 4,mv 18 5,cl 19 162 [.r 14,.r 15,.r 16,.r 17,.r 18],mv 13 19,xt 20 0 13,xt 21 1 13,mv 1 20,mv 2 21]<|so [mv 23 0,mv 24 2,mv 25 3,mv 26 4,mv 27 5,cl 28 162 [.r 23,.r 24,.r 25,.r 26,.r 27],mv 22 28,xt 29 0 22,xt 30 1 22,mv 2 29,mv 3 30]<|so [mv 32 0,mv 33 1,mv 34 2,mv 35 4,mv 36 5,cl 37 162 [.r 32,.r 33,.r 34,.r 35,.r 36],mv 31 37,xt 38 0 31,xt 39 1 31,mv 1 38,mv 2 39]<|so [mv 40 2,mv 12 40]<|.ret⟩
def Vo:An:=⟨[],[(3,[(0,true),(1,true),(2,true),(3,true),(4,true),(5,true),(6,true),(7,true),(8,true),(9,true),(10,true),(11,true),(12,true),(13,true),(14,true),(15,true),(16,true),(17,true),(18,false),(19,true)]),(5,[(0,true),(1,true),(2,true),(3,true),(4,true),(5,true),(6,true),(7,true),(8,true),(9,true),(10,true),(11,true),(12,false),(13,true)]),(6,[(0,true),(1,true),(2,true),(3,true),(4,true),(5,true),(6,true),(7,true),(8,true),(9,true),(10,true),(11,true),(12,true),(13,true),(14,true),(15,true),(16,true),(17,true),(18,true),(19,true),(20,true),(21,false),(22,true),(23,false)])]⟩
def Hi:Go.Rmp.Fn:=⟨76,4,[],so [mv 10 1,mv 8 10]<|.block 0 (.loop (.block 1 (so [mv 11 8,op 12 (.bin .mul (.c (.int .i64 2)) (.r 11)),op 13 (.bin .add (.r 12) (.c (.int .i64 1))),mv 9 13]<|sq (so [mv 14 9,mv 15 2,b2 16 .geq 14 15]<|.cond (.r 16) (.exit 0) (.skip))<|sq (so [mv 17 9,op 18 (.bin .add (.r 17) (.c (.int .i64 1))),mv 19 2,b2 20 .lss 18 19,mv 21 20,mt 22 0 21,mt 23 3 21,mt 24 9 21,gt 25 21 (.bin .add (.r 23) (.r 24)),gt 26 21 (.eF 1 (.r 22) (.r 25)),gt 27 21 (.ld 1 false (.r 26)),mt 28 0 21,mt 29 3 21,mt 30 9 21,gt 31 21 (.bin .add (.r 29) (.r 30)),gt 32 21 (.bin .add (.r 31) (.c (.int .i64 1))),gt 33 21 (.eF 1 (.r 28) (.r 32)),gt 34 21 (.ld 1 false (.r 33)),⟨(some 35),.call 148 [.r 27,.r 34],(some (21,true)),[]⟩,op 36 (.pick (.r 21) (.r 35) (.c (.bool false)))]<|.cond (.r 36) (.ops [mv 37 9,op 38 (.bin .add (.r 37) (.c (.int .i64 1))),mv 9 38]) (.skip))<|sq (so [mv 39 0,mv 40 3,mv 41 8,b2 42 .add 40 41,ia 43 1 39 42,l1 44 43,mv 45 0,mv 46 3,mv 47 9,b2 48 .add 46 47,ia 49 1 45 48,l1 50 49,cl 51 148 [.r 44,.r 50],op 52 (.un .not (.r 51))]<|.cond (.r 52) (.ret) (.skip))<|so [mv 53 0,mv 54 3,mv 55 8,b2 56 .add 54 55,mv 57 0,mv 58 3,mv 59 9,b2 60 .add 58 59,mv 61 0,mv 62 3,mv 63 9,b2 64 .add 62 63,ia 65 1 61 64,l1 66 65,mv 67 0,mv 68 3,mv 69 8,b2 70 .add 68 69,ia 71 1 67 70,l1 72 71,ia 73 1 53 56,se 1 73 66,ia 74 1 57 60,se 1 74 72]<|.ops [mv 75 9,mv 8 75])))⟩
def Vp:An:=⟨[],[]⟩
def Hj:Go.Rmp.Fn:=⟨15,3,[.t 6],so [op 6 (.ar (.c (.int .i64 0)))]<|so [mv 7 0,mv 8 1,op 9 (.bin .sub (.r 8) (.c (.int .i64 1))),mv 10 1,mv 11 1,op 12 (.bin .add (.r 11) (.c (.int .i64 1))),mv 13 2,cl 14 160 [.r 7,.r 9,.r 10,.r 12,.r 13],mv 6 14]<|.ret⟩
def Vq:An:=⟨[],[]⟩
def Hk:Go.Rmp.Fn:=⟨36,5,[.t 10],so [op 10 (.ar (.c (.int .i64 0)))]<|so [mv 12 0,mv 13 1,mv 14 2,mv 15 4,cl 16 163 [.r 12,.r 13,.r 14,.r 15],mv 11 16,xt 17 0 11,xt 18 1 11,mv 1 17,mv 2 18]<|so [mv 20 0,mv 21 2,mv 22 3,mv 23 4,cl 24 163 [.r 20,.r 21,.r 22,.r 23],mv 19 24,xt 25 0 19,xt 26 1 19,mv 2 25,mv 3 26]<|so [mv 28 0,mv 29 1,mv 30 2,mv 31 4,cl 32 163 [.r 28,.r 29,.r 30,.r 31],mv 27 32,xt 33 0 27,xt 34 1 27,mv 1 33,mv 2 34]<|so [mv 35 2,mv 10 35]<|.ret⟩
def Vr:An:=⟨[],[(1,[(0,true),(1,true),(2,true),(3,true),(4,true),(5,true),(6,true),(7,true),(8,true),(9,false),(10,true)])]⟩
def Hl:Go.Rmp.Fn:=⟨32,5,[.t 10,.t 11],so [op 10 (.ar (.c (.int .i64 0))),op 11 (.ar (.c (.int .i64 0)))]<|sq (so [mv 12 4,mv 13 0,mv 14 2,ia 15 2 13 14,ln 16 2 15,mv 17 0,mv 18 1,ia 19 2 17 18,ln 20 2 19,⟨(some 21),.bJ (.r 12) [.r 16,.r 20],none,[]⟩,op 22 (.bin .lss (.r 21) (.c (.int .i64 0)))]<|.cond (.r 22) (so [mv 23 3,nc 24 23,l1 25 24,op 26 (.bin .add (.r 25) (.c (.int .i64 1))),nc 27 23,se 1 27 26]<|so [mv 28 2,mv 29 1,mv 10 28,mv 11 29]<|.ret) (.skip))<|so [mv 30 1,mv 31 2,mv 10 30,mv 11 31]<|.ret⟩
def Vs:An:=⟨[],[(1,[(0,true),(1,true),(2,true),(3,true),(4,true),(5,true),(6,true),(7,true),(8,false)])]⟩
def Hm:Go.Rmp.Fn:=⟨28,4,[.t 8,.t 9],so [op 8 (.ar (.c (.int .i64 0))),op 9 (.ar (.c (.int .i64 0)))]<|sq (so [mv 10 0,mv 11 2,ia 12 1 10 11,l1 13 12,mv 14 0,mv 15 1,ia 16 1 14 15,l1 17 16,cl 18 148 [.r 13,.r 17]]<|.cond (.r 18) (so [mv 19 3,nc 20 19,l1 21 20,op 22 (.bin .add (.r 21) (.c (.int .i64 1))),nc 23 19,se 1 23 22]<|so [mv 24 2,mv 25 1,mv 8 24,mv 9 25]<|.ret) (.skip))<|so [mv 26 1,mv 27 2,mv 8 26,mv 9 27]<|.ret⟩
theorem c4:al Tryz.prog an4 4=some ZX:=by kernel_rfl
theorem c8:al Tryz.prog an8 8=some ZY:=by kernel_rfl
theorem c9:al Tryz.prog an9 9=some ZZ:=by kernel_rfl
theorem c10:al Tryz.prog Z0 10=some Pj:=by kernel_rfl
theorem c11:al Tryz.prog Z1 11=some K8:=by kernel_rfl
theorem c14:al Tryz.prog Z2 14=some Pk:=by kernel_rfl
theorem Vt:al Tryz.prog Z3 15=some Pl:=by kernel_rfl
theorem Qp:al Tryz.prog Z4 16=some Pm:=by kernel_rfl
theorem Vu:al Tryz.prog Z5 17=some C4:=by kernel_rfl
theorem c18:al Tryz.prog Z6 18=some Pn:=by kernel_rfl
theorem c19:al Tryz.prog Z7 19=some Po:=by kernel_rfl
theorem c20:al Tryz.prog Z8 20=some Pp:=by kernel_rfl
theorem c21:al Tryz.prog Z9 21=some Pq:=by kernel_rfl
theorem c23:al Tryz.prog aaa 23=some K9:=by kernel_rfl
theorem c24:al Tryz.prog aab 24=some Gv:=by kernel_rfl
theorem c25:al Tryz.prog aac 25=some Gw:=by kernel_rfl
theorem c26:al Tryz.prog aad 26=some Pr:=by kernel_rfl
theorem c27:al Tryz.prog aae 27=some Ps:=by kernel_rfl
theorem c28:al Tryz.prog aaf 28=some Pt:=by kernel_rfl
theorem c29:al Tryz.prog aag 29=some Pu:=by kernel_rfl
theorem c30:al Tryz.prog aah 30=some Pv:=by kernel_rfl
theorem c31:al Tryz.prog aai 31=some Pw:=by kernel_rfl
theorem c32:al Tryz.prog aaj 32=some Px:=by kernel_rfl
theorem c33:al Tryz.prog aak 33=some Py:=by kernel_rfl
theorem c34:al Tryz.prog aal 34=some Pz:=by kernel_rfl
theorem c35:al Tryz.prog aam 35=some PA:=by kernel_rfl
theorem c36:al Tryz.prog aan 36=some PB:=by kernel_rfl
theorem c37:al Tryz.prog aao 37=some PC:=by kernel_rfl
theorem c38:al Tryz.prog aap 38=some PD:=by kernel_rfl
theorem c39:al Tryz.prog aaq 39=some PE:=by kernel_rfl
theorem c40:al Tryz.prog aar 40=some PF:=by kernel_rfl
theorem c41:al Tryz.prog aas 41=some PG:=by kernel_rfl
theorem c46:al Tryz.prog aat 46=some PH:=by kernel_rfl
theorem c47:al Tryz.prog aau 47=some C5:=by kernel_rfl
theorem c48:al Tryz.prog aav 48=some PI:=by kernel_rfl
theorem c49:al Tryz.prog aaw 49=some PJ:=by kernel_rfl
theorem c50:al Tryz.prog aax 50=some PK:=by kernel_rfl
theorem c51:al Tryz.prog aay 51=some PL:=by kernel_rfl
theorem c52:al Tryz.prog aaz 52=some PM:=by kernel_rfl
theorem c53:al Tryz.prog aaA 53=some PN:=by kernel_rfl
theorem c54:al Tryz.prog aaB 54=some La:=by kernel_rfl
theorem c55:al Tryz.prog aaC 55=some PO:=by kernel_rfl
theorem c56:al Tryz.prog aaD 56=some PQ:=by kernel_rfl
theorem c57:al Tryz.prog aaE 57=some Gx:=by kernel_rfl
theorem c58:al Tryz.prog aaF 58=some PS:=by kernel_rfl
theorem c59:al Tryz.prog aaG 59=some PT:=by kernel_rfl
theorem c60:al Tryz.prog aaH 60=some PU:=by kernel_rfl
theorem c61:al Tryz.prog aaI 61=some PX:=by kernel_rfl
theorem c62:al Tryz.prog aaJ 62=some PY:=by kernel_rfl
theorem c63:al Tryz.prog aaK 63=some PZ:=by kernel_rfl
theorem c64:al Tryz.prog aaL 64=some P0:=by kernel_rfl
theorem c65:al Tryz.prog aaM 65=some P1:=by kernel_rfl
theorem c66:al Tryz.prog aaN 66=some Lb:=by kernel_rfl
theorem c67:al Tryz.prog aaO 67=some Ld:=by kernel_rfl
theorem c68:al Tryz.prog aaP 68=some P2:=by kernel_rfl
theorem c69:al Tryz.prog aaQ 69=some vY:=by kernel_rfl
theorem c70:al Tryz.prog aaR 70=some P3:=by kernel_rfl
theorem c71:al Tryz.prog aaS 71=some P4:=by kernel_rfl
theorem c72:al Tryz.prog aaT 72=some P5:=by kernel_rfl
theorem c73:al Tryz.prog aaU 73=some P6:=by kernel_rfl
theorem c74:al Tryz.prog aaV 74=some Gy:=by kernel_rfl
theorem c75:al Tryz.prog aaW 75=some P7:=by kernel_rfl
theorem c76:al Tryz.prog aaX 76=some P8:=by kernel_rfl
theorem c78:al Tryz.prog aaY 78=some P9:=by kernel_rfl
theorem c79:al Tryz.prog aaZ 79=some Qa:=by kernel_rfl
theorem c80:al Tryz.prog aa0 80=some Qb:=by kernel_rfl
theorem c81:al Tryz.prog aa1 81=some Qc:=by kernel_rfl
theorem c83:al Tryz.prog aa2 83=some Qd:=by kernel_rfl
theorem c84:al Tryz.prog aa3 84=some Gz:=by kernel_rfl
theorem c85:al Tryz.prog aa4 85=some Qe:=by kernel_rfl
theorem c86:al Tryz.prog aa5 86=some Qf:=by kernel_rfl
theorem c87:al Tryz.prog aa6 87=some Qg:=by kernel_rfl
theorem c88:al Tryz.prog aa7 88=some Qh:=by kernel_rfl
theorem c89:al Tryz.prog aa8 89=some Qi:=by kernel_rfl
theorem c90:al Tryz.prog aa9 90=some Lf:=by kernel_rfl
theorem c91:al Tryz.prog aba 91=some Lg:=by kernel_rfl
theorem c92:al Tryz.prog abb 92=some Qj:=by kernel_rfl
theorem c93:al Tryz.prog abc 93=some Lh:=by kernel_rfl
theorem c94:al Tryz.prog abd 94=some Qk:=by kernel_rfl
theorem c95:al Tryz.prog abe 95=some Ql:=by kernel_rfl
theorem c96:al Tryz.prog abf 96=some Qm:=by kernel_rfl
theorem c97:al Tryz.prog abg 97=some Qn:=by kernel_rfl
theorem c98:al Tryz.prog abh 98=some Qo:=by kernel_rfl
theorem c99:al Tryz.prog abi 99=some Li:=by kernel_rfl
theorem abk:al Tryz.prog Uu 100=some GA:=by kernel_rfl
theorem abl:al Tryz.prog Uv 101=some GB:=by kernel_rfl
theorem abm:al Tryz.prog Uw 102=some GC:=by kernel_rfl
theorem abn:al Tryz.prog Ux 103=some GD:=by kernel_rfl
theorem abo:al Tryz.prog Uy 104=some Nr:=by kernel_rfl
theorem abp:al Tryz.prog Uz 105=some GF:=by kernel_rfl
theorem abq:al Tryz.prog UA 106=some GG:=by kernel_rfl
theorem abr:al Tryz.prog UB 107=some GH:=by kernel_rfl
theorem abt:al Tryz.prog UC 108=some GI:=by kernel_rfl
theorem abu:al Tryz.prog UD 109=some BG:=by kernel_rfl
theorem abv:al Tryz.prog UE 110=some GJ:=by kernel_rfl
theorem abw:al Tryz.prog UF 111=some GK:=by kernel_rfl
theorem abx:al Tryz.prog UG 112=some yw:=by kernel_rfl
theorem aby:al Tryz.prog UH 113=some BH:=by kernel_rfl
theorem abz:al Tryz.prog UI 114=some BI:=by kernel_rfl
theorem abA:al Tryz.prog UJ 115=some yx:=by kernel_rfl
theorem abB:al Tryz.prog UK 116=some GL:=by kernel_rfl
theorem abC:al Tryz.prog UL 117=some fg:=by kernel_rfl
theorem abD:al Tryz.prog UM 118=some BJ:=by kernel_rfl
theorem abE:al Tryz.prog UN 119=some GM:=by kernel_rfl
theorem abF:al Tryz.prog UO 120=some GN:=by kernel_rfl
theorem abG:al Tryz.prog UP 121=some GO:=by kernel_rfl
theorem abH:al Tryz.prog UQ 122=some fh:=by kernel_rfl
theorem abI:al Tryz.prog UR 123=some GP:=by kernel_rfl
theorem abJ:al Tryz.prog US 124=some GQ:=by kernel_rfl
theorem abK:al Tryz.prog UT 125=some GR:=by kernel_rfl
theorem abL:al Tryz.prog UU 128=some GS:=by kernel_rfl
theorem abM:al Tryz.prog UW 129=some GU:=by kernel_rfl
theorem abN:al Tryz.prog UX 130=some GV:=by kernel_rfl
theorem abO:al Tryz.prog UY 131=some GW:=by kernel_rfl
theorem abP:al Tryz.prog UZ 132=some BK:=by kernel_rfl
theorem abQ:al Tryz.prog U0 133=some GX:=by kernel_rfl
theorem abR:al Tryz.prog U1 134=some GY:=by kernel_rfl
theorem abS:al Tryz.prog U2 135=some BL:=by kernel_rfl
theorem abT:al Tryz.prog U3 136=some GZ:=by kernel_rfl
theorem abU:al Tryz.prog U4 137=some G0:=by kernel_rfl
theorem abV:al Tryz.prog U5 138=some G1:=by kernel_rfl
theorem abW:al Tryz.prog U6 139=some G2:=by kernel_rfl
theorem abX:al Tryz.prog U7 141=some uY:=by kernel_rfl
theorem abY:al Tryz.prog U8 142=some BM:=by kernel_rfl
theorem abZ:al Tryz.prog U9 143=some G3:=by kernel_rfl
theorem ab0:al Tryz.prog Va 144=some G4:=by kernel_rfl
theorem ab1:al Tryz.prog Vb 145=some BN:=by kernel_rfl
theorem ab2:al Tryz.prog Vc 146=some G5:=by kernel_rfl
theorem ab3:al Tryz.prog Ve 147=some G6:=by kernel_rfl
theorem ab4:al Tryz.prog Vf 148=some G7:=by kernel_rfl
theorem ab5:al Tryz.prog Vg 149=some G8:=by kernel_rfl
theorem ab6:al Tryz.prog Vh 150=some G9:=by kernel_rfl
theorem ab7:al Tryz.prog Vi 151=some Ha:=by kernel_rfl
theorem ab8:al Tryz.prog Vj 153=some Hb:=by kernel_rfl
theorem ab9:al Tryz.prog Vk 154=some Hc:=by kernel_rfl
theorem aca:al Tryz.prog Vl 155=some He:=by kernel_rfl
theorem acb:al Tryz.prog Vm 156=some Hf:=by kernel_rfl
theorem acd:al Tryz.prog Vn 157=some Hg:=by kernel_rfl
theorem ace:al Tryz.prog Vo 158=some Hi:=by kernel_rfl
theorem acf:al Tryz.prog Vp 159=some Hj:=by kernel_rfl
theorem acg:al Tryz.prog Vq 160=some Hk:=by kernel_rfl
theorem ach:al Tryz.prog Vr 162=some Hl:=by kernel_rfl
theorem aci:al Tryz.prog Vs 163=some Hm:=by kernel_rfl
def Ns:Nat→Option Go.Rmp.Fn
 | 4=>some ZX
 | 8=>some ZY
 | 9=>some ZZ
 | 10=>some Pj
 | 11=>some K8
 | 14=>some Pk
 | 15=>some Pl
 | 16=>some Pm
 | 17=>some C4
 | 18=>some Pn
 | 19=>some Po
 | 20=>some Pp
 | 21=>some Pq
 | 23=>some K9
 | 24=>some Gv
 | 25=>some Gw
 | 26=>some Pr
 | 27=>some Ps
 | 28=>some Pt
 | 29=>some Pu
 | 30=>some Pv
 | 31=>some Pw
 | 32=>some Px
 | 33=>some Py
 | 34=>some Pz
 | 35=>some PA
 | 36=>some PB
 | 37=>some PC
 | 38=>some PD
 | 39=>some PE
 | 40=>some PF
 | 41=>some PG
 | 46=>some PH
 | 47=>some C5
 | 48=>some PI
 | 49=>some PJ
 | 50=>some PK
 | 51=>some PL
 | 52=>some PM
 | 53=>some PN
 | 54=>some La
 | 55=>some PO
 | 56=>some PQ
 | 57=>some Gx
 | 58=>some PS
 | 59=>some PT
 | 60=>some PU
 | 61=>some PX
 | 62=>some PY
 | 63=>some PZ
 | 64=>some P0
 | 65=>some P1
 | 66=>some Lb
 | 67=>some Ld
 | 68=>some P2
 | 69=>some vY
 | 70=>some P3
 | 71=>some P4
 | 72=>some P5
 | 73=>some P6
 | 74=>some Gy
 | 75=>some P7
 | 76=>some P8
 | 78=>some P9
 | 79=>some Qa
 | 80=>some Qb
 | 81=>some Qc
 | 83=>some Qd
 | 84=>some Gz
 | 85=>some Qe
 | 86=>some Qf
 | 87=>some Qg
 | 88=>some Qh
 | 89=>some Qi
 | 90=>some Lf
 | 91=>some Lg
 | 92=>some Qj
 | 93=>some Lh
 | 94=>some Qk
 | 95=>some Ql
 | 96=>some Qm
 | 97=>some Qn
 | 98=>some Qo
 | 99=>some Li
 | 100=>some GA
 | 101=>some GB
 | 102=>some GC
 | 103=>some GD
 | 104=>some Nr
 | 105=>some GF
 | 106=>some GG
 | 107=>some GH
 | 108=>some GI
 | 109=>some BG
 | 110=>some GJ
 | 111=>some GK
 | 112=>some yw
 | 113=>some BH
 | 114=>some BI
 | 115=>some yx
 | 116=>some GL
 | 117=>some fg
 | 118=>some BJ
 | 119=>some GM
 | 120=>some GN
 | 121=>some GO
 | 122=>some fh
 | 123=>some GP
 | 124=>some GQ
 | 125=>some GR
 | 128=>some GS
 | 129=>some GU
 | 130=>some GV
 | 131=>some GW
 | 132=>some BK
 | 133=>some GX
 | 134=>some GY
 | 135=>some BL
 | 136=>some GZ
 | 137=>some G0
 | 138=>some G1
 | 139=>some G2
 | 141=>some uY
 | 142=>some BM
 | 143=>some G3
 | 144=>some G4
 | 145=>some BN
 | 146=>some G5
 | 147=>some G6
 | 148=>some G7
 | 149=>some G8
 | 150=>some G9
 | 151=>some Ha
 | 153=>some Hb
 | 154=>some Hc
 | 155=>some He
 | 156=>some Hf
 | 157=>some Hg
 | 158=>some Hi
 | 159=>some Hj
 | 160=>some Hk
 | 162=>some Hl
 | 163=>some Hm
 | _=>none
def env:Env:=⟨Ns,fun _ _ _ _=>False,fun _ _ _ _ _ h _=>h⟩
theorem Vv:xX Tryz.prog env where
 mixed:=by kernel_rfl
 fn:=by
  intro f fn h
  simp only[env,Ns]at h
  split at h
  ·cases h;exact⟨_,c4⟩
  ·cases h;exact⟨_,c8⟩
  ·cases h;exact⟨_,c9⟩
  ·cases h;exact⟨_,c10⟩
  ·cases h;exact⟨_,c11⟩
  ·cases h;exact⟨_,c14⟩
  ·cases h;exact⟨_,Vt⟩
  ·cases h;exact⟨_,Qp⟩
  ·cases h;exact⟨_,Vu⟩
  ·cases h;exact⟨_,c18⟩
  ·cases h;exact⟨_,c19⟩
  ·cases h;exact⟨_,c20⟩
  ·cases h;exact⟨_,c21⟩
  ·cases h;exact⟨_,c23⟩
  ·cases h;exact⟨_,c24⟩
  ·cases h;exact⟨_,c25⟩
  ·cases h;exact⟨_,c26⟩
  ·cases h;exact⟨_,c27⟩
  ·cases h;exact⟨_,c28⟩
  ·cases h;exact⟨_,c29⟩
  ·cases h;exact⟨_,c30⟩
  ·cases h;exact⟨_,c31⟩
  ·cases h;exact⟨_,c32⟩
  ·cases h;exact⟨_,c33⟩
  ·cases h;exact⟨_,c34⟩
  ·cases h;exact⟨_,c35⟩
  ·cases h;exact⟨_,c36⟩
  ·cases h;exact⟨_,c37⟩
  ·cases h;exact⟨_,c38⟩
  ·cases h;exact⟨_,c39⟩
  ·cases h;exact⟨_,c40⟩
  ·cases h;exact⟨_,c41⟩
  ·cases h;exact⟨_,c46⟩
  ·cases h;exact⟨_,c47⟩
  ·cases h;exact⟨_,c48⟩
  ·cases h;exact⟨_,c49⟩
  ·cases h;exact⟨_,c50⟩
  ·cases h;exact⟨_,c51⟩
  ·cases h;exact⟨_,c52⟩
  ·cases h;exact⟨_,c53⟩
  ·cases h;exact⟨_,c54⟩
  ·cases h;exact⟨_,c55⟩
  ·cases h;exact⟨_,c56⟩
  ·cases h;exact⟨_,c57⟩
  ·cases h;exact⟨_,c58⟩
  ·cases h;exact⟨_,c59⟩
  ·cases h;exact⟨_,c60⟩
  ·cases h;exact⟨_,c61⟩
  ·cases h;exact⟨_,c62⟩
  ·cases h;exact⟨_,c63⟩
  ·cases h;exact⟨_,c64⟩
  ·cases h;exact⟨_,c65⟩
  ·cases h;exact⟨_,c66⟩
  ·cases h;exact⟨_,c67⟩
  ·cases h;exact⟨_,c68⟩
  ·cases h;exact⟨_,c69⟩
  ·cases h;exact⟨_,c70⟩
  ·cases h;exact⟨_,c71⟩
  ·cases h;exact⟨_,c72⟩
  ·cases h;exact⟨_,c73⟩
  ·cases h;exact⟨_,c74⟩
  ·cases h;exact⟨_,c75⟩
  ·cases h;exact⟨_,c76⟩
  ·cases h;exact⟨_,c78⟩
  ·cases h;exact⟨_,c79⟩
  ·cases h;exact⟨_,c80⟩
  ·cases h;exact⟨_,c81⟩
  ·cases h;exact⟨_,c83⟩
  ·cases h;exact⟨_,c84⟩
  ·cases h;exact⟨_,c85⟩
  ·cases h;exact⟨_,c86⟩
  ·cases h;exact⟨_,c87⟩
  ·cases h;exact⟨_,c88⟩
  ·cases h;exact⟨_,c89⟩
  ·cases h;exact⟨_,c90⟩
  ·cases h;exact⟨_,c91⟩
  ·cases h;exact⟨_,c92⟩
  ·cases h;exact⟨_,c93⟩
  ·cases h;exact⟨_,c94⟩
  ·cases h;exact⟨_,c95⟩
  ·cases h;exact⟨_,c96⟩
  ·cases h;exact⟨_,c97⟩
  ·cases h;exact⟨_,c98⟩
  ·cases h;exact⟨_,c99⟩
  ·cases h;exact⟨_,abk⟩
  ·cases h;exact⟨_,abl⟩
  ·cases h;exact⟨_,abm⟩
  ·cases h;exact⟨_,abn⟩
  ·cases h;exact⟨_,abo⟩
  ·cases h;exact⟨_,abp⟩
  ·cases h;exact⟨_,abq⟩
  ·cases h;exact⟨_,abr⟩
  ·cases h;exact⟨_,abt⟩
  ·cases h;exact⟨_,abu⟩
  ·cases h;exact⟨_,abv⟩
  ·cases h;exact⟨_,abw⟩
  ·cases h;exact⟨_,abx⟩
  ·cases h;exact⟨_,aby⟩
  ·cases h;exact⟨_,abz⟩
  ·cases h;exact⟨_,abA⟩
  ·cases h;exact⟨_,abB⟩
  ·cases h;exact⟨_,abC⟩
  ·cases h;exact⟨_,abD⟩
  ·cases h;exact⟨_,abE⟩
  ·cases h;exact⟨_,abF⟩
  ·cases h;exact⟨_,abG⟩
  ·cases h;exact⟨_,abH⟩
  ·cases h;exact⟨_,abI⟩
  ·cases h;exact⟨_,abJ⟩
  ·cases h;exact⟨_,abK⟩
  ·cases h;exact⟨_,abL⟩
  ·cases h;exact⟨_,abM⟩
  ·cases h;exact⟨_,abN⟩
  ·cases h;exact⟨_,abO⟩
  ·cases h;exact⟨_,abP⟩
  ·cases h;exact⟨_,abQ⟩
  ·cases h;exact⟨_,abR⟩
  ·cases h;exact⟨_,abS⟩
  ·cases h;exact⟨_,abT⟩
  ·cases h;exact⟨_,abU⟩
  ·cases h;exact⟨_,abV⟩
  ·cases h;exact⟨_,abW⟩
  ·cases h;exact⟨_,abX⟩
  ·cases h;exact⟨_,abY⟩
  ·cases h;exact⟨_,abZ⟩
  ·cases h;exact⟨_,ab0⟩
  ·cases h;exact⟨_,ab1⟩
  ·cases h;exact⟨_,ab2⟩
  ·cases h;exact⟨_,ab3⟩
  ·cases h;exact⟨_,ab4⟩
  ·cases h;exact⟨_,ab5⟩
  ·cases h;exact⟨_,ab6⟩
  ·cases h;exact⟨_,ab7⟩
  ·cases h;exact⟨_,ab8⟩
  ·cases h;exact⟨_,ab9⟩
  ·cases h;exact⟨_,aca⟩
  ·cases h;exact⟨_,acb⟩
  ·cases h;exact⟨_,acd⟩
  ·cases h;exact⟨_,ace⟩
  ·cases h;exact⟨_,acf⟩
  ·cases h;exact⟨_,acg⟩
  ·cases h;exact⟨_,ach⟩
  ·cases h;exact⟨_,aci⟩
  ·cases h
 pr:=by intro f az H Q h;exact h.elim
end Go.Proofs.YtdcpehdijdllpaaGreat.Ir
end

section
namespace Go.Proofs.YtdcpehdijdllpaaGreat.St
open Go.Rmp Go.Proofs.YtdcpehdijdllpaaGreat.Ir
set_option maxRecDepth 10000
theorem bM {α:Type}{l:List α}{i:Nat}(h:i<l.length):∃x,l[i]?=some x:=⟨l[i],List.getElem?_eq_getElem h⟩
def eS (s:ByteArray):List T:=[.str s]
def eU (n:Nat):List T:=[.int .u64 n]
theorem yz {n:Nat}(h:n<256):IntKind.u8.wrap (n:Int)=(n:Int):=by
 unfold IntKind.wrap
 simp -implicitDefEqProofs only[IntKind.signed,IntKind.bits]
 simp
 omega
def fB:List ByteArray→Bool
 | a :: b :: l=>strLt a b&&fB (b :: l)
 | _=>true
theorem iM:∀(l:List ByteArray),fB l=true↔∀(i:Nat) (a b:ByteArray),l[i]?=some a→l[i+1]?=some b→strLt a b=true
 | []=>by simp[fB]
 | [a]=>by simp[fB]
 | a :: b :: l=>by
  simp -implicitDefEqProofs only[fB,Bool.and_eq_true,iM (b :: l)]
  constructor
  ·rintro⟨h1,h2⟩ i x y hx hy
   cases i with
   | zero=>simp at hx hy;subst hx;subst hy;exact h1
   | succ i=>exact h2 i x y (by simpa using hx) (by simpa using hy)
  ·intro h
   exact⟨h 0 a b rfl rfl,fun i x y hx hy=>h (i+1) x y (by simpa using hx) (by simpa using hy)⟩
theorem oQ {l:List ByteArray}(h:fB l=true):∀(q p:Nat) (a b:ByteArray),p<q→l[p]?=some a→l[q]?=some b→strLt a b=true
 | 0,p,_,_,Eu,_,_=>by omega
 | q+1,p,a,b,Eu,ha,hb=>by
  obtain⟨c,hc⟩:=bM (l:=l) (i:=q) (by have:=(List.getElem?_eq_some_iff.1 hb).1;omega)
  have h1:=(iM l).1 h q c b hc hb
  by_cases e:p=q
  ·subst e;rw[ha]at hc;cases hc;exact h1
  ·exact eb (oQ h q p a c (by omega) ha hc) h1
theorem qx {n:Nat}(h:n<18446744073709551616):IntKind.u64.wrap (n:Int)=(n:Int):=by
 unfold IntKind.wrap
 simp -implicitDefEqProofs only[IntKind.signed,IntKind.bits]
 simp
 omega
theorem sz (n:Int)(H:af):W env (.call 67 [.int .i64 n]) H (kX (.bool (decide (0≤n)&&decide (n≤1099511627776))) H):=by
 refine W.bA rfl rfl rfl ?_
 by_cases h1:0≤n
 ·simp -implicitDefEqProofs only[Ld,op,ef,cl,sq,reduceIte,q1,q2,q3,q4,q5,q6,q7,q8,q9,S1,h1]
 ·simp -implicitDefEqProofs only[Ld,op,ef,cl,sq,reduceIte,q1,q2,q3,q4,q5,q6,q7,q8,q9,S1,h1,Bool.false_and]
theorem all_map {α:Type}{enc:α→List T}{n:Nat}(hn:∀x,(enc x).length=n)(l:List α):(l.map enc).all (·.length==n)=true:=by
 simp[List.all_map,hn]
theorem b6 {α:Type}{l:List α}{i:Nat}{x:α}(h:l[i]?=some x):l.take (i+1)=l.take i++[x]:=by
 obtain⟨hi,e⟩:=List.getElem?_eq_some_iff.1 h
 rw[List.take_add_one,h];rfl
theorem dt {α:Type}{e:α→List T}{n:Nat}(hn:∀x,(e x).length=n)(h0:n≠0){l:List α}{k:SK}{i:Nat}{x:α}(h:l[i]?=some x):dK n i (.sl k (l.map e))=some (.b0 (e x)):=by
 simp -implicitDefEqProofs only[dK,List.getElem?_map,h,Option.map_some,hn,h0,ne_eq,not_false_eq_true,and_self,if_true]
theorem sA {n b:Nat}(h:n≤16777216)(hb:b≤64):db n b=true:=by
 simp -implicitDefEqProofs only[db,decide_eq_true_eq]
 have:(n+n/4+512)*b≤(n+n/4+512)*64:=Nat.mul_le_mul_left _ hb
 omega
def gI {α:Type}(k:SK)(l:List α):Prop:=k=.nil→l=[]
theorem pW {H H':af}{bytes:Nat}{k k':SK}{es new Tu:List (List T)}(ha:fP H bytes k es new=some (.sl k' Tu,H'))(hn:new≠[]):k'≠.nil:=by
 rintro rfl
 unfold fP at ha
 split at ha
 ·exact hn rfl
 ·split at ha
  ·cases k<;>simp only at ha
   ·simp at ha
   ·cases ha
   ·simp at ha
   ·split at ha
    ·split at ha<;>simp at ha
    ·cases ha
  ·cases ha
theorem Ho (s:ByteArray)(H:af):W env (.call 119 [.str s]) H (kX (.bool false) H):=by
 refine W.bA rfl rfl rfl ?_
 simp -implicitDefEqProofs only[GM,op,ef,cl,sq,reduceIte,q1,q2,q3,q4,q5,q6,q7,q8,q9,S1,Bool.not_true]
theorem Vw (s:ByteArray)(H:af):W env (.call 151 [.str s]) H (kX (.bool false) H):=by
 refine W.bA rfl rfl rfl ?_
 simp -implicitDefEqProofs only[Ha,op,ef,cl,sq,reduceIte,q1,q2,q3,q4,q5,q6,q7,q8,q9,S1,Bool.not_true]
theorem Hp (n:Nat)(H:af):W env (.call 120 [.int .u64 n]) H (kX (.bool false) H):=by
 refine W.bA rfl rfl rfl ?_
 simp -implicitDefEqProofs only[GN,op,ef,cl,sq,reduceIte,q1,q2,q3,q4,q5,q6,q7,q8,q9,S1]
theorem Vx (n:Nat)(H:af):W env (.call 125 [.int .u64 n]) H (kX (.bool false) H):=by
 refine W.bA rfl rfl rfl ?_
 simp -implicitDefEqProofs only[GR,op,ef,cl,sq,reduceIte,q1,q2,q3,q4,q5,q6,q7,q8,q9,S1]
def C6 (a b:ByteArray):Int:=if strLt a b=true then -1 else if strLt b a=true then 1 else 0
def C7 (a b:Nat):Int:=if a<b then -1 else if b<a then 1 else 0
theorem Vy (a b:ByteArray)(H:af):W env (.call 96 [.str a,.str b]) H (kX (.int .i64 (C6 a b)) H):=by
 refine W.bA rfl rfl rfl ?_
 simp -implicitDefEqProofs only[Qm,op,ef,cl,sq,reduceIte,q1,q2,q3,q4,q5,q6,q7,q8,q9,S1]
 refine ae _ _ _ _ _ _ _ _ (Ho a _) ?_
 rintro u H1⟨hu,rfl⟩
 cases hu
 simp -implicitDefEqProofs only[op,ef,cl,sq,reduceIte,q1,q2,q3,q4,q5,q6,q7,q8,q9,S1]
 refine ae _ _ _ _ _ _ _ _ (Ho b _) ?_
 rintro u H1⟨hu,rfl⟩
 cases hu
 cases h1:strLt a b
 ·cases h2:strLt b a
  ·simp -implicitDefEqProofs only[op,ef,cl,sq,reduceIte,q1,q2,q3,q4,q5,q6,q7,q8,q9,S1,C6,h1,h2]
  ·simp -implicitDefEqProofs only[op,ef,cl,sq,reduceIte,q1,q2,q3,q4,q5,q6,q7,q8,q9,S1,C6,h1,h2]
 ·simp -implicitDefEqProofs only[op,ef,cl,sq,reduceIte,q1,q2,q3,q4,q5,q6,q7,q8,q9,S1,C6,h1]
theorem Vz (a b:Nat)(H:af):W env (.call 97 [.int .u64 a,.int .u64 b]) H (kX (.int .i64 (C7 a b)) H):=by
 refine W.bA rfl rfl rfl ?_
 simp -implicitDefEqProofs only[Qn,op,ef,cl,sq,reduceIte,q1,q2,q3,q4,q5,q6,q7,q8,q9,S1]
 refine ae _ _ _ _ _ _ _ _ (Hp a _) ?_
 rintro u H1⟨hu,rfl⟩
 cases hu
 simp -implicitDefEqProofs only[op,ef,cl,sq,reduceIte,q1,q2,q3,q4,q5,q6,q7,q8,q9,S1]
 refine ae _ _ _ _ _ _ _ _ (Hp b _) ?_
 rintro u H1⟨hu,rfl⟩
 cases hu
 by_cases h1:a<b
 ·simp -implicitDefEqProofs only[op,ef,cl,sq,reduceIte,q1,q2,q3,q4,q5,q6,q7,q8,q9,S1,C7,h1]
 ·by_cases h2:b<a
  ·simp -implicitDefEqProofs only[op,ef,cl,sq,reduceIte,q1,q2,q3,q4,q5,q6,q7,q8,q9,S1,C7,h1,h2]
  ·simp -implicitDefEqProofs only[op,ef,cl,sq,reduceIte,q1,q2,q3,q4,q5,q6,q7,q8,q9,S1,C7,h1,h2]
theorem et (a b:ByteArray)(H:af):W env (.call 148 [.str a,.str b]) H (kX (.bool (strLt a b)) H):=by
 refine W.bA rfl rfl rfl ?_
 simp -implicitDefEqProofs only[G7,op,ef,cl,sq,reduceIte,q1,q2,q3,q4,q5,q6,q7,q8,q9,S1]
 refine ae _ _ _ _ _ _ _ _ (Ho a _) ?_
 rintro u H1⟨hu,rfl⟩
 cases hu
 simp -implicitDefEqProofs only[op,ef,cl,sq,reduceIte,q1,q2,q3,q4,q5,q6,q7,q8,q9,S1]
theorem Qq (a b:Nat)(H:af):W env (.call 124 [.int .u64 a,.int .u64 b]) H (kX (.bool (decide (a<b))) H):=by
 refine W.bA rfl rfl rfl ?_
 simp -implicitDefEqProofs only[GQ,op,ef,cl,sq,reduceIte,q1,q2,q3,q4,q5,q6,q7,q8,q9,S1]
 refine ae _ _ _ _ _ _ _ _ (Hp a _) ?_
 rintro u H1⟨hu,rfl⟩
 cases hu
 simp -implicitDefEqProofs only[op,ef,cl,sq,reduceIte,q1,q2,q3,q4,q5,q6,q7,q8,q9,S1]
def SQ (x y:Int):Int:=if x=0 then y else x
theorem acj (x y:Int)(H:af):W env (.call 95 [.sl .full [[.int .i64 x],[.int .i64 y]]]) H (kX (.int .i64 (SQ x y)) H):=by
 refine W.bA rfl rfl rfl ?_
 simp -implicitDefEqProofs only[Ql,op,ef,cl,sq,reduceIte,q1,q2,q3,q4,q5,q6,q7,q8,q9,S1]
 refine W.cO (fun (i:Nat) R H'=>H'=H∧R 3=.int .i64 0∧R 6=.sl .full [[.int .i64 x],[.int .i64 y]]∧R 7=.int .i64 2∧R 8=.int .i64 i∧i≤2∧(1≤i→x=0)∧(2≤i→y=0)) (fun i=>2-i) 0 ⟨rfl,rfl,rfl,rfl,rfl,by omega,fun h=>by omega,fun h=>by omega⟩ ?_
 rintro i R _⟨rfl,h3,h6,h7,h8,hi,h1,h2⟩
 have hc:i=0∨i=1∨i=2:=by omega
 have i0:dK 1 0 (.sl .full [[T.int .i64 x],[.int .i64 y]])=some (.b0 [.int .i64 x]):=rfl
 have i1:dK 1 1 (.sl .full [[T.int .i64 x],[.int .i64 y]])=some (.b0 [.int .i64 y]):=rfl
 have n0:cB (.int .i64 ((0:Nat):Int))=some 0:=rfl
 have n1:cB (.int .i64 ((1:Nat):Int))=some 1:=rfl
 have l0:((0:Nat):Int)<2:=by decide
 have l1:((1:Nat):Int)<2:=by decide
 have l2:¬((2:Nat):Int)<2:=by decide
 have w0:IntKind.i64.wrap (((0:Nat):Int)+1)=((1:Nat):Int):=by decide
 have w1:IntKind.i64.wrap (((1:Nat):Int)+1)=((2:Nat):Int):=by decide
 rcases hc with rfl|rfl|rfl
 ·by_cases hx:x=0
  ·subst hx
   simp -implicitDefEqProofs only[op,ef,cl,sq,reduceIte,q1,q2,q3,q4,q5,q6,q7,q8,q9,S1,h3,h6,h7,h8,l0,i0,n0,w0]
   exact⟨1,by decide,rfl,by omega⟩
  ·have jW:(x != 0)=true:=by simpa using hx
   simp -implicitDefEqProofs only[op,ef,cl,sq,reduceIte,q1,q2,q3,q4,q5,q6,q7,q8,q9,S1,h3,h6,h7,h8,l0,i0,n0,jW,SQ,hx]
 ·have hx:=h1 (by decide)
  subst hx
  by_cases hy:y=0
  ·subst hy
   simp -implicitDefEqProofs only[op,ef,cl,sq,reduceIte,q1,q2,q3,q4,q5,q6,q7,q8,q9,S1,h3,h6,h7,h8,l1,i1,n1,w1]
   exact⟨2,by decide,rfl,by omega⟩
  ·have zn:(y != 0)=true:=by simpa using hy
   simp -implicitDefEqProofs only[op,ef,cl,sq,reduceIte,q1,q2,q3,q4,q5,q6,q7,q8,q9,S1,h3,h6,h7,h8,l1,i1,n1,zn,SQ]
 ·have hx:=h1 (by decide)
  have hy:=h2 (by decide)
  subst hx hy
  simp -implicitDefEqProofs only[op,ef,cl,sq,reduceIte,q1,q2,q3,q4,q5,q6,q7,q8,q9,S1,h3,h6,h7,h8,l2,SQ]
abbrev Nm:=ByteArray×Nat
def eN (n:Nm):List T:=[.str n.1,.int .u64 n.2]
def kN (n:Nm):T:=.agg (eN n)
theorem vZ:sg (.st [.str,.int]) kN:=⟨fun _=>rfl,fun a b=>by
 simp -implicitDefEqProofs only[kN,eN,iP,b7,jo,fY,if_true,Ue]
 congr 1
 rw[Bool.eq_iff_iff]
 simp[Prod.ext_iff]⟩
def dX (a b:Nm):Int:=SQ (C6 a.1 b.1) (C7 a.2 b.2)
theorem cw (a b:Nm)(H:af):W env (.call 61 [kN a,kN b]) H (yf (.int .i64 (dX a b)) H):=by
 refine W.bA rfl rfl rfl ?_
 simp -implicitDefEqProofs only[PX,kN,eN,op,ef,cl,sq,reduceIte,q1,q2,q3,q4,q5,q6,q7,q8,q9,S1,S2,S3]
 refine ae _ _ _ _ _ _ _ _ (Vy _ _ _) ?_
 rintro u H1⟨hu,rfl⟩
 cases hu
 simp -implicitDefEqProofs only[op,ef,cl,sq,reduceIte,q1,q2,q3,q4,q5,q6,q7,q8,q9,S1,S2,S3]
 refine ae _ _ _ _ _ _ _ _ (Vz _ _ _) ?_
 rintro u H1⟨hu,rfl⟩
 cases hu
 simp -implicitDefEqProofs only[op,ef,cl,sq,reduceIte,q1,q2,q3,q4,q5,q6,q7,q8,q9,S1,S2,S3]
 refine ae _ _ _ _ _ _ _ _ (acj _ _ _) ?_
 rintro u H1⟨hu,rfl⟩
 cases hu
 simp -implicitDefEqProofs only[op,ef,cl,sq,reduceIte,q1,q2,q3,q4,q5,q6,q7,q8,q9,S1]
 exact⟨rfl,(Ext.rfl'.app _).app _⟩
theorem half (i j:Nat)(h:i+j<9223372036854775807):IntKind.i64.wrap ((IntKind.u64.wrap (IntKind.i64.wrap ((i:Int)+(j:Int)))).fdiv (2^(min (1:Int).toNat IntKind.u64.bits)))=(((i+j)/2:Nat):Int):=by
 rw[wrap64 (n:=(i:Int)+j) (by omega),vQ (n:=(i:Int)+j) (by omega)]
 have e:(2:Int)^(min (1:Int).toNat IntKind.u64.bits)=2:=by decide
 rw[e,Int.fdiv_eq_ediv_of_nonneg _ (by omega),wrap64 (by omega)]
 omega
def lI (l:List ByteArray)(x:ByteArray):Bool:=l.any fun y=>decide (y=x)
theorem kd {l:List ByteArray}{x:ByteArray}:lI l x=true↔x∈l:=by simp[lI]
theorem mV {l:List ByteArray}{x:ByteArray}:lI l x=false↔x∉l:=by rw[←kd];simp
def Hq (l:List ByteArray)(i:Nat):Prop:=∀x,l[i]?=some x→x.size≤65535∧(0<i→∀y,l[i-1]?=some y→strLt y x=true)
def gb (l:List ByteArray):Prop:=(∀i,i<l.length→Hq l i)∧1≤l.length∧l.length≤1024
def gU (l:List ByteArray):Bool:=fB l&&l.all (fun x=>decide (x.size≤65535))&&decide (1≤l.length)&&decide (l.length≤1024)
theorem cS {l:List ByteArray}:gU l=true↔gb l:=by
 simp -implicitDefEqProofs only[gU,Bool.and_eq_true,decide_eq_true_eq,List.all_eq_true,gb,iM]
 constructor
 ·rintro⟨⟨⟨h1,h2⟩,h3⟩,h4⟩
  refine⟨fun i hi x hx=>⟨h2 x (List.mem_of_getElem? hx),fun h0 y hy=>h1 (i-1) y x hy (by rw[show i-1+1=i by omega];exact hx)⟩,h3,h4⟩
 ·rintro⟨h1,h3,h4⟩
  refine⟨⟨⟨fun i a b ha hb=>?_,fun x hx=>?_⟩,h3⟩,h4⟩
  ·exact(h1 (i+1) (List.getElem?_eq_some_iff.1 hb).1 b hb).2 (by omega) a (by simpa using ha)
  ·obtain⟨i,hi,rfl⟩:=List.getElem_of_mem hx
   exact(h1 i hi _ (List.getElem?_eq_getElem hi)).1
theorem yA {l:List ByteArray}(h:¬gb l):gU l=false:=by
 cases e:gU l with
 | false=>rfl
 | true=>exact absurd (cS.1 e) h
theorem gb.fB {l:List ByteArray}(h:gb l):fB l=true:=(iM l).2 fun i a b ha hb=>by
 have:=(h.1 (i+1) (List.getElem?_eq_some_iff.1 hb).1 b hb).2 (by omega) a (by simpa using ha)
 exact this
theorem yB (k:SK)(l:List ByteArray)(H:af)(hl:l.length<9223372036854775807):W env (.call 101 [.sl k (l.map eS)]) H (fun o H'=>o=.val (.bool (gU l))∧H'=H):=by
 refine W.bA rfl rfl rfl ?_
 simp -implicitDefEqProofs only[GB,op,ef,cl,sq,reduceIte,q1,q2,q3,q4,q5,q6,q7,q8,q9,S1,List.length_map]
 refine W.cO (fun (i:Nat) R H'=>H'=H∧R 0=.sl k (l.map eS)∧R 5=.sl k (l.map eS)∧R 6=.int .i64 l.length∧R 7=.int .i64 i∧i≤l.length∧∀j,j<i→Hq l j) (fun i=>l.length-i) 0 ⟨rfl,rfl,rfl,rfl,rfl,Nat.zero_le _,fun j h=>by omega⟩ ?_
 rintro i R _⟨rfl,h0,h5,h6,h7,hi,qP⟩
 by_cases aq:i<l.length
 ·obtain⟨x,hx⟩:=bM aq
  have ws:=aw (show i<9223372036854775807 by omega)
  have xm:=dt (e:=eS) (n:=1) (fun _=>rfl) (by decide) (k:=k) hx
  have bad:¬Hq l i→gU l=false:=fun hb=>yA fun h=>hb (h.1 i aq)
  by_cases bg:65535<x.size
  ·have:=bad fun h=>by have:=(h x hx).1;omega
   simp -implicitDefEqProofs only[op,ef,cl,sq,reduceIte,q1,q2,q3,q4,q5,q6,q7,q8,q9,S1,h0,h5,h6,h7,aq,aa,xm,eS,bg,this]
  ·by_cases mB:0<i
   ·obtain⟨y,hy⟩:=bM (l:=l) (i:=i-1) (by omega)
    have wp:=gB (show i<9223372036854775807 by omega) mB
    have hiy:=dt (e:=eS) (n:=1) (fun _=>rfl) (by decide) (k:=k) hy
    cases hc:strLt y x
    ·have:=bad fun h=>by have:=(h x hx).2 mB y hy;rw[hc]at this;cases this
     simp -implicitDefEqProofs only[op,ef,cl,sq,reduceIte,q1,q2,q3,q4,q5,q6,q7,q8,q9,S1,h0,h5,h6,h7,aq,aa,xm,hiy,eS,bg,mB,wp,hc,this]
    ·simp -implicitDefEqProofs only[op,ef,cl,sq,reduceIte,q1,q2,q3,q4,q5,q6,q7,q8,q9,S1,h0,h5,h6,h7,aq,aa,xm,hiy,eS,bg,mB,wp,hc,ws]
     refine⟨i+1,by omega,rfl,by omega,fun j hj=>?_⟩
     by_cases e:j=i
     ·subst e;intro x' jW;rw[hx]at jW;cases jW
      exact⟨by omega,fun _ y' zn=>by rw[hy]at zn;cases zn;exact hc⟩
     ·exact qP j (by omega)
   ·simp -implicitDefEqProofs only[op,ef,cl,sq,reduceIte,q1,q2,q3,q4,q5,q6,q7,q8,q9,S1,h0,h5,h6,h7,aq,aa,xm,eS,bg,mB,ws]
    refine⟨i+1,by omega,rfl,by omega,fun j hj=>?_⟩
    by_cases e:j=i
    ·subst e;intro x' jW;rw[hx]at jW;cases jW
     exact⟨by omega,fun h=>absurd h mB⟩
    ·exact qP j (by omega)
 ·have mc:i=l.length:=by omega
  subst mc
  by_cases h1:1≤l.length
  ·have e:gU l=decide (l.length≤1024):=by
    rw[Bool.eq_iff_iff,cS];simp -implicitDefEqProofs only[decide_eq_true_eq]
    exact⟨fun h=>h.2.2,fun h=>⟨qP,h1,h⟩⟩
   simp -implicitDefEqProofs only[op,ef,cl,sq,reduceIte,q1,q2,q3,q4,q5,q6,q7,q8,q9,S1,h0,h5,h6,h7,aq,List.length_map,h1,e]
  ·have e:gU l=false:=yA fun h=>h1 h.2.1
   simp -implicitDefEqProofs only[op,ef,cl,sq,reduceIte,q1,q2,q3,q4,q5,q6,q7,q8,q9,S1,h0,h5,h6,h7,aq,List.length_map,h1,e]
theorem ack (k:SK)(l:List ByteArray)(x:ByteArray)(H:af)(hl:l.length<4611686018427387903)(hr:fB l=true) :
  W env (.call 123 [.sl k (l.map eS),.str x]) H (fun o H'=>∃i:Nat,o=.val (.bC [.int .i64 i,.bool (lI l x)])∧H'=H):=by
 refine W.bA rfl rfl rfl ?_
 simp -implicitDefEqProofs only[GP,op,ef,cl,sq,reduceIte,q1,q2,q3,q4,q5,q6,q7,q8,q9,S1,List.length_map]
 refine W.cO (fun (s:Nat×Nat) R H'=>H'=H∧R 0=.sl k (l.map eS)∧R 1=.str x∧R 6=.int .i64 l.length∧R 7=.int .i64 s.1∧R 8=.int .i64 s.2∧s.1≤s.2∧s.2≤l.length∧(∀p a,p<s.1→l[p]?=some a→strLt a x=true)∧∀p a,s.2≤p→l[p]?=some a→strLt a x=false)
  (fun s=>s.2-s.1) (0,l.length) ⟨rfl,rfl,rfl,rfl,rfl,rfl,Nat.zero_le _,Nat.le_refl _,fun p a h=>by omega,fun p a h ha=>by rw[List.getElem?_eq_none h]at ha;cases ha⟩ ?_
 rintro⟨i,j⟩ R _ ⟨rfl,h0,h1,h6,h7,h8,sB,zM,lG,A8⟩
 simp -implicitDefEqProofs only[op,ef,cl,sq,reduceIte,q1,q2,q3,q4,q5,q6,q7,q8,q9,S1,h0,h1,h6,h7,h8,List.length_map]
 by_cases aq:i<j
 ·obtain⟨y,hy⟩:=bM (l:=l) (i:=(i+j)/2) (by omega)
  have xm:=dt (e:=eS) (n:=1) (fun _=>rfl) (by decide) (k:=k) hy
  simp -implicitDefEqProofs only[aq,op,ef,cl,sq,reduceIte,q1,q2,q3,q4,q5,q6,q7,q8,q9,S1,h0,h1,h6,h7,h8,half i j (by omega),xm,eS]
  refine ae _ _ _ _ _ _ _ _ (et y x _) ?_
  rintro v H'⟨hv,rfl⟩
  cases hv
  simp -implicitDefEqProofs only[op,ef,cl,sq,reduceIte,q1,q2,q3,q4,q5,q6,q7,q8,q9,S1,h0,h1,h6,h7,h8]
  cases hc:strLt y x
  ·simp -implicitDefEqProofs only[op,ef,cl,sq,reduceIte,q1,q2,q3,q4,q5,q6,q7,q8,q9,S1,h0,h1,h6,h7,h8]
   refine⟨(i,(i+j)/2),by omega,rfl,rfl,by omega,by omega,lG,fun p a hp ha=>?_⟩
   by_cases e:p=(i+j)/2
   ·subst e;rw[hy]at ha;cases ha;exact hc
   ·cases hh:strLt a x with
    | false=>rfl
    | true=>rw[eb (oQ hr p ((i+j)/2) y a (by omega) hy ha) hh]at hc;cases hc
  ·simp -implicitDefEqProofs only[op,ef,cl,sq,reduceIte,q1,q2,q3,q4,q5,q6,q7,q8,q9,S1,h0,h1,h6,h7,h8,aw (show(i+j)/2<9223372036854775807 by omega)]
   refine⟨((i+j)/2+1,j),by omega,rfl,rfl,by omega,by omega,fun p a hp ha=>?_,A8⟩
   by_cases e:p=(i+j)/2
   ·subst e;rw[hy]at ha;cases ha;exact hc
   ·exact eb (oQ hr ((i+j)/2) p a y (by omega) ha hy) hc
 ·have Qr:i=j:=by simp only at sB;omega
  subst Qr
  by_cases iI:i<l.length
  ·obtain⟨y,hy⟩:=bM iI
   have xm:=dt (e:=eS) (n:=1) (fun _=>rfl) (by decide) (k:=k) hy
   by_cases Qs:y=x
   ·have:lI l x=true:=kd.2 (Qs▸List.mem_of_getElem? hy)
    simp -implicitDefEqProofs only[op,ef,cl,sq,reduceIte,q1,q2,q3,q4,q5,q6,q7,q8,q9,S1,h0,h1,h6,h7,h8,List.length_map,aq,iI,xm,eS,Qs,this]
    exact⟨i,rfl⟩
   ·have:lI l x=false:=mV.2 fun hm=>by
     obtain⟨p,hp,e⟩:=List.getElem_of_mem hm
     have SS:l[p]?=some x:=by rw[List.getElem?_eq_getElem hp,e]
     rcases Nat.lt_trichotomy p i with h|h|h
     ·have:=lG p x h SS;rw[fA]at this;cases this
     ·subst h;rw[hy]at SS;cases SS;exact Qs rfl
     ·have a1:=A8 i y (Nat.le_refl _) hy
      rw[oQ hr p i y x h hy SS]at a1;cases a1
    simp -implicitDefEqProofs only[op,ef,cl,sq,reduceIte,q1,q2,q3,q4,q5,q6,q7,q8,q9,S1,h0,h1,h6,h7,h8,List.length_map,aq,iI,xm,eS,Qs]
    refine ae _ _ _ _ _ _ _ _ (Vw y _) ?_
    rintro v H'⟨hv,rfl⟩
    cases hv
    simp -implicitDefEqProofs only[op,ef,cl,sq,reduceIte,q1,q2,q3,q4,q5,q6,q7,q8,q9,S1,this]
    exact⟨i,rfl⟩
  ·have:lI l x=false:=mV.2 fun hm=>by
    obtain⟨p,hp,e⟩:=List.getElem_of_mem hm
    have SS:l[p]?=some x:=by rw[List.getElem?_eq_getElem hp,e]
    have:=lG p x (by omega) SS;rw[fA]at this;cases this
   simp -implicitDefEqProofs only[op,ef,cl,sq,reduceIte,q1,q2,q3,q4,q5,q6,q7,q8,q9,S1,h0,h1,h6,h7,h8,List.length_map,aq,iI,this]
   exact⟨i,rfl⟩
theorem Hr (k:SK)(l:List ByteArray)(x:ByteArray)(H:af)(hl:l.length<4611686018427387903)(hr:fB l=true):W env (.call 102 [.sl k (l.map eS),.str x]) H (kX (.bool (lI l x)) H):=by
 refine W.bA rfl rfl rfl ?_
 simp -implicitDefEqProofs only[GC,op,ef,cl,sq,reduceIte,q1,q2,q3,q4,q5,q6,q7,q8,q9,S1]
 refine ae _ _ _ _ _ _ _ _ (ack k l x _ hl hr) ?_
 rintro v H'⟨i,hv,rfl⟩
 cases hv
 simp -implicitDefEqProofs only[op,ef,cl,sq,reduceIte,q1,q2,q3,q4,q5,q6,q7,q8,q9,S1]
def eP (p:ByteArray×ByteArray):List T:=[.str p.1,.str p.2]
def sC (l:List (ByteArray×ByteArray))(ks:List ByteArray)(i:Nat):Prop:=∀p,l[i]?=some p→(0<i→∀q,l[i-1]?=some q→strLt q.1 p.1=true)∧p.1∈ks∧p.2.size≤65535
def ni (n:Nat)(l:List (ByteArray×ByteArray))(ks:List ByteArray):Prop:=65536≤n∧gb ks∧1≤l.length∧∀i,i<l.length→sC l ks i
theorem Nt (n:Nat)(k k':SK)(l:List (ByteArray×ByteArray))(ks:List ByteArray)(H:af)(hl:l.length<9223372036854775807)(MI:ks.length<4611686018427387903) :
  W env (.call 66 [.int .u64 n,.sl k (l.map eP),.sl k' (ks.map eS)]) H (fun o H'=>Ext H H'∧∃b,o=.val (.bool b)∧(b=true↔ni n l ks)):=by
 refine W.bA rfl rfl rfl ?_
 have no:¬ni n l ks→((false:Bool)=true↔ni n l ks):=fun h=>⟨fun e=>(by cases e),fun e=>absurd e h⟩
 by_cases hn:n<65536
 ·simp -implicitDefEqProofs only[Lb,op,ef,cl,sq,reduceIte,q1,q2,q3,q4,q5,q6,q7,q8,q9,S1,hn]
  exact⟨Ext.rfl',false,rfl,no fun h=>by have:=h.1;omega⟩
 simp -implicitDefEqProofs only[Lb,op,ef,cl,sq,reduceIte,q1,q2,q3,q4,q5,q6,q7,q8,q9,S1,hn]
 refine ae _ _ _ _ _ _ _ _ (yB k' ks _ (by omega)) ?_
 rintro u H1⟨hu,rfl⟩
 cases hu
 cases hg:gU ks
 ·simp -implicitDefEqProofs only[op,ef,cl,sq,reduceIte,q1,q2,q3,q4,q5,q6,q7,q8,q9,S1]
  exact⟨Ext.rfl',false,rfl,no fun h=>by have:=cS.2 h.2.1;rw[hg]at this;cases this⟩
 have BO:=cS.1 hg
 by_cases VA:l.length<1
 ·simp -implicitDefEqProofs only[op,ef,cl,sq,reduceIte,q1,q2,q3,q4,q5,q6,q7,q8,q9,S1,List.length_map,VA]
  exact⟨Ext.rfl',false,rfl,no fun h=>by have:=h.2.2.1;omega⟩
 simp -implicitDefEqProofs only[op,ef,cl,sq,reduceIte,q1,q2,q3,q4,q5,q6,q7,q8,q9,S1,List.length_map,VA]
 refine W.cO (fun (i:Nat) R H'=>At H' (fun H'=>Ext H1 H')∧R 0=.int .u64 n∧R 1=.sl k (l.map eP)∧R 2=.sl k' (ks.map eS)∧R 21=.sl k (l.map eP)∧R 22=.int .i64 l.length∧R 23=.int .i64 i∧i≤l.length∧∀j,j<i→sC l ks j) (fun i=>l.length-i) 0 ⟨.i Ext.rfl',rfl,rfl,rfl,rfl,rfl,rfl,Nat.zero_le _,fun j h=>by omega⟩ ?_
 rintro i R H2⟨hx,h0,h1,h2,Kq,SU,SV,hi,qP⟩
 have hx:Ext H1 H2:=hx
 by_cases aq:i<l.length
 ·obtain⟨p,hp⟩:=bM aq
  have ws:=aw (show i<9223372036854775807 by omega)
  have xm:=dt (e:=eP) (n:=2) (fun _=>rfl) (by decide) (k:=k) hp
  have bad:¬sC l ks i→((false:Bool)=true↔ni n l ks):=fun hb=>no fun h=>hb (h.2.2.2 i aq)
  have tt:∀y:B,Ext H1 (H2++[y]):=fun y=>hx.app _
  have key:(0<i→∀q,l[i-1]?=some q→strLt q.1 p.1=true)→∀c:Bool,c=lI ks p.1→(c=false∨65535<p.2.size→¬sC l ks i)∧(c=true→¬65535<p.2.size→∀j,j<i+1→sC l ks j):=by
   rintro hs c rfl
   refine⟨fun h ho=>?_,fun hc bg j hj=>?_⟩
   ·have:=(ho p hp).2
    rcases h with h|h
    ·exact mV.1 h this.1
    ·omega
   ·by_cases e:j=i
    ·subst e;intro p' xg;rw[hp]at xg;cases xg
     exact⟨hs,kd.1 hc,by omega⟩
    ·exact qP j (by omega)
  by_cases mB:0<i
  ·obtain⟨q,hq⟩:=bM (l:=l) (i:=i-1) (by omega)
   have wp:=gB (show i<9223372036854775807 by omega) mB
   have hiq:=dt (e:=eP) (n:=2) (fun _=>rfl) (by decide) (k:=k) hq
   cases hc:strLt q.1 p.1
   ·simp -implicitDefEqProofs only[op,ef,cl,sq,reduceIte,q1,q2,q3,q4,q5,q6,q7,q8,q9,S1,S2,S3,h0,h1,h2,Kq,SU,SV,aq,aa,xm,hiq,eP,mB,wp,hc]
    exact⟨(hx.app _),false,rfl,bad fun h=>by have:=(h p hp).1 mB q hq;rw[hc]at this;cases this⟩
   ·have hk:=key (fun _ q' TA=>by rw[hq]at TA;cases TA;exact hc) (lI ks p.1) rfl
    simp -implicitDefEqProofs only[op,ef,cl,sq,reduceIte,q1,q2,q3,q4,q5,q6,q7,q8,q9,S1,S2,S3,h0,h1,h2,Kq,SU,SV,aq,aa,xm,hiq,eP,mB,wp,hc]
    refine ae _ _ _ _ _ _ _ _ (Hr k' ks p.1 _ (by omega) BO.fB) ?_
    rintro u H3⟨hu,rfl⟩
    cases hu
    cases hm:lI ks p.1
    ·simp -implicitDefEqProofs only[op,ef,cl,sq,reduceIte,q1,q2,q3,q4,q5,q6,q7,q8,q9,S1]
     exact⟨(hx.app _),false,rfl,bad (hk.1 (.inl hm))⟩
    ·by_cases bg:65535<p.2.size
     ·simp -implicitDefEqProofs only[op,ef,cl,sq,reduceIte,q1,q2,q3,q4,q5,q6,q7,q8,q9,S1,S2,S3,bg]
      exact⟨(hx.app _),false,rfl,bad (hk.1 (.inr bg))⟩
     ·simp -implicitDefEqProofs only[op,ef,cl,sq,reduceIte,q1,q2,q3,q4,q5,q6,q7,q8,q9,S1,S2,S3,bg,h0,h1,h2,Kq,SU,SV,ws]
      exact⟨i+1,by omega,.i (hx.app _),rfl,by omega,hk.2 hm bg⟩
  ·have hk:=key (fun h=>absurd h mB) (lI ks p.1) rfl
   simp -implicitDefEqProofs only[op,ef,cl,sq,reduceIte,q1,q2,q3,q4,q5,q6,q7,q8,q9,S1,S2,S3,h0,h1,h2,Kq,SU,SV,aq,aa,xm,eP,mB]
   refine ae _ _ _ _ _ _ _ _ (Hr k' ks p.1 _ (by omega) BO.fB) ?_
   rintro u H3⟨hu,rfl⟩
   cases hu
   cases hm:lI ks p.1
   ·simp -implicitDefEqProofs only[op,ef,cl,sq,reduceIte,q1,q2,q3,q4,q5,q6,q7,q8,q9,S1]
    exact⟨(hx.app _),false,rfl,bad (hk.1 (.inl hm))⟩
   ·by_cases bg:65535<p.2.size
    ·simp -implicitDefEqProofs only[op,ef,cl,sq,reduceIte,q1,q2,q3,q4,q5,q6,q7,q8,q9,S1,S2,S3,bg]
     exact⟨(hx.app _),false,rfl,bad (hk.1 (.inr bg))⟩
    ·simp -implicitDefEqProofs only[op,ef,cl,sq,reduceIte,q1,q2,q3,q4,q5,q6,q7,q8,q9,S1,S2,S3,bg,h0,h1,h2,Kq,SU,SV,ws]
     exact⟨i+1,by omega,.i (hx.app _),rfl,by omega,hk.2 hm bg⟩
 ·have mc:i=l.length:=by omega
  subst mc
  simp -implicitDefEqProofs only[op,ef,cl,sq,reduceIte,q1,q2,q3,q4,q5,q6,q7,q8,q9,S1,h0,h1,h2,Kq,SU,SV,aq]
  exact⟨hx,true,rfl,⟨fun _=>⟨by omega,BO,by omega,qP⟩,fun _=>rfl⟩⟩
theorem vU (l:List ByteArray):(l.map eS).map (·.map T.erase)=l.map eS:=by simp[List.map_map,Function.comp_def,eS,T.erase]
theorem qW (k:SK)(l:List ByteArray)(H:af)(hk:gI k l)(hl:l.length≤16777216):W env (.call 69 [.sl k (l.map eS)]) H (fun o H'=>Ext H H'∧∃k',gI k' l∧o=.val (.sl k' (l.map eS))):=by
 refine W.bA rfl rfl rfl ?_
 have app:l≠[]→∃k' H',fP H 16 .full [] (l.map eS)=some (.sl k' (l.map eS),H')∧Ext H H'∧k'≠.nil:=fun bF=>by
  obtain⟨k',H',ha,kx,cW⟩:=gC (n0:=H.length) (H:=H) (bytes:=16) (k:=.full) [] (l.map eS) (.inr (.inl rfl)) (Nat.le_refl _) (by simpa using bF) (sA (by simp;omega) (by omega))
  rw[List.nil_append,vU]at ha
  refine⟨k',H',ha,cW.ext H (Nat.le_refl _) Ext.rfl',fun h=>?_⟩
  subst h
  unfold fP at ha
  cases hl:l.map eS with
  | nil=>simp at hl;exact bF hl
  | cons c cs=>rw[hl]at ha;simp only at ha;split at ha<;>simp at ha
 cases k with
 | nil =>
  have:=hk rfl;subst this
  simp -implicitDefEqProofs only[vY,op,ef,cl,sq,reduceIte,q1,q2,q3,q4,q5,q6,q7,q8,q9,S1,dQ,lx]
  exact⟨Ext.rfl',.nil,fun _=>rfl,rfl⟩
 | arg =>
  cases l with
  | nil =>
   simp -implicitDefEqProofs only[vY,op,ef,cl,sq,reduceIte,q1,q2,q3,q4,q5,q6,q7,q8,q9,S1,dQ,lx,Option.map_none]
   refine fun t=>?_
   cases t
   ·simp -implicitDefEqProofs only[op,ef,cl,sq,reduceIte,q1,q2,q3,q4,q5,q6,q7,q8,q9,S1,fP]
    exact⟨Ext.rfl',.full,fun h=>rfl,rfl⟩
   ·simp -implicitDefEqProofs only[op,ef,cl,sq,reduceIte,q1,q2,q3,q4,q5,q6,q7,q8,q9,S1]
    exact⟨Ext.rfl',.nil,fun _=>rfl,rfl⟩
  | cons a l =>
   obtain⟨k',H',ha,hx,kv⟩:=app (by simp)
   have h1:=all_map (enc:=eS) (n:=1) (fun _=>rfl) (a :: l)
   simp -implicitDefEqProofs only[List.map_cons]at ha h1
   simp -implicitDefEqProofs only[vY,op,ef,cl,sq,reduceIte,q1,q2,q3,q4,q5,q6,q7,q8,q9,S1,dQ,lx,ha,h1]
   exact⟨hx,k',fun h=>absurd h kv,rfl⟩
 | full =>
  cases l with
  | nil =>
   simp -implicitDefEqProofs only[vY,op,ef,cl,sq,reduceIte,q1,q2,q3,q4,q5,q6,q7,q8,q9,S1,dQ,lx,fP]
   exact⟨Ext.rfl',.full,fun h=>rfl,rfl⟩
  | cons a l =>
   obtain⟨k',H',ha,hx,kv⟩:=app (by simp)
   have h1:=all_map (enc:=eS) (n:=1) (fun _=>rfl) (a :: l)
   simp -implicitDefEqProofs only[List.map_cons]at ha h1
   simp -implicitDefEqProofs only[vY,op,ef,cl,sq,reduceIte,q1,q2,q3,q4,q5,q6,q7,q8,q9,S1,dQ,lx,ha,h1]
   exact⟨hx,k',fun h=>absurd h kv,rfl⟩
 | own t e =>
  cases l with
  | nil =>
   simp -implicitDefEqProofs only[vY,op,ef,cl,sq,reduceIte,q1,q2,q3,q4,q5,q6,q7,q8,q9,S1,dQ,lx,fP]
   exact⟨Ext.rfl',.full,fun h=>rfl,rfl⟩
  | cons a l =>
   obtain⟨k',H',ha,hx,kv⟩:=app (by simp)
   have h1:=all_map (enc:=eS) (n:=1) (fun _=>rfl) (a :: l)
   simp -implicitDefEqProofs only[List.map_cons]at ha h1
   simp -implicitDefEqProofs only[vY,op,ef,cl,sq,reduceIte,q1,q2,q3,q4,q5,q6,q7,q8,q9,S1,dQ,lx,ha,h1]
   exact⟨hx,k',fun h=>absurd h kv,rfl⟩
def a6 (F:Nat→Prop)(H H':af):Prop:=H.length≤H'.length∧∀c,c<H.length→¬F c→H'[c]?=H[c]?
theorem a6.refl (F:Nat→Prop)(H:af):a6 F H H:=⟨Nat.le_refl _,fun _ _ _=>rfl⟩
theorem a6.trans {F G:Nat→Prop}{H H' xz:af}(h:a6 F H H')(h':a6 G H' xz)(hg:∀c,G c→F c∨H.length≤c):a6 F H xz :=
 ⟨Nat.le_trans h.1 h'.1,fun c hc hf=>by rw[h'.2 c (Nat.lt_of_lt_of_le hc h.1) (fun hgc=>(hg c hgc).elim hf (fun h=>by omega)),h.2 c hc hf]⟩
theorem aB {F:Nat→Prop}{H H':af}(h:Ext H H'):a6 F H H':=⟨h.len,fun c hc _=>by
 obtain⟨m,rfl⟩:=h;rw[List.getElem?_append_left hc]⟩
theorem a6.set {F:Nat→Prop}{H H':af}(h:a6 F H H'){b:Nat}(hb:F b∨H.length≤b)(y:B):a6 F H (H'.set b y) :=
 ⟨by rw[List.length_set];exact h.1,fun c hc hf=>by
  have:b≠c:=by rintro rfl;rcases hb with hb|hb;exact hf hb;omega
  rw[bm this,h.2 c hc hf]⟩
theorem a6.app {F:Nat→Prop}{H H':af}(h:a6 F H H')(l:af):a6 F H (H'++l):=⟨by rw[List.length_append];have:=h.1;omega,fun c hc hf=>by
 rw[List.getElem?_append_left (Nat.lt_of_lt_of_le hc h.1),h.2 c hc hf]⟩
theorem a6.get {F:Nat→Prop}{H H':af}(h:a6 F H H'){c:Nat}{x:B}(hx:H[c]?=some x)(hf:¬F c):H'[c]?=some x:=by rw[h.2 c (aQ hx) hf];exact hx
theorem a6.mono {F G:Nat→Prop}{H H':af}(h:a6 F H H')(hg:∀c,F c→G c):a6 G H H':=⟨h.1,fun c hc hf=>h.2 c hc fun hh=>hf (hg c hh)⟩
theorem pX {α:Type}{enc:α→List T}(hn:∀x,(enc x).length=1){n0:Nat}{H:af}{t:T}{l:List α}(hm:lB enc 1 n0 H t l){i:Nat}{x:α}(hx:l[i]?=some x):∃b,H[b]?=some (.cells (aP enc l))∧dK 1 i t=some (.ptr b (i*1))∧mr 1 (i*1) (some (.cells (aP enc l)))=some (enc x):=by
 have hi:=(List.getElem?_eq_some_iff.1 hx).1
 rcases hm with⟨rfl,_⟩|⟨b,rfl,hb,_⟩
 ·simp at hi
 ·refine⟨b,hb,by rw[lA];simp[hi],?_⟩
  have:=eD hn hx 0 1 (by decide)
  simp -implicitDefEqProofs only[Nat.add_zero,List.drop_zero]at this
  rw[this,List.take_of_length_le (by rw[hn];omega)]
def yC (l:List Nat):Prop:=∀(i j a b:Nat),i<j→l[i]?=some a→l[j]?=some b→a<b
theorem acm (n0:Nat)(t:T)(l:List Nat)(x:Nat)(H:af)(hm:lB eU 1 n0 H t l)(hl:l.length<4611686018427387903)(hr:yC l) :
  W env (.call 103 [t,.int .u64 x]) H (fun o H'=>∃(i:Nat) (fd:Bool),o=.val (.bC [.int .i64 i,.bool fd])∧H'=H∧i≤l.length∧(∀p a,p<i→l[p]?=some a→a<x)∧∀p a,i≤p→l[p]?=some a→x≤a):=by
 refine W.bA rfl rfl rfl ?_
 have hlen:=hm.len
 simp -implicitDefEqProofs only[GD,op,ef,cl,sq,reduceIte,q1,q2,q3,q4,q5,q6,q7,q8,q9,S1,hlen]
 refine W.cO (fun (s:Nat×Nat) R H'=>H'=H∧R 0=t∧R 1=.int .u64 x∧R 6=.int .i64 l.length∧R 7=.int .i64 s.1∧R 8=.int .i64 s.2∧s.1≤s.2∧s.2≤l.length∧(∀p a,p<s.1→l[p]?=some a→a<x)∧∀p a,s.2≤p→l[p]?=some a→x≤a)
  (fun s=>s.2-s.1) (0,l.length) ⟨rfl,rfl,rfl,rfl,rfl,rfl,Nat.zero_le _,Nat.le_refl _,fun p a h=>by omega,fun p a h ha=>by rw[List.getElem?_eq_none h]at ha;cases ha⟩ ?_
 rintro⟨i,j⟩ R _ ⟨rfl,h0,h1,h6,h7,h8,sB,zM,lG,A8⟩
 simp -implicitDefEqProofs only[op,ef,cl,sq,reduceIte,q1,q2,q3,q4,q5,q6,q7,q8,q9,S1,h0,h1,h6,h7,h8]
 by_cases aq:i<j
 ·obtain⟨y,hy⟩:=bM (l:=l) (i:=(i+j)/2) (by omega)
  obtain⟨b,g1,g2,g3⟩:=pX (enc:=eU) (fun _=>rfl) hm hy
  simp -implicitDefEqProofs only[aq,op,ef,cl,sq,reduceIte,q1,q2,q3,q4,q5,q6,q7,q8,q9,S1,h0,h1,h6,h7,h8,half i j (by omega),aa,g1,g2,g3,eU]
  refine ae _ _ _ _ _ _ _ _ (Qq y x _) ?_
  rintro v H'⟨hv,rfl⟩
  cases hv
  simp -implicitDefEqProofs only[op,ef,cl,sq,reduceIte,q1,q2,q3,q4,q5,q6,q7,q8,q9,S1,h0,h1,h6,h7,h8]
  by_cases hc:y<x
  ·simp -implicitDefEqProofs only[op,ef,cl,sq,reduceIte,q1,q2,q3,q4,q5,q6,q7,q8,q9,S1,h0,h1,h6,h7,h8,hc,aw (show(i+j)/2<9223372036854775807 by omega)]
   refine⟨((i+j)/2+1,j),by omega,rfl,rfl,by omega,by omega,fun p a hp ha=>?_,A8⟩
   by_cases e:p=(i+j)/2
   ·subst e;rw[hy]at ha;cases ha;exact hc
   ·have:=hr p ((i+j)/2) a y (by omega) ha hy;omega
  ·simp -implicitDefEqProofs only[op,ef,cl,sq,reduceIte,q1,q2,q3,q4,q5,q6,q7,q8,q9,S1,h0,h1,h6,h7,h8,hc]
   refine⟨(i,(i+j)/2),by omega,rfl,rfl,by omega,by omega,lG,fun p a hp ha=>?_⟩
   by_cases e:p=(i+j)/2
   ·subst e;rw[hy]at ha;cases ha;omega
   ·have:=hr ((i+j)/2) p y a (by omega) hy ha;omega
 ·have Qr:i=j:=by simp only at sB;omega
  subst Qr
  by_cases iI:i<l.length
  ·obtain⟨y,hy⟩:=bM iI
   obtain⟨b,g1,g2,g3⟩:=pX (enc:=eU) (fun _=>rfl) hm hy
   by_cases Qs:y=x
   ·simp -implicitDefEqProofs only[op,ef,cl,sq,reduceIte,q1,q2,q3,q4,q5,q6,q7,q8,q9,S1,h0,h1,h6,h7,h8,aq,iI,aa,g1,g2,g3,eU,Qs]
    exact⟨i,true,rfl,zM,lG,A8⟩
   ·simp -implicitDefEqProofs only[op,ef,cl,sq,reduceIte,q1,q2,q3,q4,q5,q6,q7,q8,q9,S1,h0,h1,h6,h7,h8,aq,iI,aa,g1,g2,g3,eU,Qs]
    refine ae _ _ _ _ _ _ _ _ (Vx y _) ?_
    rintro v H'⟨hv,rfl⟩
    cases hv
    simp -implicitDefEqProofs only[op,ef,cl,sq,reduceIte,q1,q2,q3,q4,q5,q6,q7,q8,q9,S1]
    exact⟨i,false,rfl,zM,lG,A8⟩
  ·simp -implicitDefEqProofs only[op,ef,cl,sq,reduceIte,q1,q2,q3,q4,q5,q6,q7,q8,q9,S1,h0,h1,h6,h7,h8,aq,iI]
   exact⟨i,false,rfl,zM,lG,A8⟩
theorem VB (y x:Nat)(c:Nat)(H:af)(hc:H[c]?=some (.cells (eU x))):W env (.call 106 [(.int .u64 y),.ptr c 0]) H (kX (.bool (decide (y=x))) H):=by
 refine W.bA rfl rfl rfl ?_
 simp -implicitDefEqProofs only[GG,op,ef,cl,sq,reduceIte,q1,q2,q3,q4,q5,q6,q7,q8,q9,S1,hc,eU]
theorem VC (y x:ByteArray)(c:Nat)(H:af)(hc:H[c]?=some (.cells (eS x))):W env (.call 108 [(.str y),.ptr c 0]) H (kX (.bool (decide (y=x))) H):=by
 refine W.bA rfl rfl rfl ?_
 simp -implicitDefEqProofs only[GI,op,ef,cl,sq,reduceIte,q1,q2,q3,q4,q5,q6,q7,q8,q9,S1,hc,eS]
theorem VD (n0:Nat)(t:T)(l:List Nat)(x:Nat)(c:Nat)(H:af)(hc:H[c]?=some (.cells (eU x)))(hm:lB eU 1 n0 H t l)(hl:l.length<4611686018427387903) :
  W env (.call 128 [t,.fn 106 [.ptr c 0]]) H (fun o H'=>H'=H∧((x∉l∧o=.val (.int .i64 (-1)))∨∃i:Nat,o=.val (.int .i64 i)∧l[i]?=some x∧∀p a,p<i→l[p]?=some a→a≠x)):=by
 refine W.bA rfl rfl rfl ?_
 have hlen:=hm.len
 simp -implicitDefEqProofs only[GS,op,ef,cl,sq,reduceIte,q1,q2,q3,q4,q5,q6,q7,q8,q9,S1,hlen]
 refine W.cO (fun (i:Nat) R H'=>H'=H∧R 0=t∧R 1=.fn 106 [.ptr c 0]∧R 7=.int .i64 l.length∧R 8=.int .i64 i∧i≤l.length∧∀p a,p<i→l[p]?=some a→a≠x) (fun i=>l.length-i) 0 ⟨rfl,rfl,rfl,rfl,rfl,Nat.zero_le _,fun p a h=>by omega⟩ ?_
 rintro i R _⟨rfl,h0,h1,h7,h8,hi,fI⟩
 by_cases aq:i<l.length
 ·obtain⟨y,hy⟩:=bM aq
  obtain⟨b,g1,g2,g3⟩:=pX (enc:=eU) (fun _=>rfl) hm hy
  have ws:=aw (show i<9223372036854775807 by omega)
  simp -implicitDefEqProofs only[op,ef,cl,sq,reduceIte,q1,q2,q3,q4,q5,q6,q7,q8,q9,S1,h0,h1,h7,h8,aq,aa,g1,g2,g3,eU]
  refine Yo _ _ _ _ _ _ _ ?_
  simp -implicitDefEqProofs only[op,ef,cl,sq,reduceIte,q1,q2,q3,q4,q5,q6,q7,q8,q9,S1,h1,cG]
  refine ae _ _ _ _ _ _ _ _ (VB y x c _ hc) ?_
  rintro v H'⟨hv,rfl⟩
  cases hv
  by_cases e:y=x
  ·simp -implicitDefEqProofs only[op,ef,cl,sq,reduceIte,q1,q2,q3,q4,q5,q6,q7,q8,q9,S1,e]
   exact .inr ⟨i,rfl,by rw[hy,e],fI⟩
  ·simp -implicitDefEqProofs only[op,ef,cl,sq,reduceIte,q1,q2,q3,q4,q5,q6,q7,q8,q9,S1,h0,h1,h7,h8,e,ws]
   refine⟨i+1,by omega,rfl,by omega,fun p a hp ha=>?_⟩
   by_cases e':p=i
   ·subst e';rw[hy]at ha;cases ha;exact e
   ·exact fI p a (by omega) ha
 ·simp -implicitDefEqProofs only[op,ef,cl,sq,reduceIte,q1,q2,q3,q4,q5,q6,q7,q8,q9,S1,h0,h1,h7,h8,aq]
  refine .inl fun hm=>?_
  obtain⟨p,hp,e⟩:=List.getElem_of_mem hm
  exact fI p x (by omega) (by rw[List.getElem?_eq_getElem hp,e]) rfl
theorem VE (n0:Nat)(t:T)(l:List ByteArray)(x:ByteArray)(c:Nat)(H:af)(hc:H[c]?=some (.cells (eS x)))(hm:lB eS 1 n0 H t l)(hl:l.length<4611686018427387903) :
  W env (.call 129 [t,.fn 108 [.ptr c 0]]) H (fun o H'=>H'=H∧((x∉l∧o=.val (.int .i64 (-1)))∨∃i:Nat,o=.val (.int .i64 i)∧l[i]?=some x∧∀p a,p<i→l[p]?=some a→a≠x)):=by
 refine W.bA rfl rfl rfl ?_
 have hlen:=hm.len
 simp -implicitDefEqProofs only[GU,op,ef,cl,sq,reduceIte,q1,q2,q3,q4,q5,q6,q7,q8,q9,S1,hlen]
 refine W.cO (fun (i:Nat) R H'=>H'=H∧R 0=t∧R 1=.fn 108 [.ptr c 0]∧R 7=.int .i64 l.length∧R 8=.int .i64 i∧i≤l.length∧∀p a,p<i→l[p]?=some a→a≠x) (fun i=>l.length-i) 0 ⟨rfl,rfl,rfl,rfl,rfl,Nat.zero_le _,fun p a h=>by omega⟩ ?_
 rintro i R _⟨rfl,h0,h1,h7,h8,hi,fI⟩
 by_cases aq:i<l.length
 ·obtain⟨y,hy⟩:=bM aq
  obtain⟨b,g1,g2,g3⟩:=pX (enc:=eS) (fun _=>rfl) hm hy
  have ws:=aw (show i<9223372036854775807 by omega)
  simp -implicitDefEqProofs only[op,ef,cl,sq,reduceIte,q1,q2,q3,q4,q5,q6,q7,q8,q9,S1,h0,h1,h7,h8,aq,aa,g1,g2,g3,eS]
  refine Yo _ _ _ _ _ _ _ ?_
  simp -implicitDefEqProofs only[op,ef,cl,sq,reduceIte,q1,q2,q3,q4,q5,q6,q7,q8,q9,S1,h1,cG]
  refine ae _ _ _ _ _ _ _ _ (VC y x c _ hc) ?_
  rintro v H'⟨hv,rfl⟩
  cases hv
  by_cases e:y=x
  ·simp -implicitDefEqProofs only[op,ef,cl,sq,reduceIte,q1,q2,q3,q4,q5,q6,q7,q8,q9,S1,e]
   exact .inr ⟨i,rfl,by rw[hy,e],fI⟩
  ·simp -implicitDefEqProofs only[op,ef,cl,sq,reduceIte,q1,q2,q3,q4,q5,q6,q7,q8,q9,S1,h0,h1,h7,h8,e,ws]
   refine⟨i+1,by omega,rfl,by omega,fun p a hp ha=>?_⟩
   by_cases e':p=i
   ·subst e';rw[hy]at ha;cases ha;exact e
   ·exact fI p a (by omega) ha
 ·simp -implicitDefEqProofs only[op,ef,cl,sq,reduceIte,q1,q2,q3,q4,q5,q6,q7,q8,q9,S1,h0,h1,h7,h8,aq]
  refine .inl fun hm=>?_
  obtain⟨p,hp,e⟩:=List.getElem_of_mem hm
  exact fI p x (by omega) (by rw[List.getElem?_eq_getElem hp,e]) rfl
def eX {α:Type}[DecidableEq α](l:List α)(x:α):List α:=l.filter fun y=>!decide (y=x)
structure Cut {α:Type}[DecidableEq α](l arr:List α)(x:α)(i j:Nat):Prop where
 len:arr.length=l.length
 ij:i<j
 eJ:arr.take i=eX (l.take j) x
 rest:∀p,j≤p→arr[p]?=l[p]?
theorem Cut.start {α:Type}[DecidableEq α]{l:List α}{x:α}{i:Nat}(hi:l[i]?=some x)(fI:∀p a,p<i→l[p]?=some a→a≠x):Cut l l x i (i+1):=by
 refine⟨rfl,by omega,?_,fun _ _=>rfl⟩
 rw[b6 hi,eX,List.filter_append]
 have h1:(l.take i).filter (fun y=>!decide (y=x))=l.take i:=List.filter_eq_self.2 fun a ha=>by
  obtain⟨p,hp,e⟩:=List.getElem_of_mem ha
  have xg:p<i∧p<l.length:=by simp -implicitDefEqProofs only[List.length_take]at hp;omega
  have:=fI p a xg.1 (by rw[←e];simp[List.getElem?_eq_getElem xg.2])
  simp[this]
 rw[h1];simp
theorem Cut.same {α:Type}[DecidableEq α]{l arr:List α}{x:α}{i j:Nat}(h:Cut l arr x i j)(hx:l[j]?=some x):Cut l arr x i (j+1):=by
 refine⟨h.len,by have:=h.ij;omega,?_,fun p hp=>h.rest p (by omega)⟩
 rw[b6 hx,eX,List.filter_append,h.eJ];simp[eX]
theorem Cut.move {α:Type}[DecidableEq α]{l arr:List α}{x y:α}{i j:Nat}(h:Cut l arr x i j)(hy:l[j]?=some y)(bF:y≠x):Cut l (arr.set i y) x (i+1) (j+1):=by
 have hj:=(List.getElem?_eq_some_iff.1 hy).1
 have hi:i<arr.length:=by have:=h.ij;rw[h.len];omega
 refine⟨by simp[h.len],by have:=h.ij;omega,?_,fun p hp=>by rw[List.getElem?_set_ne (by have:=h.ij;omega)];exact h.rest p (by omega)⟩
 have e1:(arr.set i y).take (i+1)=arr.take i++[y]:=by
  rw[b6 (x:=y) (by rw[List.getElem?_set_self hi]),List.take_set_of_le (Nat.le_refl _)]
 rw[e1,h.eJ,b6 hy]
 simp[eX,bF]
theorem Cut.C8 {α:Type}[DecidableEq α]{l arr:List α}{x:α}{i:Nat}(h:Cut l arr x i l.length):arr.take i=eX l x:=by
 rw[h.eJ,List.take_length]
def Lj {α:Type}[DecidableEq α](enc:α→List T)(b:Nat)(l:List α)(x:α)(H:af):Out→af→Prop:=fun o H'=>o=.val (.aC b 0 (eX l x).length 1)∧H'[b]?=some (.cells (aP enc (eX l x)))∧a6 (fun c=>c=b) H H'
theorem BP {α:Type}[DecidableEq α]{l:List α}{x:α}(h:x∉l):eX l x=l:=List.filter_eq_self.2 fun a ha=>by
 have:a≠x:=by rintro rfl;exact h ha
 simp[this]
theorem VF (b:Nat)(l:List Nat)(x:Nat)(c:Nat)(H:af)(hc:H[c]?=some (.cells (eU x)))(hb:H[b]?=some (.cells (aP eU l)))(bF:c≠b)(hl:l.length<4611686018427387903) :
  W env (.call 105 [.aC b 0 l.length 1,.fn 106 [.ptr c 0]]) H (Lj eU b l x H):=by
 refine .shr (fun o H'=>∃n:Nat,o=.val (.aC b 0 (eX l x).length 1)∧∃cs,H'[b]?=some (.cells cs)∧cs.take n=aP eU (eX l x)∧a6 (fun c=>c=b) H H') ?_ ?_
 rotate_left
 ·rintro o H'⟨n,ho,cs,h1,h2,h3⟩
  refine⟨_,b,cs,n,ho,rfl,h1,rfl,by rw[h2];exact bQ (aQ h1),h3.set (.inl rfl) _⟩
 refine W.bA rfl rfl rfl ?_
 simp -implicitDefEqProofs only[GF,op,ef,cl,sq,reduceIte,q1,q2,q3,q4,q5,q6,q7,q8,q9,S1]
 refine ae _ _ _ _ _ _ _ _ (VD 0 _ l x c H hc (.inr ⟨b,rfl,hb,Nat.zero_le _⟩) hl) ?_
 rintro u H1⟨rfl,⟨fI,hu⟩|⟨i,hu,hi,Qt⟩⟩
 ·cases hu
  have e:((-1:Int)==-1)=true:=rfl
  simp -implicitDefEqProofs only[op,ef,cl,sq,reduceIte,q1,q2,q3,q4,q5,q6,q7,q8,q9,S1]
  rw[BP fI]
  exact⟨l.length,rfl,_,hb,List.take_of_length_le (by rw[dy (enc:=eU) (n:=1) (fun _=>rfl)];omega),a6.refl _ _⟩
 cases hu
 have mc:=(List.getElem?_eq_some_iff.1 hi).1
 have C9:¬((i:Int)=-1):=by omega
 have ws:=aw (show i<9223372036854775807 by omega)
 have e1:((i:Int)==-1)=false:=by simpa using C9
 simp -implicitDefEqProofs only[op,ef,cl,sq,reduceIte,q1,q2,q3,q4,q5,q6,q7,q8,q9,S1,e1,ws]
 refine W.cO (fun (s:Nat×Nat) R H'=>At H' (fun H'=>∃arr,H'[b]?=some (.cells (aP eU arr))∧Cut l arr x s.1 s.2∧a6 (fun c=>c=b) H1 H')∧R 0=.aC b 0 l.length 1∧R 1=.fn 106 [.ptr c 0]∧R 5=.int .i64 s.1∧R 6=.int .i64 s.2∧s.2≤l.length) (fun s=>l.length-s.2) (i,i+1) ⟨.i ⟨l,hb,Cut.start hi Qt,a6.refl _ _⟩,rfl,rfl,rfl,rfl,by simp only;omega⟩ ?_
 rintro⟨i,j⟩ R H2 ⟨⟨arr,lP,kZ,av⟩,h0,h1,h5,h6,hj⟩
 have sB:=kZ.ij
 by_cases aq:j<l.length
 ·obtain⟨y,hy⟩:=bM aq
  have hya:arr[j]?=some y:=by rw[kZ.rest j (Nat.le_refl _)];exact hy
  have g1:dK 1 j (.aC b 0 l.length 1)=some (.ptr b (j*1)):=by rw[lA];simp[aq]
  have nY:i<l.length:=by simp only at sB;omega
  have g4:dK 1 i (.aC b 0 l.length 1)=some (.ptr b (i*1)):=by rw[lA];simp[nY]
  obtain⟨z,hz⟩:=bM (l:=arr) (i:=i) (by rw[kZ.len];exact nY)
  have g2:=eD (enc:=eU) (n:=1) (fun _=>rfl) hya 0 1 (by decide)
  have g3:=fun Hx=>mT (enc:=eU) (n:=1) (y:=y) (fun _=>rfl) hz Hx b (eU y) 0 (by simp[eU]) (by simp[eU])
  simp -implicitDefEqProofs only[Nat.add_zero,List.drop_zero,eU,List.take_succ_cons,List.take_zero]at g2 g3
  have pB:H2[c]?=some (.cells (eU x)):=av.get hc bF
  have ws:=aw (show j<9223372036854775807 by omega)
  have wi:=aw (show i<9223372036854775807 by omega)
  simp -implicitDefEqProofs only[op,ef,cl,sq,reduceIte,q1,q2,q3,q4,q5,q6,q7,q8,q9,S1,h0,h1,h5,h6,aq,aa,g1,lP,g2,eU]
  refine Yo _ _ _ _ _ _ _ ?_
  simp -implicitDefEqProofs only[op,ef,cl,sq,reduceIte,q1,q2,q3,q4,q5,q6,q7,q8,q9,S1,h1,cG]
  refine ae _ _ _ _ _ _ _ _ (VB y x c _ pB) ?_
  rintro v H3⟨hv,rfl⟩
  cases hv
  by_cases e:y=x
  ·simp -implicitDefEqProofs only[op,ef,cl,sq,reduceIte,q1,q2,q3,q4,q5,q6,q7,q8,q9,S1,h0,h1,h5,h6,e,ws]
   exact⟨(i,j+1),by simp only;omega,.i ⟨arr,lP,kZ.same (e▸hy),av⟩,rfl,rfl,by simp only;omega⟩
  ·simp -implicitDefEqProofs only[op,ef,cl,sq,reduceIte,q1,q2,q3,q4,q5,q6,q7,q8,q9,S1,h0,h1,h5,h6,e,aa,g4,lP,g3,ws,wi]
   exact⟨(i+1,j+1),by simp only;omega,.i ⟨_,bQ (aQ lP),kZ.move hy e,av.set (.inl rfl) _⟩,rfl,rfl,by simp only;omega⟩
 ·have SA:j=l.length:=by simp only at hj;omega
  subst SA
  have nY:i<l.length:=by simpa using sB
  have hle:i≤l.length:=by omega
  have e2:¬(i=l.length):=by omega
  have mM:(aP eU arr).length=l.length:=by rw[dy (enc:=eU) (n:=1) (fun _=>rfl),kZ.len];omega
  have e3:i*1+(l.length-i)*1≤(aP eU arr).length:=by rw[mM];omega
  simp -implicitDefEqProofs only[op,ef,cl,sq,reduceIte,q1,q2,q3,q4,q5,q6,q7,q8,q9,S1,h0,h1,h5,h6,aq,aa,Nat.le_refl,hle,e2,and_self,oO,lP,K1,e3]
  have hw:=kZ.C8
  have zo:(eX l x).length=i:=by rw[←hw,List.length_take,kZ.len];omega
  have Ht:∀m:List T,(((aP eU arr).take (i*1))++m).take (i*1)=aP eU (eX l x):=fun m=>by
   rw[List.take_append_of_le_length (by rw[List.length_take,mM];omega),List.take_take,Nat.min_self,←hw,kc (n:=1) (fun _=>rfl)]
  by_cases mB:i=0
  ·subst mB
   simp -implicitDefEqProofs only[op,ef,cl,sq,reduceIte,q1,q2,q3,q4,q5,q6,q7,q8,q9,S1,h0,h5,aa,hle,Nat.zero_le,Nat.le_refl,and_self]
   refine⟨0*1,by rw[zo],_,bQ (aQ lP),?_,av.set (.inl rfl) _⟩
   rw[List.append_assoc];exact Ht _
  ·have h0i:¬(0=i):=fun e=>mB e.symm
   simp -implicitDefEqProofs only[op,ef,cl,sq,reduceIte,q1,q2,q3,q4,q5,q6,q7,q8,q9,S1,h0,h5,aa,h0i,hle,Nat.zero_le,Nat.le_refl,and_self]
   refine⟨i*1,by rw[zo];simp,_,bQ (aQ lP),?_,av.set (.inl rfl) _⟩
   rw[List.append_assoc];exact Ht _
theorem VG (b:Nat)(l:List ByteArray)(x:ByteArray)(c:Nat)(H:af)(hc:H[c]?=some (.cells (eS x)))(hb:H[b]?=some (.cells (aP eS l)))(bF:c≠b)(hl:l.length<4611686018427387903) :
  W env (.call 107 [.aC b 0 l.length 1,.fn 108 [.ptr c 0]]) H (Lj eS b l x H):=by
 refine .shr (fun o H'=>∃n:Nat,o=.val (.aC b 0 (eX l x).length 1)∧∃cs,H'[b]?=some (.cells cs)∧cs.take n=aP eS (eX l x)∧a6 (fun c=>c=b) H H') ?_ ?_
 rotate_left
 ·rintro o H'⟨n,ho,cs,h1,h2,h3⟩
  refine⟨_,b,cs,n,ho,rfl,h1,rfl,by rw[h2];exact bQ (aQ h1),h3.set (.inl rfl) _⟩
 refine W.bA rfl rfl rfl ?_
 simp -implicitDefEqProofs only[GH,op,ef,cl,sq,reduceIte,q1,q2,q3,q4,q5,q6,q7,q8,q9,S1]
 refine ae _ _ _ _ _ _ _ _ (VE 0 _ l x c H hc (.inr ⟨b,rfl,hb,Nat.zero_le _⟩) hl) ?_
 rintro u H1⟨rfl,⟨fI,hu⟩|⟨i,hu,hi,Qt⟩⟩
 ·cases hu
  have e:((-1:Int)==-1)=true:=rfl
  simp -implicitDefEqProofs only[op,ef,cl,sq,reduceIte,q1,q2,q3,q4,q5,q6,q7,q8,q9,S1]
  rw[BP fI]
  exact⟨l.length,rfl,_,hb,List.take_of_length_le (by rw[dy (enc:=eS) (n:=1) (fun _=>rfl)];omega),a6.refl _ _⟩
 cases hu
 have mc:=(List.getElem?_eq_some_iff.1 hi).1
 have C9:¬((i:Int)=-1):=by omega
 have ws:=aw (show i<9223372036854775807 by omega)
 have e1:((i:Int)==-1)=false:=by simpa using C9
 simp -implicitDefEqProofs only[op,ef,cl,sq,reduceIte,q1,q2,q3,q4,q5,q6,q7,q8,q9,S1,e1,ws]
 refine W.cO (fun (s:Nat×Nat) R H'=>At H' (fun H'=>∃arr,H'[b]?=some (.cells (aP eS arr))∧Cut l arr x s.1 s.2∧a6 (fun c=>c=b) H1 H')∧R 0=.aC b 0 l.length 1∧R 1=.fn 108 [.ptr c 0]∧R 5=.int .i64 s.1∧R 6=.int .i64 s.2∧s.2≤l.length) (fun s=>l.length-s.2) (i,i+1) ⟨.i ⟨l,hb,Cut.start hi Qt,a6.refl _ _⟩,rfl,rfl,rfl,rfl,by simp only;omega⟩ ?_
 rintro⟨i,j⟩ R H2 ⟨⟨arr,lP,kZ,av⟩,h0,h1,h5,h6,hj⟩
 have sB:=kZ.ij
 by_cases aq:j<l.length
 ·obtain⟨y,hy⟩:=bM aq
  have hya:arr[j]?=some y:=by rw[kZ.rest j (Nat.le_refl _)];exact hy
  have g1:dK 1 j (.aC b 0 l.length 1)=some (.ptr b (j*1)):=by rw[lA];simp[aq]
  have nY:i<l.length:=by simp only at sB;omega
  have g4:dK 1 i (.aC b 0 l.length 1)=some (.ptr b (i*1)):=by rw[lA];simp[nY]
  obtain⟨z,hz⟩:=bM (l:=arr) (i:=i) (by rw[kZ.len];exact nY)
  have g2:=eD (enc:=eS) (n:=1) (fun _=>rfl) hya 0 1 (by decide)
  have g3:=fun Hx=>mT (enc:=eS) (n:=1) (y:=y) (fun _=>rfl) hz Hx b (eS y) 0 (by simp[eS]) (by simp[eS])
  simp -implicitDefEqProofs only[Nat.add_zero,List.drop_zero,eS,List.take_succ_cons,List.take_zero]at g2 g3
  have pB:H2[c]?=some (.cells (eS x)):=av.get hc bF
  have ws:=aw (show j<9223372036854775807 by omega)
  have wi:=aw (show i<9223372036854775807 by omega)
  simp -implicitDefEqProofs only[op,ef,cl,sq,reduceIte,q1,q2,q3,q4,q5,q6,q7,q8,q9,S1,h0,h1,h5,h6,aq,aa,g1,lP,g2,eS]
  refine Yo _ _ _ _ _ _ _ ?_
  simp -implicitDefEqProofs only[op,ef,cl,sq,reduceIte,q1,q2,q3,q4,q5,q6,q7,q8,q9,S1,h1,cG]
  refine ae _ _ _ _ _ _ _ _ (VC y x c _ pB) ?_
  rintro v H3⟨hv,rfl⟩
  cases hv
  by_cases e:y=x
  ·simp -implicitDefEqProofs only[op,ef,cl,sq,reduceIte,q1,q2,q3,q4,q5,q6,q7,q8,q9,S1,h0,h1,h5,h6,e,ws]
   exact⟨(i,j+1),by simp only;omega,.i ⟨arr,lP,kZ.same (e▸hy),av⟩,rfl,rfl,by simp only;omega⟩
  ·simp -implicitDefEqProofs only[op,ef,cl,sq,reduceIte,q1,q2,q3,q4,q5,q6,q7,q8,q9,S1,h0,h1,h5,h6,e,aa,g4,lP,g3,ws,wi]
   exact⟨(i+1,j+1),by simp only;omega,.i ⟨_,bQ (aQ lP),kZ.move hy e,av.set (.inl rfl) _⟩,rfl,rfl,by simp only;omega⟩
 ·have SA:j=l.length:=by simp only at hj;omega
  subst SA
  have nY:i<l.length:=by simpa using sB
  have hle:i≤l.length:=by omega
  have e2:¬(i=l.length):=by omega
  have mM:(aP eS arr).length=l.length:=by rw[dy (enc:=eS) (n:=1) (fun _=>rfl),kZ.len];omega
  have e3:i*1+(l.length-i)*1≤(aP eS arr).length:=by rw[mM];omega
  simp -implicitDefEqProofs only[op,ef,cl,sq,reduceIte,q1,q2,q3,q4,q5,q6,q7,q8,q9,S1,h0,h1,h5,h6,aq,aa,Nat.le_refl,hle,e2,and_self,oO,lP,K1,e3]
  have hw:=kZ.C8
  have zo:(eX l x).length=i:=by rw[←hw,List.length_take,kZ.len];omega
  have Ht:∀m:List T,(((aP eS arr).take (i*1))++m).take (i*1)=aP eS (eX l x):=fun m=>by
   rw[List.take_append_of_le_length (by rw[List.length_take,mM];omega),List.take_take,Nat.min_self,←hw,kc (n:=1) (fun _=>rfl)]
  by_cases mB:i=0
  ·subst mB
   simp -implicitDefEqProofs only[op,ef,cl,sq,reduceIte,q1,q2,q3,q4,q5,q6,q7,q8,q9,S1,h0,h5,aa,hle,Nat.zero_le,Nat.le_refl,and_self]
   refine⟨0*1,by rw[zo],_,bQ (aQ lP),?_,av.set (.inl rfl) _⟩
   rw[List.append_assoc];exact Ht _
  ·have h0i:¬(0=i):=fun e=>mB e.symm
   simp -implicitDefEqProofs only[op,ef,cl,sq,reduceIte,q1,q2,q3,q4,q5,q6,q7,q8,q9,S1,h0,h5,aa,h0i,hle,Nat.zero_le,Nat.le_refl,and_self]
   refine⟨i*1,by rw[zo];simp,_,bQ (aQ lP),?_,av.set (.inl rfl) _⟩
   rw[List.append_assoc];exact Ht _
theorem acp (b:Nat)(l:List Nat)(x:Nat)(H:af)(hb:H[b]?=some (.cells (aP eU l)))(hl:l.length<4611686018427387903):W env (.call 70 [.aC b 0 l.length 1,(.int .u64 x)]) H (Lj eU b l x H):=by
 refine W.bA rfl rfl rfl ?_
 have hlb:=aQ hb
 simp -implicitDefEqProofs only[P3,op,ef,cl,sq,reduceIte,q1,q2,q3,q4,q5,q6,q7,q8,q9,S1]
 refine ae _ _ _ _ _ _ _ _ (VF b l x H.length _ (by rw[aE rfl];rfl) (by rw[aR hlb];exact hb) (by omega) hl) ?_
 rintro u H1⟨hu,h1,h2⟩
 cases hu
 simp -implicitDefEqProofs only[op,ef,cl,sq,reduceIte,q1,q2,q3,q4,q5,q6,q7,q8,q9,S1]
 exact⟨rfl,h1,(aB (Ext.rfl'.app _)).trans h2 fun c h=>.inl h⟩
theorem acr (b:Nat)(l:List ByteArray)(x:ByteArray)(H:af)(hb:H[b]?=some (.cells (aP eS l)))(hl:l.length<4611686018427387903):W env (.call 71 [.aC b 0 l.length 1,(.str x)]) H (Lj eS b l x H):=by
 refine W.bA rfl rfl rfl ?_
 have hlb:=aQ hb
 simp -implicitDefEqProofs only[P4,op,ef,cl,sq,reduceIte,q1,q2,q3,q4,q5,q6,q7,q8,q9,S1]
 refine ae _ _ _ _ _ _ _ _ (VG b l x H.length _ (by rw[aE rfl];rfl) (by rw[aR hlb];exact hb) (by omega) hl) ?_
 rintro u H1⟨hu,h1,h2⟩
 cases hu
 simp -implicitDefEqProofs only[op,ef,cl,sq,reduceIte,q1,q2,q3,q4,q5,q6,q7,q8,q9,S1]
 exact⟨rfl,h1,(aB (Ext.rfl'.app _)).trans h2 fun c h=>.inl h⟩
theorem VH (t:T)(l:List Nat)(i x bv:Nat)(H:af)(hm:lB eU 1 0 H t l)(hv:H[bv]?=some (.cells (eU x)))(bF:∀off len n,t≠.aC bv off len n)(hi:i≤l.length)(hl:l.length≤16777215) :
  W env (.call 104 [t,.int .i64 i,.aC bv 0 1 1]) H (Pf eU 1 0 H t (l.take i++x :: l.drop i)):=by
 rcases hm with⟨rfl,rfl⟩|⟨b,rfl,hb,K5⟩
 ·have mB:i=0:=by simpa using hi
  subst mB
  exact K4 (f:=104) (bytes:=8) (fr:=127) (enc:=eU) (fun _=>rfl) (by decide) 0 rfl 0 bv x H (Nat.zero_le _) hv (sA (by omega) (by omega))
 ·exact K6 (f:=104) (bytes:=8) (fr:=127) (enc:=eU) (fun _=>rfl) (by decide) 0 rfl 0 bv b i x l H (Nat.zero_le _) hv hb K5 (fun h=>bF 0 l.length 1 (by rw[h])) hi (by omega) (sA (by omega) (by omega))
section
variable {α β γ:Type} [DecidableEq α]
theorem gE (f:β→γ)(es:List (α×β))(k:α):aj (es.map fun e=>(e.1,f e.2)) k=(aj es k).map f:=by
 induction es with
 | nil=>rfl
 | cons e es ih=>simp -implicitDefEqProofs only[List.map_cons,bK,ih];split<;>rfl
theorem oS (f:β→γ)(es:List (α×β))(k:α)(v:β):cD (es.map fun e=>(e.1,f e.2)) k (f v)=(cD es k v).map fun e=>(e.1,f e.2):=by
 induction es with
 | nil=>rfl
 | cons e es ih=>simp -implicitDefEqProofs only[List.map_cons,pU,ih];split<;>simp
theorem Da {es:List (α×β)}{k:α}{v:β}(h:aj es k=some v):(k,v)∈es:=by
 induction es with
 | nil=>cases h
 | cons e es ih =>
  rw[bK]at h
  split at h
  ·rename_i hk;cases h;subst hk;exact List.mem_cons_self
  ·exact List.mem_cons_of_mem _ (ih h)
theorem cz {es:List (α×β)}{k:α}:aj es k=none↔k∉es.map (·.1):=by
 induction es with
 | nil=>simp[eg]
 | cons e es ih =>
  rw[bK]
  by_cases hk:k=e.1
  ·simp[hk]
  ·simp -implicitDefEqProofs only[hk,if_false,ih,List.map_cons,List.mem_cons,false_or]
theorem Db (es:List (α×β))(k:α)(v:β):(cD es k v).map (·.1)=if k∈es.map (·.1)then es.map (·.1)else es.map (·.1)++[k]:=by
 induction es with
 | nil=>rfl
 | cons e es ih =>
  rw[pU]
  by_cases hk:k=e.1
  ·simp[hk]
  ·simp -implicitDefEqProofs only[hk,if_false,List.map_cons,ih,List.mem_cons,false_or]
   split<;>simp
theorem dp {es:List (α×β)}(h:(es.map (·.1)).Nodup)(k:α)(v:β):((cD es k v).map (·.1)).Nodup:=by
 rw[Db];split
 ·exact h
 ·rename_i hk;rw[List.nodup_append];exact⟨h,by simp,fun a ha b hb=>by simp at hb;subst hb;rintro rfl;exact hk ha⟩
theorem uZ (e:α×T)(es:List (α×T))(k:α):qE (e :: es) k=if k=e.1 then es else e :: qE es k:=by
 unfold qE
 rw[List.findIdx?_cons]
 by_cases hk:k=e.1
 ·simp[hk]
 ·simp -implicitDefEqProofs only[hk,decide_false,if_false,Bool.false_eq_true]
  cases List.findIdx? (fun e=>decide (k=e.1)) es<;>simp
theorem mW {es:List (α×T)}(h:(es.map (·.1)).Nodup)(k k':α):aj (qE es k) k'=if k'=k then none else aj es k':=by
 induction es with
 | nil=>simp[qE,eg]
 | cons e es ih =>
  rw[List.map_cons,List.nodup_cons]at h
  rw[uZ]
  by_cases hk:k=e.1
  ·subst hk
   by_cases kv:k'=e.1
   ·subst kv;simp -implicitDefEqProofs only[if_true];exact cz.2 h.1
   ·simp[bK,kv]
  ·simp -implicitDefEqProofs only[hk,if_false,bK,ih h.2]
   by_cases kv:k'=e.1
   ·subst kv;simp[Ne.symm hk]
   ·simp[kv]
theorem z9 {es:List (α×T)}(h:(es.map (·.1)).Nodup)(k:α):((qE es k).map (·.1)).Nodup:=by
 induction es with
 | nil=>simp[qE]
 | cons e es ih =>
  rw[List.map_cons,List.nodup_cons]at h
  rw[uZ];split
  ·exact h.2
  ·rw[List.map_cons,List.nodup_cons]
   refine⟨fun hm=>h.1 ?_,ih h.2⟩
   have:aj (qE es k) e.1≠none:=fun hn=>cz.1 hn hm
   rw[mW h.2]at this
   split at this
   ·exact absurd rfl this
   ·exact Classical.byContradiction fun hh=>this (cz.2 hh)
end
structure Hd where
 value:ByteArray
 kk:SK
 keys:List ByteArray
 a9:Int
def fC (h:Hd):T:=.agg [.str h.value,.sl h.kk (h.keys.map eS),.int .i64 h.a9]
def eE (vs:List (Nm×Hd)):List (Nm×T):=vs.map fun e=>(e.1,fC e.2)
def lJ (ls:List (ByteArray×Nat)):List (ByteArray×T):=ls.map fun e=>(e.1,T.int .u64 e.2)
structure dH where
 vs:List (Nm×Hd)
 ls:List (ByteArray×Nat)
 ids:ByteArray→List Nat
 dM:Nat→List ByteArray
 n:Nat
structure gV (s:dH):Prop where
 yD:∀k,yC (s.ids k)
 Jp:∀k n,n∈s.ids k↔(aj s.vs (k,n)).isSome=true
 Qu:∀n,(s.dM n).Nodup
 Lk:∀n k,k∈s.dM n↔(aj s.vs (k,n)).isSome=true
 nd:(s.vs.map (·.1)).Nodup
 VI:∀m h,aj s.vs m=some h→gI h.kk h.keys∧h.keys.length≤1024
 bi:∀k,(s.ids k).length≤s.n
 bp:∀n,(s.dM n).length≤s.n
 Aa:(s.ls.map (·.1)).Nodup
def Jq {α:Type}(enc:α→List T)(F:Nat→Prop)(H:af)(o:Option T)(l:List α):Prop:=match o with
 | .none=>l=[]
 | some t=>∃b,t=.aC b 0 l.length 1∧H[b]?=some (.cells (aP enc l))∧F b
def eG:Option T→Option Nat
 | some (.aC b _ _ _)=>some b
 | _=>.none
theorem Jq.mut {α:Type}{enc:α→List T}{F:Nat→Prop}{H:af}{o:Option T}{l:List α}(h:Jq enc F H o l):lB enc 1 0 H (jK o (.sl .nil []) false) l:=by
 cases o with
 | none=>have h:l=[]:=h;exact .inl ⟨h,rfl⟩
 | some t=>obtain⟨b,rfl,h1,_⟩:=h;exact .inr ⟨b,rfl,h1,Nat.zero_le _⟩
theorem Jq.eJ {α:Type}{enc:α→List T}{F F':Nat→Prop}{H H':af}{o:Option T}{l:List α}(h:Jq enc F H o l)(hk:∀b x,eG o=some b→H[b]?=some x→H'[b]?=some x)(hF:∀b,eG o=some b→F b→F' b):Jq enc F' H' o l:=by
 cases o with
 | none=>exact h
 | some t=>obtain⟨b,rfl,h1,h2⟩:=h;exact⟨b,rfl,hk b _ rfl h1,hF b rfl h2⟩
theorem Jq.cells {α:Type}{enc:α→List T}{F:Nat→Prop}{H:af}{o:Option T}{l:List α}(h:Jq enc F H o l){b:Nat}(hb:eG o=some b):H[b]?=some (.cells (aP enc l))∧F b:=by
 cases o with
 | none=>cases hb
 | some t=>obtain⟨b',rfl,h1,h2⟩:=h;cases hb;exact⟨h1,h2⟩
structure Bk where
 s:Nat
 v:Nat
 i:Nat
 p:Nat
 l:Nat
structure u2 (H:af)(b:Bk)(im:List (ByteArray×T))(pm:List (Nat×T))(s:dH)(F:Nat→Prop):Prop where
 hs:H[b.s]?=some (.cells [.map b.v,.map b.i,.map b.p,.map b.l])
 hv:H[b.v]?=some (.map (bl kN (eE s.vs)))
 hi:H[b.i]?=some (.map (bl T.str im))
 hp:H[b.p]?=some (.map (bl kU pm))
 hl:H[b.l]?=some (.map (bl T.str (lJ s.ls)))
 vi:b.v≠b.i
 vp:b.v≠b.p
 vl:b.v≠b.l
 ip:b.i≠b.p
 il:b.i≠b.l
 pl:b.p≠b.l
 F0:F b.s∧F b.v∧F b.i∧F b.p∧F b.l
 oi:∀k,Jq eU F H (aj im k) (s.ids k)
 op:∀n,Jq eS F H (aj pm n) (s.dM n)
 si:∀k k' c,eG (aj im k)=some c→eG (aj im k')=some c→k=k'
 sp:∀n n' c,eG (aj pm n)=some c→eG (aj pm n')=some c→n=n'
 sx:∀k n c,eG (aj im k)=some c→eG (aj pm n)=some c→False
 np:(pm.map (·.1)).Nodup
def SH (H:af)(b:Bk)(s:dH)(F:Nat→Prop):Prop:=∃im pm,u2 H b im pm s F
theorem fu {H:af}{b c:Nat}{es:List (T×T)}{cs:List T}(h:H[b]?=some (.map es))(h':H[c]?=some (.cells cs)):b≠c:=by rintro rfl;rw[h]at h';cases h'
theorem u2.ne {H:af}{b:Bk}{im:List (ByteArray×T)}{pm:List (Nat×T)}{s:dH}{F:Nat→Prop}(h:u2 H b im pm s F):b.v≠b.s∧b.i≠b.s∧b.p≠b.s∧b.l≠b.s:=⟨fu h.hv h.hs,fu h.hi h.hs,fu h.hp h.hs,fu h.hl h.hs⟩
theorem BQ {α:Type}{enc:α→List T}(hn:∀x,∃t,enc x=[t]∧∀b,t≠.map b){l:List α}{a b c d:Nat}:aP enc l≠[.map a,.map b,.map c,.map d]:=by
 intro h
 cases l with
 | nil=>simp[aP]at h
 | cons x l =>
  obtain⟨t,ht,hm⟩:=hn x
  simp -implicitDefEqProofs only[aP,List.flatMap_cons,ht,List.cons_append,List.nil_append,List.cons.injEq]at h
  exact hm _ h.1
theorem u2.jL {H:af}{b:Bk}{im:List (ByteArray×T)}{pm:List (Nat×T)}{s:dH}{F:Nat→Prop}(h:u2 H b im pm s F){k:ByteArray}{c:Nat}(hc:eG (aj im k)=some c):c≠b.s∧c≠b.v∧c≠b.i∧c≠b.p∧c≠b.l∧F c∧c<H.length:=by
 obtain⟨h1,h2⟩:=(h.oi k).cells hc
 refine⟨?_,Ne.symm (fu h.hv h1),Ne.symm (fu h.hi h1),Ne.symm (fu h.hp h1),Ne.symm (fu h.hl h1),h2,aQ h1⟩
 rintro rfl
 rw[h.hs]at h1
 exact BQ (enc:=eU) (fun x=>⟨_,rfl,fun _ h=>by cases h⟩) (B.cells.inj (Option.some.inj h1)).symm
theorem u2.lK {H:af}{b:Bk}{im:List (ByteArray×T)}{pm:List (Nat×T)}{s:dH}{F:Nat→Prop}(h:u2 H b im pm s F){n:Nat}{c:Nat}(hc:eG (aj pm n)=some c):c≠b.s∧c≠b.v∧c≠b.i∧c≠b.p∧c≠b.l∧F c∧c<H.length:=by
 obtain⟨h1,h2⟩:=(h.op n).cells hc
 refine⟨?_,Ne.symm (fu h.hv h1),Ne.symm (fu h.hi h1),Ne.symm (fu h.hp h1),Ne.symm (fu h.hl h1),h2,aQ h1⟩
 rintro rfl
 rw[h.hs]at h1
 exact BQ (enc:=eS) (fun x=>⟨_,rfl,fun _ h=>by cases h⟩) (B.cells.inj (Option.some.inj h1)).symm
theorem u2.hO {H H':af}{b:Bk}{im:List (ByteArray×T)}{pm:List (Nat×T)}{s:dH}{F G:Nat→Prop}(h:u2 H b im pm s F)(hf:a6 G H H')(hg:∀c,F c→c<H.length→¬G c):u2 H' b im pm s F:=by
 obtain⟨f0,f1,f2,f3,f4⟩:=h.F0
 have k:∀{c x},F c→H[c]?=some x→H'[c]?=some x:=fun hF hx=>hf.get hx (hg _ hF (aQ hx))
 exact⟨k f0 h.hs,k f1 h.hv,k f2 h.hi,k f3 h.hp,k f4 h.hl,h.vi,h.vp,h.vl,h.ip,h.il,h.pl,h.F0,
  fun q=>(h.oi q).eJ (fun c x hc hx=>k (h.jL hc).2.2.2.2.2.1 hx) (fun _ _ h=>h),fun q=>(h.op q).eJ (fun c x hc hx=>k (h.lK hc).2.2.2.2.2.1 hx) (fun _ _ h=>h),h.si,h.sp,h.sx,h.np⟩
end Go.Proofs.YtdcpehdijdllpaaGreat.St
end
