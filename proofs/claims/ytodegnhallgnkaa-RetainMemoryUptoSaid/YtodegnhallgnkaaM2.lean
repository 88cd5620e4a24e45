/- Part of a proof of a law of this seat: the machine of plain values, its simulation, and the contracts of the functions that the law reaches. Conditions: none beyond the given row. -/
import Derived.Test.YtodegnhallgnkaaM1
import Derived.Test.YtodegnhallgnkaaProg
import Derived.KernelRfl
open Int renaming reduceLT → q4, reduceLE → q5, reduceBEq → q6, reduceBNe → q7, reduceEq → q8
open Nat renaming reduceAdd → j1, reduceLeDiff → j2, reduceLT → j3, reduceEqDiff → j4
set_option linter.unusedSimpArgs false
set_option linter.unusedVariables false
set_option linter.unnecessarySimpa false
set_option maxHeartbeats 4000000
section
namespace Go.Rmp
section
variable {α:Type} {enc:α→List T} {n:Nat}
def aJ (enc:α→List T)(xs:List α):List T:=xs.flatMap enc
theorem cO (hn:∀x,(enc x).length=n):∀xs:List α,(aJ enc xs).length=xs.length*n
 | []=>by simp[aJ]
 | x :: xs=>by
  have:=cO hn xs
  simp only[aJ,List.flatMap_cons,List.length_append,hn,List.length_cons]at this ⊢
  rw[this,Nat.add_mul];omega
theorem iZ (hn:∀x,(enc x).length=n):∀(xs:List α) (i:Nat),(aJ enc xs).drop (i*n)=aJ enc (xs.drop i)
 | xs,0=>by simp
 | [],i+1=>by simp[aJ]
 | x :: xs,i+1=>by
  have:=iZ hn xs i
  simp only[aJ,List.flatMap_cons,List.drop_succ_cons]at this ⊢
  rw[show(i+1)*n=(enc x).length+i*n by rw[hn,Nat.add_mul];omega,List.drop_append,List.drop_eq_nil_of_le (by omega)]
  simp[this]
theorem gD (hn:∀x,(enc x).length=n):∀(xs:List α) (i:Nat),(aJ enc xs).take (i*n)=aJ enc (xs.take i)
 | xs,0=>by simp[aJ]
 | [],i+1=>by simp[aJ]
 | x :: xs,i+1=>by
  have:=gD hn xs i
  simp only[aJ,List.flatMap_cons,List.take_succ_cons]at this ⊢
  rw[show(i+1)*n=(enc x).length+i*n by rw[hn,Nat.add_mul];omega,List.take_append,List.take_of_length_le (by omega)]
  simp[this]
theorem g9 (hn:∀x,(enc x).length=n){xs:List α}{i:Nat}{x:α}(hx:xs[i]?=some x)(off m:Nat)(h:off+m≤n):mE m (i*n+off) (some (.cells (aJ enc xs)))=some (((enc x).drop off).take m):=by
 have hi:=(List.getElem?_eq_some_iff.1 hx).1
 have h1:i*n+n≤xs.length*n:=by rw[←Nat.succ_mul];exact Nat.mul_le_mul_right n hi
 have e:(aJ enc xs).drop (i*n)=enc x++aJ enc (xs.drop (i+1)):=by
  rw[iZ hn,List.drop_eq_getElem_cons hi]
  have:xs[i]=x:=(List.getElem?_eq_some_iff.1 hx).2
  rw[this];rfl
 rw[n9,if_pos (by rw[cO hn];omega),←List.drop_drop,e,List.drop_append,List.take_append,hn]
 rw[show m-((enc x).drop off).length=0 by rw[List.length_drop,hn];omega]
 simp
theorem jr (hn:∀x,(enc x).length=n){xs:List α}{i:Nat}{x y:α}(hx:xs[i]?=some x)(H:ae)(b:Nat)(vs:List T)(off:Nat)(h:off+vs.length≤n)(hy:enc y=(enc x).take off++vs++(enc x).drop (off+vs.length)) :
  xo H b vs (i*n+off) (some (.cells (aJ enc xs)))=some (H.set b (.cells (aJ enc (xs.set i y)))):=by
 have hi:=(List.getElem?_eq_some_iff.1 hx).1
 have qE:xs[i]=x:=(List.getElem?_eq_some_iff.1 hx).2
 have h1:i*n+n≤xs.length*n:=by rw[←Nat.succ_mul];exact Nat.mul_le_mul_right n hi
 rw[oa,if_pos (by rw[cO hn];omega)]
 have e:(aJ enc xs).drop (i*n)=enc x++aJ enc (xs.drop (i+1)):=by
  rw[iZ hn,List.drop_eq_getElem_cons hi,qE];rfl
 have t:(aJ enc xs).take (i*n+off)=aJ enc (xs.take i)++(enc x).take off:=by
  rw[List.take_add,gD hn,e,List.take_append,hn,show off-n=0 by omega];simp
 have d:(aJ enc xs).drop (i*n+off+vs.length)=(enc x).drop (off+vs.length)++aJ enc (xs.drop (i+1)):=by
  rw[Nat.add_assoc,←List.drop_drop,e,List.drop_append,hn,show off+vs.length-n=0 by omega];simp
 rw[t,d]
 have:xs.set i y=xs.take i++y :: xs.drop (i+1):=by rw[List.set_eq_take_append_cons_drop,if_pos hi]
 rw[this]
 simp only[aJ,List.flatMap_append,List.flatMap_cons,hy,List.append_assoc]
theorem Dc (k:Nat)(z:α):(List.replicate k (enc z)).flatten=aJ enc (List.replicate k z):=by
 induction k with
 | zero=>rfl
 | succ k ih=>simp only[List.replicate_succ,List.flatten_cons,ih,aJ,List.flatMap_cons]
end
theorem ie (n i b off len:Nat):ew n i (.aE b off len n)=if i<len then if n=0 then none else some (.ptr b (off+i*n))else none:=by
 simp only[ew,true_and,ne_eq]
 by_cases h:i<len<;>by_cases h':n=0<;>simp[h,h']
def eU (n:Nat):List T:=[.int .u64 n]
def AH (n0:Nat)(H:ae)(k:SK):Prop:=k=.nil∨k=.full∨∃t e,k=.own t e∧n0≤t∧H[t]?=some (.tok e)
structure NY (n0:Nat)(H:ae)(k:SK)(H':ae):Prop where
 len:H.length≤H'.length
 get:∀b x,H[b]?=some x→(∀e,k≠.own b e)→H'[b]?=some x
 ext:∀H0:ae,H0.length≤n0→Ext H0 H→Ext H0 H'
theorem kg {n0:Nat}{H:ae}{k:SK}{bytes:Nat}(es new:List (List T))(hk:AH n0 H k)(mQ:n0≤H.length)(gk:new≠[])(hr:cr (es.length+new.length) bytes=true) :
  ∃k' H',kv H bytes k es new=some (.sl k' (es++new.map (·.map T.erase)),H')∧AH n0 H' k'∧NY n0 H k H':=by
 unfold kv
 cases new with
 | nil=>exact absurd rfl gk
 | cons c new =>
  simp only[hr,if_true]
  rcases hk with rfl|rfl|⟨t,e,rfl,ht,hg⟩
  ·exact⟨_,_,rfl,.inr (.inr ⟨_,_,rfl,mQ,aZ rfl⟩),⟨by simp,fun b x hx _=>by rw[aM (a6 hx)];exact hx,fun H0 _ h=>h.app _⟩⟩
  ·exact⟨_,_,rfl,.inr (.inr ⟨_,_,rfl,mQ,aZ rfl⟩),⟨by simp,fun b x hx _=>by rw[aM (a6 hx)];exact hx,fun H0 _ h=>h.app _⟩⟩
  ·simp only[hg,if_true]
   refine⟨_,_,rfl,.inr (.inr ⟨_,_,rfl,ht,cK (a6 hg)⟩),⟨by simp,fun b x hx ba=>?_,fun H0 h0 h=>h.set (Nat.le_trans h0 ht) _⟩⟩
   have:t≠b:=fun h=>ba e (by rw[h])
   rw[bN this];exact hx
theorem kX (n0:Nat)(H:ae):AH n0 H .nil:=.inl rfl
theorem AH.ext {n0:Nat}{H H':ae}{k:SK}(h:AH n0 H k)(hx:Ext H H'):AH n0 H' k:=by
 rcases h with h|h|⟨t,e,h,h1,h2⟩
 ·exact .inl h
 ·exact .inr (.inl h)
 ·exact .inr (.inr ⟨t,e,h,h1,hx.get h2⟩)
theorem Gh {n b:Nat}{res:List Rs}{Q:Out→ae→Prop}{R:aj}{H:ae}(h:R n=.bE [.ptr b 0])(hd:H[b]?=some .wy)
  (hq:match mA R (H.set b .dead) res with|some v=>Q (.val v) (H.set b .dead)|none=>False):J8 n res Q (.ex .ret R) H :=
 ⟨[b],by rw[h];rfl,by simp,by simp[hd],hq⟩
theorem Kk (b:Nat):kx (.bE []) b=.bE [.ptr b 0]:=rfl
theorem Km {n m:Nat}(h:(n+n/4+512)*m≤281474976710656):cr n m=true:=by simp[cr,h]
theorem all_map {α:Type}{enc:α→List T}{n:Nat}(hn:∀x,(enc x).length=n)(l:List α):(l.map enc).all (fun c=>c.length==n)=true:=by simp[hn]
def dM {α:Type}(enc:α→List T)(n n0:Nat)(H:ae)(t:T)(l:List α):Prop :=
 (l=[]∧t=.sl .nil [])∨∃b,t=.aE b 0 l.length n∧H[b]?=some (.cells (aJ enc l))∧n0≤b
theorem mS {α:Type}(enc:α→List T)(n n0:Nat)(H:ae):dM enc n n0 H (.sl .nil []) []:=.inl ⟨rfl,rfl⟩
theorem dM.ext {α:Type}{enc:α→List T}{n n0:Nat}{H H':ae}{t:T}{l:List α}(h:dM enc n n0 H t l)(hx:Ext H H'):dM enc n n0 H' t l:=by
 rcases h with h|⟨b,h1,h2,h3⟩
 ·exact .inl h
 ·exact .inr ⟨b,h1,hx.get h2,h3⟩
theorem dM.len {α:Type}{enc:α→List T}{n n0:Nat}{H:ae}{t:T}{l:List α}(h:dM enc n n0 H t l):ey H .sl t=some l.length:=by
 rcases h with⟨rfl,rfl⟩|⟨b,rfl,_,_⟩<;>rfl
structure Kn (n0:Nat)(H:ae)(t:T)(H':ae):Prop where
 len:H.length≤H'.length
 get:∀b x,H[b]?=some x→(∀off len n,t≠.aE b off len n)→H'[b]?=some x
 ext:∀H0:ae,H0.length≤n0→Ext H0 H→Ext H0 H'
theorem mT {α:Type}{enc:α→List T}{n n0:Nat}(hn:∀x,(enc x).length=n){H:ae}{t:T}{l:List α}{bytes:Nat}(new:List α)(h:dM enc n n0 H t l)(mQ:n0≤H.length)(gk:new≠[])(hr:cr (l.length+new.length) bytes=true) :
  ∃t' H',mz H n bytes t (new.map enc)=some (t',H')∧dM enc n n0 H' t' (l++new)∧Kn n0 H t H':=by
 have mN:(new.map enc).flatten=aJ enc new:=by simp[aJ,List.flatMap]
 have su:∀l:List α,aJ enc l++aJ enc new=aJ enc (l++new):=fun l=>by simp[aJ]
 unfold mz
 cases new with
 | nil=>exact absurd rfl gk
 | cons c new =>
  rcases h with⟨rfl,rfl⟩|⟨b,rfl,hb,Jw⟩
  ·simp only[List.map_cons,List.length_cons,List.length_nil,List.length_map,Nat.zero_add]at hr mN ⊢
   simp only[hr,and_true,if_true]
   refine⟨_,_,rfl,.inr ⟨H.length,by simp,?_,mQ⟩,⟨by simp,fun b x hx _=>by rw[aM (a6 hx)];exact hx,fun H0 _ h=>h.app _⟩⟩
   rw[aZ rfl,mN];rfl
  ·have hc:l.length*n=(aJ enc l).length:=(cO hn l).symm
   simp only[List.map_cons,List.length_cons,List.length_map]at hr mN ⊢
   simp only[hb,hc,hr,and_self,if_true]
   refine⟨_,_,rfl,.inr ⟨H.length,by simp,?_,mQ⟩,⟨by simp,fun b' x hx ba=>?_,fun H0 h0 h=>(h.set (Nat.le_trans h0 Jw) _).app _⟩⟩
   ·rw[aZ (by simp),mN,su]
   ·have S7:b≠b':=fun e=>ba 0 l.length n (by rw[e])
    rw[aM (by rw[List.length_set];exact a6 hx),bN S7];exact hx
theorem vN {α:Type}{enc:α→List T}{n:Nat}(hn:∀x,(enc x).length=n)(l:List α):fB (aJ enc l) 0 l.length n=l.map enc:=by
 unfold fB
 refine List.ext_getElem? fun i=>?_
 by_cases hi:i<l.length
 ·have:=g9 hn (List.getElem?_eq_getElem hi) 0 n (by omega)
  rw[n9]at this
  split at this
  ·simp only[Option.some.injEq,Nat.add_zero,List.drop_zero]at this
   simp only[List.getElem?_map,List.getElem?_range hi,Option.map_some,Nat.zero_add,this,List.getElem?_eq_getElem hi]
   rw[List.take_of_length_le (by rw[hn];omega)]
  ·cases this
 ·rw[List.getElem?_eq_none (by simp;omega),List.getElem?_eq_none (by simp;omega)]
end Go.Rmp
end

section
namespace Go.Rmp
set_option maxRecDepth 10000
abbrev o1 (d:Nat)(b:Bo):O:=⟨some d,.b b,none,[]⟩
def pS (n bytes:Nat)(z:List T)(fr:Nat):Fn:=⟨95,3,[.t 6],
 C.seq (.ops [o1 6 (.aD (.c (.sl .nil [])))]) <|
 C.seq (.ops [o1 10 (.aD (.r 0)),o1 11 (.aD (.r 1)),o1 12 (.jg n (.r 10) (some (.r 11)) none none)]) <|
 C.seq (.ops [o1 13 (.aD (.r 2)),o1 14 (.len .sl (.r 13)),o1 7 (.aD (.r 14))]) <|
 C.seq (C.seq (.ops [o1 15 (.aD (.r 7)),o1 16 (.bin .eql (.r 15) (.c (.int .i64 0)))]) <|
 .cond (.r 16)
  (C.seq (.ops [o1 17 (.aD (.r 0)),o1 6 (.aD (.r 17))]) <|
  .ret)
  (.skip)) <|
 C.seq (.ops [o1 18 (.aD (.r 0)),o1 19 (.len .sl (.r 18)),o1 8 (.aD (.r 19))]) <|
 C.seq (C.seq (.ops [o1 20 (.aD (.r 1)),o1 21 (.aD (.r 8)),o1 22 (.bin .eql (.r 20) (.r 21))]) <|
 .cond (.r 22)
  (C.seq (.ops [o1 23 (.aD (.r 0)),o1 24 (.aD (.r 2)),o1 25 (.app n bytes true (.r 23) (.r 24)),o1 6 (.aD (.r 25))]) <|
  .ret)
  (.skip)) <|
 C.seq (C.seq (.ops [o1 26 (.aD (.r 8)),o1 27 (.aD (.r 7)),o1 28 (.bin .add (.r 26) (.r 27)),o1 29 (.aD (.r 0)),o1 30 (.cap (.r 29)),o1 31 (.bin .gtr (.r 28) (.r 30))]) <|
 .cond (.r 31)
  (C.seq (.ops [o1 32 (.aD (.r 0)),o1 33 (.aD (.r 1)),o1 34 (.jg n (.r 32) none (some (.r 33)) none),o1 35 (.aD (.r 8)),o1 36 (.aD (.r 7)),o1 37 (.bin .add (.r 35) (.r 36)),o1 38 (.aD (.r 1)),o1 39 (.bin .sub (.r 37) (.r 38)),o1 40 (.Jg n bytes z (.r 34) (.r 39)),o1 9 (.aD (.r 40))]) <|
  C.seq (.ops [o1 41 (.aD (.r 9)),o1 42 (.aD (.r 1)),o1 43 (.jg n (.r 41) (some (.r 42)) none none),o1 44 (.aD (.r 2)),o1 45 (.wv n (.r 43) (.r 44))]) <|
  C.seq (.ops [o1 46 (.aD (.r 9)),o1 47 (.aD (.r 1)),o1 48 (.aD (.r 7)),o1 49 (.bin .add (.r 47) (.r 48)),o1 50 (.jg n (.r 46) (some (.r 49)) none none),o1 51 (.aD (.r 0)),o1 52 (.aD (.r 1)),o1 53 (.jg n (.r 51) (some (.r 52)) none none),o1 54 (.wv n (.r 50) (.r 53))]) <|
  C.seq (.ops [o1 55 (.aD (.r 9)),o1 6 (.aD (.r 55))]) <|
  .ret)
  (.skip)) <|
 C.seq (.ops [o1 56 (.aD (.r 0)),o1 57 (.aD (.r 8)),o1 58 (.aD (.r 7)),o1 59 (.bin .add (.r 57) (.r 58)),o1 60 (.jg n (.r 56) none (some (.r 59)) none),o1 0 (.aD (.r 60))]) <|
 C.seq (C.seq (.ops [o1 61 (.aD (.r 2)),o1 62 (.aD (.r 0)),o1 63 (.aD (.r 1)),o1 64 (.aD (.r 7)),o1 65 (.bin .add (.r 63) (.r 64)),o1 66 (.jg n (.r 62) (some (.r 65)) none none),o1 67 (.Is n (.r 61) (.r 66)),o1 68 (.un .not (.r 67))]) <|
 .cond (.r 68)
  (C.seq (.ops [o1 69 (.aD (.r 0)),o1 70 (.aD (.r 1)),o1 71 (.aD (.r 7)),o1 72 (.bin .add (.r 70) (.r 71)),o1 73 (.jg n (.r 69) (some (.r 72)) none none),o1 74 (.aD (.r 0)),o1 75 (.aD (.r 1)),o1 76 (.jg n (.r 74) (some (.r 75)) none none),o1 77 (.wv n (.r 73) (.r 76))]) <|
  C.seq (.ops [o1 78 (.aD (.r 0)),o1 79 (.aD (.r 1)),o1 80 (.jg n (.r 78) (some (.r 79)) none none),o1 81 (.aD (.r 2)),o1 82 (.wv n (.r 80) (.r 81))]) <|
  C.seq (.ops [o1 83 (.aD (.r 0)),o1 6 (.aD (.r 83))]) <|
  .ret)
  (.skip)) <|
 C.seq (.ops [o1 84 (.aD (.r 0)),o1 85 (.aD (.r 8)),o1 86 (.jg n (.r 84) (some (.r 85)) none none),o1 87 (.aD (.r 2)),o1 88 (.wv n (.r 86) (.r 87))]) <|
 C.seq (.ops [o1 89 (.aD (.r 0)),o1 90 (.aD (.r 1)),o1 91 (.jg n (.r 89) (some (.r 90)) none none),o1 92 (.aD (.r 7)),⟨some 93,.call fr [(.r 91),(.r 92)],none,[]⟩]) <|
 C.seq (.ops [o1 94 (.aD (.r 0)),o1 6 (.aD (.r 94))]) <|
 .ret⟩
section
variable {α:Type} {enc:α→List T} {n:Nat}
theorem ea (hn:∀x,(enc x).length=n){H:ae}{b:Nat}{xs:List α}(hb:H[b]?=some (.cells (aJ enc xs)))(j k l c:Nat)(Ko:j+k≤xs.length) :
  eL H n k (.aE b (j*n) l n)=some (((xs.drop j).take k).map enc)∧eL H n k (.cQ b (j*n) l n c)=some (((xs.drop j).take k).map enc):=by
 have hm:j*n+k*n≤(aJ enc xs).length:=by rw[cO hn,←Nat.add_mul];exact Nat.mul_le_mul_right n Ko
 have e:(List.range k).map (fun i=>((aJ enc xs).drop (j*n+i*n)).take n)=((xs.drop j).take k).map enc:=by
  have h1:=vN hn ((xs.drop j).take k)
  have hl:((xs.drop j).take k).length=k:=by simp;omega
  rw[hl]at h1
  rw[←h1]
  unfold fB
  refine List.map_congr_left fun i hi=>?_
  have hi:=List.mem_range.1 hi
  rw[Nat.zero_add,←gD hn,←iZ hn,List.drop_take,List.drop_drop,List.take_take]
  congr 1
  have:i*n+n≤k*n:=by rw[←Nat.succ_mul];exact Nat.mul_le_mul_right n hi
  omega
 simp -implicitDefEqProofs only[eL,hb,hm,and_self,if_true,e]
theorem qF (hn:∀x,(enc x).length=n)(mQ:n≠0){H:ae}{b:Nat}{xs ys:List α}{y:T}{ly len:Nat}(hb:H[b]?=some (.cells (aJ enc xs)))(j c:Nat)(hj:j≤xs.length)(Ct:x9 y=some ly)(hy:eL H n (min ly len) y=some (ys.map enc))(mD:ys.length=min ly len) :
  wB H n (.aE b (j*n) len n) y=some (.int .i64 (min ly len:Nat),H.set b (.cells (aJ enc (xs.take j++ys++xs.drop (j+ys.length))))) ∧
  wB H n (.cQ b (j*n) len n c) y=some (.int .i64 (min ly len:Nat),H.set b (.cells (aJ enc (xs.take j++ys++xs.drop (j+ys.length))))):=by
 have h1:j*n≤(aJ enc xs).length:=by rw[cO hn];exact Nat.mul_le_mul_right n hj
 have e:(aJ enc xs).take (j*n)++(ys.map enc).flatten++(aJ enc xs).drop (j*n+(min ly len)*n)=aJ enc (xs.take j++ys++xs.drop (j+ys.length)):=by
  rw[←mD,←Nat.add_mul,gD hn,iZ hn]
  simp[aJ,List.flatMap]
 simp -implicitDefEqProofs only[wB,Ct,hb,hy,h1,mQ,ne_eq,not_false_eq_true,and_self,if_true,e]
theorem Gi (hn:∀x,(enc x).length=n)(mQ:n≠0){H:ae}{b bytes:Nat}{xs:List α}(zv:α)(hb:H[b]?=some (.cells (aJ enc xs)))(i k c:Nat)(hi:i≤xs.length)(hk:0<k)(hc:c<i+k)(hr:cr (i+k) bytes=true) :
  yc H n bytes (enc zv) (.cQ b 0 i n c) k=some (.aE H.length 0 (i+k) n,H++[.cells (aJ enc (xs.take i++List.replicate k zv))]):=by
 have h1:=(ea hn hb 0 i i c (by omega)).2
 rw[Nat.zero_mul]at h1
 have e:((xs.take i).map enc).flatten++(List.replicate k (enc zv)).flatten=aJ enc (xs.take i++List.replicate k zv):=by
  rw[Dc];simp[aJ,List.flatMap]
 simp -implicitDefEqProofs only[List.drop_zero]at h1
 simp -implicitDefEqProofs only[yc,h1,mQ,ne_eq,not_false_eq_true,hk,hc,hn,hr,and_self,if_true,e]
theorem pT (hn:∀x,(enc x).length=n){H:ae}{bv:Nat}{v:α}(hv:H[bv]?=some (.cells (enc v))):aP H n (.aE bv 0 1 n)=some [enc v]:=by
 have h1:0+1*n≤(enc v).length:=by rw[hn];omega
 simp -implicitDefEqProofs only[aP,hv,h1,and_self,if_true]
 have:(List.range 1).map (fun i=>((enc v).drop (0+i*n)).take n)=[enc v]:=by
  simp[List.range_succ,List.take_of_length_le (Nat.le_of_eq (hn v))]
 rw[this]
structure EK (n0:Nat)(H:ae)(t:T)(H':ae):Prop where
 len:H.length≤H'.length
 get:∀b x,H[b]?=some x→(∀off len n,t≠.aE b off len n)→H'[b]?=some x
 ext:∀H0:ae,H0.length≤n0→Ext H0 H→Ext H0 H'
def Gj (enc:α→List T)(n n0:Nat)(H:ae)(t:T)(ys:List α):Out→ae→Prop:=fun o H'=>∃b',o=.val (.aE b' 0 ys.length n)∧H'[b']?=some (.cells (aJ enc ys))∧n0≤b'∧EK n0 H t H'∧(H.length≤b'∨∃off len n,t=.aE b' off len n)
theorem qG {H H':ae}{n bytes b off len m:Nat}{x:T}{new:List (List T)}(h:mz H n bytes x new=some (.aE b off len m,H'))(hn:new≠[]):H.length≤b:=by
 unfold mz at h
 split at h
 ·exact absurd rfl hn
 ·split at h
  ·split at h
   ·simp at h;omega
   ·cases h
  ·split at h
   ·simp at h;omega
   ·cases h
  ·split at h
   ·split at h
    ·simp at h;omega
    ·cases h
   ·cases h
  ·cases h
theorem Dd {E:Env}{f bytes fr:Nat}(hn:∀x,(enc x).length=n)(mQ:n≠0)(zv:α)(hf:E.fn f=some (pS n bytes (enc zv) fr))(n0 bv:Nat)(v:α)(H:ae)(hH:n0≤H.length)(hv:H[bv]?=some (.cells (enc v)))(hr:cr 1 bytes=true) :
  W E (.call f [.sl .nil [],.int .i64 0,.aE bv 0 1 n]) H (Gj enc n n0 H (.sl .nil []) [v]):=by
 refine W.cJ hf rfl rfl ?_
 have h1:=pT hn hv
 obtain⟨t',H',ha,hm,cn⟩:=mT (enc:=enc) hn (bytes:=bytes) [v] (mS enc n n0 H) hH (by simp) (by simpa using hr)
 simp -implicitDefEqProofs only[List.map_cons,List.map_nil]at ha
 have aG:=fun b' ml (e:t'=T.aE b' 0 ml n)=>qG (e▸ha) (by simp)
 have S8:bB (.int .i64 0)=some 0:=rfl
 have z0:((0:Nat):Int)=0:=rfl
 simp -implicitDefEqProofs only[pS,o1,reduceIte,q4,q5,q6,q7,q8,j1,j2,j3,j4,S1,z0,S8,Nat.le_refl,and_self,SK.cut,h1,wz,ha]
 rcases hm with⟨h0,_⟩|⟨b',rfl,fC,Gk⟩
 ·simp at h0
 ·exact⟨b',rfl,fC,Gk,⟨cn.len,cn.get,cn.ext⟩,.inl (aG _ _ rfl)⟩
theorem De {E:Env}{f bytes fr:Nat}(hn:∀x,(enc x).length=n)(mQ:n≠0)(zv:α)(hf:E.fn f=some (pS n bytes (enc zv) fr))(n0 bv b i:Nat)(v:α)(xs:List α)(H:ae)(hH:n0≤H.length)(hv:H[bv]?=some (.cells (enc v)))(hb:H[b]?=some (.cells (aJ enc xs)))(Gk:n0≤b)(ba:bv≠b)
  (hi:i≤xs.length) (hl:xs.length<4611686018427387903) (hr:cr (xs.length+1) bytes=true) :
  W E (.call f [.aE b 0 xs.length n,.int .i64 i,.aE bv 0 1 n]) H (Gj enc n n0 H (.aE b 0 xs.length n) (xs.take i++v :: xs.drop i)):=by
 have mD:(xs.take i++v :: xs.drop i).length=xs.length+1:=by simp;omega
 refine W.wF (b:=b) (off:=0) (len:=xs.length) (n:=n) 0 (fun o H'=>∃t b',o=.val t∧wz t=.aE b' 0 (xs.length+1) n∧H'[b']?=some (.cells (aJ enc (xs.take i++v :: xs.drop i)))∧n0≤b'∧EK n0 H (.aE b 0 xs.length n) H'∧(H.length≤b'∨∃off len m,(.aE b 0 xs.length n:T)=.aE b' off len m)) rfl (fun c hc=>?_) ?_
 rotate_left
 ·rintro t H'⟨t',b',ht,Gl,h1,h2,h3⟩
  cases ht
  exact⟨b',by rw[Gl,mD],h1,h2,h3⟩
 refine W.cJ hf rfl rfl ?_
 have h1:=pT hn hv
 have w1:IntKind.i64.wrap ((xs.length:Int)+((1:Nat):Int))=((xs.length+1:Nat):Int):=by rw[wrap64 (by omega)];omega
 have w2:IntKind.i64.wrap ((i:Int)+((1:Nat):Int))=((i+1:Nat):Int):=by rw[wrap64 (by omega)];omega
 have lb:=a6 hb
 have lv:=a6 hv
 by_cases gr:i=xs.length
 ·subst gr
  obtain⟨t',H',ha,hm,cn⟩:=mT (enc:=enc) (n0:=n0) (t:=.aE b 0 xs.length n) hn (bytes:=bytes) [v] (.inr ⟨b,rfl,hb,Gk⟩) hH (by simp) (by simpa using hr)
  simp -implicitDefEqProofs only[List.map_cons,List.map_nil]at ha
  have aG:=fun b' ml (e:t'=T.aE b' 0 ml n)=>qG (e▸ha) (by simp)
  simp -implicitDefEqProofs only[pS,o1,reduceIte,q4,q5,q6,q7,q8,j1,j2,j3,j4,S1,aa,Nat.le_refl,hc,and_self,h1,wz,ha]
  rcases hm with⟨h0,_⟩|⟨b',rfl,fC,NZ⟩
  ·simp at h0
  ·refine⟨_,b',rfl,by simp[wz],?_,NZ,⟨cn.len,cn.get,cn.ext⟩,.inl (aG _ _ rfl)⟩
   rw[fC];simp
 ·have au:i<xs.length:=by omega
  have Kq:¬((i:Int)=(xs.length:Int)):=by omega
  have ic:(i<c∨i=0)=True:=by simp;omega
  have i1:(i+1<c∨i+1=0)=(i+1<c):=by simp
  have mi:min 1 (xs.length+1-i)=1:=by omega
  have S9:=ea hn (xs:=[v]) (b:=bv) (H:=H)
  by_cases iD:c<xs.length+1
  ·have jI:c=xs.length:=by omega
   subst jI
   have w3:IntKind.i64.wrap (((xs.length+1:Nat):Int)-(i:Int))=((xs.length+1-i:Nat):Int):=by rw[wrap64 (by omega)];omega
   have Kr:i+(xs.length+1-i)=xs.length+1:=by omega
   have ha:=Gi (bytes:=bytes) hn mQ zv hb i (xs.length+1-i) xs.length hi (by omega) (by omega) (by rw[Kr];exact hr)
   rw[Kr]at ha
   have c0:(0<xs.length∨True)=True:=by simp
   have e1:¬(i=xs.length+1):=by omega
   have e2:¬(i+1=xs.length+1):=by omega
   have hle:i≤xs.length+1:=by omega
   have Gm:i+1≤xs.length+1:=by omega
   have N1:(H++[B.cells (aJ enc (xs.take i++List.replicate (xs.length+1-i) zv))])[H.length]?=some (.cells (aJ enc (xs.take i++List.replicate (xs.length+1-i) zv))):=aZ rfl
   have N2:(H++[B.cells (aJ enc (xs.take i++List.replicate (xs.length+1-i) zv))])[bv]?=some (.cells (aJ enc [v])):=by rw[aM lv,hv];simp[aJ]
   have oH:=(ea hn N2 0 1 1 0 (by simp)).1
   simp -implicitDefEqProofs only[Nat.zero_mul,List.drop_zero]at oH
   have xp:=(qF hn mQ (ys:=[v]) (y:=.aE bv 0 1 n) (ly:=1) (len:=xs.length+1-i) N1 i 0 (by simp;omega) rfl (by rw[mi];simpa using oH) (by simp;omega)).1
   rw[mi]at xp
   have EL:(xs.take i++List.replicate (xs.length+1-i) zv).take i++[v]++(xs.take i++List.replicate (xs.length+1-i) zv).drop (i+[v].length)=xs.take i++v :: List.replicate (xs.length-i) zv:=by
    have t1:(xs.take i).length=i:=by simp;omega
    have t2:i+1-i=1:=by omega
    have t3:xs.length+1-i-1=xs.length-i:=by omega
    rw[List.take_append_of_le_length (by omega),List.take_of_length_le (by omega),List.drop_append,List.drop_eq_nil_of_le (by simp;omega),t1]
    simp[t2,t3]
   rw[EL,pI]at xp
   have N5:(H++[B.cells (aJ enc (xs.take i++v :: List.replicate (xs.length-i) zv))])[H.length]?=some (.cells (aJ enc (xs.take i++v :: List.replicate (xs.length-i) zv))):=aZ rfl
   have ki:(H++[B.cells (aJ enc (xs.take i++v :: List.replicate (xs.length-i) zv))])[b]?=some (.cells (aJ enc xs)):=by rw[aM lb,hb]
   have uY:=(ea hn ki i (xs.length-i) (xs.length-i) (xs.length-i) (by omega)).2
   have uj:((xs.drop i).take (xs.length-i))=xs.drop i:=List.take_of_length_le (by simp)
   rw[uj]at uY
   have Mr:min (xs.length-i) (xs.length+1-(i+1))=xs.length-i:=by omega
   have xq:=(qF hn mQ (ys:=xs.drop i) (y:=.cQ b (i*n) (xs.length-i) n (xs.length-i)) (ly:=xs.length-i) (len:=xs.length+1-(i+1)) N5 (i+1) 0 (by simp;omega) rfl (by rw[Mr];exact uY) (by simp)).1
   have tj:(xs.take i++v :: List.replicate (xs.length-i) zv).take (i+1)++xs.drop i++(xs.take i++v :: List.replicate (xs.length-i) zv).drop (i+1+(xs.drop i).length)=xs.take i++v :: xs.drop i:=by
    have t1:(xs.take i).length=i:=by simp;omega
    have t2:i+1-i=1:=by omega
    have d1:(xs.take i++v :: List.replicate (xs.length-i) zv).drop (i+1+(xs.drop i).length)=[]:=List.drop_eq_nil_of_le (by rw[List.length_append,t1];simp;omega)
    have d2:(xs.take i).take (i+1)=xs.take i:=List.take_of_length_le (by omega)
    rw[d1,List.take_append,d2,t1,t2]
    simp
   rw[tj,pI]at xq
   simp -implicitDefEqProofs only[pS,o1,reduceIte,q4,q5,q6,q7,q8,j1,j2,j3,j4,S1,aa,Nat.le_refl,hc,and_self,hi,ic,Kq,gr,w1,w2,w3,iD,Nat.zero_le,Nat.zero_mul,Nat.sub_zero,c0,ha,hle,Gm,e1,e2,xp,xq,or_true,if_true]
   exact⟨_,H.length,rfl,rfl,aZ rfl,hH,⟨by simp,fun b' x hx _=>by rw[aM (a6 hx)];exact hx,fun H0 _ h=>h.app _⟩,.inl (Nat.le_refl _)⟩
  ·have Ks:xs.length+1≤c:=by omega
   have Kt:¬c<xs.length+1:=iD
   have e1:¬(i=xs.length+1):=by omega
   have hle:i≤xs.length+1:=by omega
   have Gm:i+1≤xs.length+1:=by omega
   have c0:(0<c∨True)=True:=by simp
   have c1:i+1<c:=by omega
   have c2:i<c:=by omega
   have Ku:0<(aJ enc xs).length:=by rw[cO hn];exact Nat.mul_pos (by omega) (by omega)
   have rl:wC H n (.aE bv 0 1 n) (.cQ b ((i+1)*n) (xs.length+1-(i+1)) n (c-(i+1)))=some (.bool false,H):=by
    simp -implicitDefEqProofs only[wC,hv,hb,ne_eq,ba,not_false_eq_true,Ku,and_self,if_true]
   have uY:=(ea hn hb i (xs.length-i) (xs.length+1-i) (c-i) (by omega)).2
   have uj:((xs.drop i).take (xs.length-i))=xs.drop i:=List.take_of_length_le (by simp)
   rw[uj]at uY
   have Mr:min (xs.length+1-i) (xs.length+1-(i+1))=xs.length-i:=by omega
   have xp:=(qF hn mQ (ys:=xs.drop i) (y:=.cQ b (i*n) (xs.length+1-i) n (c-i)) (ly:=xs.length+1-i) (len:=xs.length+1-(i+1)) hb (i+1) (c-(i+1)) (by omega) rfl (by rw[Mr];exact uY) (by rw[Mr];simp)).2
   have nH:xs.take (i+1)++xs.drop i++xs.drop (i+1+(xs.drop i).length)=xs.take (i+1)++xs.drop i:=by
    have d1:xs.drop (i+1+(xs.drop i).length)=[]:=List.drop_eq_nil_of_le (by rw[List.length_drop];omega)
    rw[d1,List.append_nil]
   rw[nH]at xp
   have ki:(H.set b (.cells (aJ enc (xs.take (i+1)++xs.drop i))))[b]?=some (.cells (aJ enc (xs.take (i+1)++xs.drop i))):=cK lb
   have N2:(H.set b (.cells (aJ enc (xs.take (i+1)++xs.drop i))))[bv]?=some (.cells (aJ enc [v])):=by rw[bN (Ne.symm ba),hv];simp[aJ]
   have oH:=(ea hn N2 0 1 1 0 (by simp)).1
   simp -implicitDefEqProofs only[Nat.zero_mul,List.drop_zero]at oH
   have xq:=(qF hn mQ (ys:=[v]) (y:=.aE bv 0 1 n) (ly:=1) (len:=xs.length+1-i) ki i (c-i) (by simp;omega) rfl (by rw[mi];simpa using oH) (by simp;omega)).2
   rw[mi]at xq
   have EL:(xs.take (i+1)++xs.drop i).take i++[v]++(xs.take (i+1)++xs.drop i).drop (i+[v].length)=xs.take i++v :: xs.drop i:=by
    have t1:(xs.take (i+1)).length=i+1:=by simp;omega
    rw[List.take_append_of_le_length (by omega),List.take_take,List.drop_append,List.drop_eq_nil_of_le (by simp;omega),t1]
    have t2:min i (i+1)=i:=by omega
    simp[t2]
   rw[EL,List.set_set]at xq
   simp -implicitDefEqProofs only[pS,o1,reduceIte,q4,q5,q6,q7,q8,j1,j2,j3,j4,S1,aa,Nat.le_refl,hc,and_self,hi,ic,Kq,gr,w1,w2,Ks,Kt,Nat.zero_le,Nat.zero_mul,Nat.sub_zero,c0,c1,c2,true_or,rl,hle,Gm,e1,xp,xq,or_true,if_true]
   refine⟨_,b,rfl,rfl,cK lb,Gk,⟨by simp,fun b' x hx N6=>?_,fun H0 h0 h=>h.set (Nat.le_trans h0 Gk) _⟩,.inr ⟨_,_,_,rfl⟩⟩
   have:b≠b':=fun e=>N6 0 xs.length n (by rw[e])
   rw[bN this];exact hx
end
end Go.Rmp
end

section
namespace Go.Rmp
def EM:List O→List Nat
 | []=>[]
 | o :: l=>match o.d with
  | some d=>d :: EM l
  | none=>EM l
def wr:C→List Nat
 | .skip=>[]
 | .ops l=>EM l
 | .seq a b=>wr a++wr b
 | .cond _ a b=>wr a++wr b
 | .block _ a=>wr a
 | .loop a=>wr a
 | .exit _=>[]
 | .ret=>[]
 | .cj n _ _ _ _=>[n]
def Kv:J→List Nat
 | .code c _=>wr c
 | .ops l _=>EM l
 | .call _ _=>[]
def Kw:J→aj
 | .code _ R=>R
 | .ops _ R=>R
 | .call _ _=>fun _=>bq
def Kp (j:J)(o:Out):Prop:=match j with
 | .call _ _=>True
 | j=>∀e R',o=.ex e R'→∀t,t∉Kv j→R' t=Kw j t
theorem Df {R:aj}{d:Option Nat}{v:T}{t:Nat}(h:∀x,d=some x→t≠x):aR R d v t=R t:=by
 cases d with
 | none=>rfl
 | some x=>simp[aR,iq,h x rfl]
theorem AI {o:O}{l:List O}{t:Nat}(h:t∉EM (o :: l)):(∀x,o.d=some x→t≠x)∧t∉EM l:=by
 unfold EM at h
 cases e:o.d with
 | none=>rw[e]at h;exact⟨fun x hx=>(by cases hx),h⟩
 | some d=>rw[e]at h;simp only[List.mem_cons,not_or]at h;exact⟨fun x hx=>(by cases hx;exact h.1),h.2⟩
theorem hJ {o:O}{l:List O}{R:aj}{v:T}{x:Out}(h:Kp (.ops l (aR R o.d v)) x):Kp (.ops (o :: l) R) x:=fun e R' he t ht=>by
 obtain⟨h1,h2⟩:=AI ht
 rw[h e R' he t h2]
 exact Df h1
theorem AJ {c:C}{R:aj}{e:Ex}{R':aj}(h:∀t,t∉wr c→R' t=R t):Kp (.code c R) (.ex e R'):=fun e' R2 he t ht=>by
 injection he with h1 h2
 rw[←h2];exact h t ht
theorem N7 {l:List O}{R:aj}{e:Ex}{R':aj}(h:∀t,t∉EM l→R' t=R t):Kp (.ops l R) (.ex e R'):=fun e' R2 he t ht=>by
 injection he with h1 h2
 rw[←h2];exact h t ht
theorem W.cP {E:Env}{j:J}{H:ae}{Q:Out→ae→Prop}(h:W E j H Q):W E j H (fun o H'=>Q o H'∧Kp j o):=by
 induction h with
 | skip h=>exact .skip ⟨h,AJ fun _ _=>rfl⟩
 | exit h=>exact .exit ⟨h,AJ fun _ _=>rfl⟩
 | ret h=>exact .ret ⟨h,AJ fun _ _=>rfl⟩
 | Iw _ ih=>exact .Iw (ih.use fun o H' h=>⟨h.1,h.2⟩)
 | @seq a b R H Q M h1 h2 h3 rn ko =>
  refine .seq _ rn (fun R' H' hm=>(ko R' H' hm.1).use fun o H2 h=>⟨h.1,fun e R2 he t ht=>?_⟩) (fun o H' hm hn=>⟨h3 o H' hm.1 hn,fun e R2 he t ht=>?_⟩)
  ·have CM:t∉wr a∧t∉wr b:=by simpa[Kv,wr]using ht
   rw[h.2 e R2 he t CM.2];exact hm.2 _ _ rfl t CM.1
  ·have CM:t∉wr a∧t∉wr b:=by simpa[Kv,wr]using ht
   exact hm.2 e R2 he t CM.1
 | @cond x a b R H Q t hx h ih =>
  refine .cond t hx (ih.use fun o H' h=>⟨h.1,fun e R2 he t' ht=>?_⟩)
  have CM:t'∉wr a∧t'∉wr b:=by simpa[Kv,wr]using ht
  refine h.2 e R2 he t' ?_
  cases t
  ·exact CM.2
  ·exact CM.1
 | block M h1 h2 h3 ih =>
  exact .block _ ih (fun R' H' hm=>⟨h2 R' H' hm.1,AJ fun t ht=>hm.2 _ _ rfl t ht⟩) (fun o H' hm hn=>⟨h3 o H' hm.1 hn,fun e R2 he t ht=>hm.2 e R2 he t ht⟩)
 | loop M h1 h2 h3 rn ko =>
  refine .loop _ rn (fun R' H' hm=>(ko R' H' hm.1).use fun o H2 h=>⟨h.1,fun e R2 he t ht=>?_⟩) (fun o H' hm hn=>⟨h3 o H' hm.1 hn,fun e R2 he t ht=>hm.2 e R2 he t ht⟩)
  rw[h.2 e R2 he t ht];exact hm.2 _ _ rfl t ht
 | nil h=>exact .nil ⟨h,N7 fun _ _=>rfl⟩
 | no hg _ ih=>exact .no hg (ih.use fun o H' h=>⟨h.1,hJ h.2⟩)
 | op hg he hs _ ih=>exact .op hg he hs (ih.use fun o H' h=>⟨h.1,hJ (o:=⟨_,.b _,_,_⟩) h.2⟩)
 | Iy hg ht hb hlen h0 he hs _ ih=>exact .Iy hg ht hb hlen h0 he hs (ih.use fun o H' h=>⟨h.1,hJ (o:=⟨_,.b _,_,_⟩) h.2⟩)
 | call M hg h1 hs _ _ ko=>exact .call M hg h1 hs (fun v H' hm=>(ko v H' hm).use fun o H' h=>⟨h.1,hJ (o:=⟨_,.call _ _,_,_⟩) h.2⟩)
 | aX M hg hf h1 hs _ _ ko=>exact .aX M hg hf h1 hs (fun v H' hm=>(ko v H' hm).use fun o H' h=>⟨h.1,hJ (o:=⟨_,.aX _ _,_,_⟩) h.2⟩)
 | lz M1 M hg hf hb hn h1 xU h2 xV Bx _ D4 _ _ _ IL IM=>exact .lz M1 M hg hf hb hn h1 xU h2 xV Bx (fun R' H' hm=>(IL R' H' hm).use fun o H' h=>⟨h.1,hJ (o:=⟨_,.aX _ _,_,_⟩) h.2⟩) D4 (fun e R' H' hm he=>(IM e R' H' hm he).use fun o H' h=>⟨h.1,hJ (o:=⟨_,.aX _ _,_,_⟩) h.2⟩)
 | wE hs h hx hy hc ih=>exact .wE hs (fun b=>(ih b).use fun o H' h=>⟨h.1,hJ (o:=⟨_,.b _,_,_⟩) h.2⟩) hx hy hc
 | @cj n x ps bV body R H Q f cs M hx h1 h2 _ =>
  refine .cj M hx h1 (fun v H' hm=>let ⟨st,pe,a,b,c,d⟩:=h2 v H' hm;⟨st,pe,a,b,c,d,AJ fun t ht=>?_⟩)
  have ht:t≠n:=by simpa[Kv,wr]using ht
  simp[iq,ht,Kw]
 | Ix M hf hn h1 h2 _=>exact .Ix M hf hn h1 (fun o H' hm=>let ⟨R',bs,a,b,c,d,v,e,f⟩:=h2 o H' hm;⟨R',bs,a,b,c,d,v,e,f,trivial⟩)
 | fn M hf hr hn h1 h2 _=>exact .fn M hf hr hn h1 (fun o H' hm=>let ⟨R',a,v,b,c⟩:=h2 o H' hm;⟨R',a,v,b,c,trivial⟩)
 | wF i M hi h1 h2 _=>exact .wF i M hi h1 (fun v H' hm=>⟨h2 v H' hm,trivial⟩)
 | ng M h1 h2 _=>exact .ng M h1 (fun o H' hm=>let ⟨v,b,cs,a,c,d,e⟩:=h2 o H' hm;⟨v,b,cs,a,c,d,e,trivial⟩)
 | oE hg hx hb hs _ ih=>exact .oE hg hx hb hs fun t H' hm=>(ih t H' hm).use fun o H' h=>⟨h.1,hJ (o:=⟨_,.b _,_,_⟩) h.2⟩
 | shr M h1 h2 _=>exact .shr M h1 (fun o H' hm=>let ⟨v,b,cs,k,a,c,d,e⟩:=h2 o H' hm;⟨v,b,cs,k,a,c,d,e,trivial⟩)
 | yf i hi hb _ ih=>exact .yf i hi hb (ih.use fun o H' h=>⟨h.1,trivial⟩)
 | Jk hk hb _ ih=>exact .Jk hk hb (ih.use fun o H' h=>⟨h.1,trivial⟩)
 | vw hl hv _ ih=>exact .vw hl hv (ih.use fun o H' h=>⟨h.1,trivial⟩)
 | lA h=>exact .lA (E.mono _ _ _ _ _ h fun t H' hm=>⟨hm,trivial⟩)
def Dg:List (Nat×T)→aj→aj
 | [],R=>R
 | (t,v) :: l,R=>iq (Dg l R) t v
theorem ar (R:aj):Dg [] R=R:=rfl
theorem ak (t:Nat)(v:T)(l:List (Nat×T))(R:aj):Dg ((t,v) :: l) R=iq (Dg l R) t v:=rfl
def jR:List (Nat×T)→aj→Prop
 | [],_=>True
 | (t,v) :: l,R=>R t=v∧jR l R
def Ms (vs:List (Nat×T))(w:List Nat):Bool:=vs.all fun p=>!w.elem p.1
theorem Gn {R:aj}{t:Nat}{v:T}(h:R t=v):iq R t v=R:=by
 funext x;by_cases e:x=t
 ·subst e;simp[iq,h]
 ·simp[iq,e]
theorem js:∀(vs:List (Nat×T)) (R:aj),jR vs R→Dg vs R=R
 | [],_,_=>rfl
 | (t,v) :: l,R,h=>by rw[ak,js l R h.2,Gn h.1]
theorem kY:∀(vs:List (Nat×T)) (R R':aj),jR vs R→(∀p∈vs,R' p.1=R p.1)→jR vs R'
 | [],_,_,_,_=>trivial
 | (t,v) :: l,R,R',h,k=>⟨(k (t,v) List.mem_cons_self).trans h.1,kY l R R' h.2 fun p hp=>k p (List.mem_cons_of_mem _ hp)⟩
theorem qH {vs:List (Nat×T)}{w:List Nat}(h:Ms vs w=true):∀p∈vs,p.1∉w:=fun p hp hw=>by
 have:=(List.all_eq_true.1 h) p hp
 simp[hw]at this
theorem W.fZ {E:Env}{α:Type}{a:C}{R:aj}{H:ae}{Q:Out→ae→Prop}(vs:List (Nat×T))(I:α→aj→ae→Prop)(μ:α→Nat)(x:α)
  (h0:I x R H) (step:∀x R H,I x R H→ft E a (Dg vs R) H (kV (fun R' H'=>∃y,μ y<μ x∧I y R' H') Q))
  (hv:jR vs R:=by repeat' (first|exact trivial|refine And.intro rfl ?_)) (hw:Ms vs (wr a)=true:=by rfl):W E (.code (.loop a) R) H Q:=by
 have key:∀(n:Nat) (x:α) (R:aj) (H:ae),μ x=n→I x R H→jR vs R→W E (.code (.loop a) R) H Q:=by
  intro n
  induction n using Nat.strongRecOn with
  | _ n ih =>
   intro x R H hn hI qe
   have hs:=step x R H hI
   rw[js vs R qe]at hs
   refine .loop _ (fK a R H _ hs).cP (fun R' H' hm=>?_) (fun o H' hm kS=>?_)
   ·obtain⟨⟨y,hy,NU⟩,hk⟩:=hm
    exact ih (μ y) (hn▸hy) y R' H' rfl NU (kY vs R R' qe fun p hp=>hk _ _ rfl p.1 (qH hw p hp))
   ·cases o with
    | ex e R'=>cases e with
     | normal=>exact absurd rfl (kS R')
     | exit id=>exact hm.1
     | ret=>exact hm.1
    | val v=>exact hm.1
 exact key _ x R H rfl h0 hv
theorem W.Kx {E:Env}{α:Type}{a:C}{R:aj}{H:ae}{Q:Out→ae→Prop}(id:Nat)(vs:List (Nat×T))(I:α→aj→ae→Prop)(μ:α→Nat)(x:α)(P:aj→ae→Prop)
  (h0:I x R H) (step:∀x R H,I x R H→ft E a (Dg vs R) H (kV (fun R' H'=>∃y,μ y<μ x∧I y R' H') (mo id P Q))) (rest:∀R H,P R H→Q (.ex (.exit id) (Dg vs R)) H)
  (hv:jR vs R:=by repeat' (first|exact trivial|refine And.intro rfl ?_)) (hw:Ms vs (wr a)=true:=by rfl):W E (.code (.loop a) R) H Q:=by
 have h:=(W.fZ (Q:=mo id P Q) vs I μ x h0 step hv hw).cP
 refine h.use fun o H' hm=>?_
 cases o with
 | ex e R'=>cases e with
  | exit i =>
   obtain⟨h1,hk⟩:=hm
   simp only[mo]at h1
   split at h1
   ·rename_i e;subst e
    have qe:jR vs R':=kY vs R R' hv fun p hp=>hk _ _ rfl p.1 (qH hw p hp)
    have:=rest _ _ h1
    rwa[js vs R' qe]at this
   ·exact h1
  | normal=>exact hm.1
  | ret=>exact hm.1
 | val v=>exact hm.1
def Ra (P:aj→ae→Prop):Out→ae→Prop
 | .ex .normal R,H=>P R H
 | _,_=>False
def vO (id:Nat)(P:aj→ae→Prop):Out→ae→Prop
 | .ex (.exit i) R,H=>i=id∧P R H
 | _,_=>False
theorem W.AK {E:Env}{a:C}{R:aj}{H:ae}{Q:Out→ae→Prop}(id:Nat)(vs:List (Nat×T))(P:aj→ae→Prop)(h:W E (.code (.loop a) R) H (vO id P))(rest:∀R' H',P R' H'→Q (.ex (.exit id) (Dg vs R')) H')
  (hv:jR vs R:=by repeat' (first|exact trivial|refine And.intro rfl ?_)) (hw:Ms vs (wr a)=true:=by rfl):W E (.code (.loop a) R) H Q:=by
 refine h.cP.use fun o H' hk=>?_
 cases o with
 | ex e R'=>cases e with
  | exit i =>
   obtain⟨⟨rfl,hp⟩,cd⟩:=hk
   have qe:jR vs R':=kY vs R R' hv fun p hp=>cd _ _ rfl p.1 (qH hw p hp)
   have:=rest _ _ hp
   rwa[js vs R' qe]at this
  | normal=>exact hk.1.elim
  | ret=>exact hk.1.elim
 | val v=>exact hk.1.elim
def ig:C→Nat→Option C
 | .block id a,n=>if id=n then some a else ig a n
 | .seq a b,n=>match ig a n with|some c=>some c|none=>ig b n
 | .cond _ a b,n=>match ig a n with|some c=>some c|none=>ig b n
 | .loop a,n=>ig a n
 | _,_=>none
def tb:T→Option Nat
 | .aE c _ _ _=>some c
 | _=>none
end Go.Rmp
end

section
namespace Go.Proofs.Ytodegnhallgnkaa.Ir
open Go.Rmp
set_option maxRecDepth 100000
abbrev op (d:Nat)(b:Bo):O:=⟨some d,.b b,none,[]⟩
abbrev ef (b:Bo):O:=⟨none,.b b,none,[]⟩
abbrev cl (d f:Nat)(az:List X):O:=⟨some d,.call f az,none,[]⟩
abbrev sq (a b:C):C:=.seq a b
abbrev mv (d t:Nat):O:=⟨some d,.b (.aD (.r t)),none,[]⟩
abbrev mt (d t g:Nat):O:=⟨some d,.b (.aD (.r t)),some (g,true),[]⟩
abbrev mf (d t g:Nat):O:=⟨some d,.b (.aD (.r t)),some (g,false),[]⟩
abbrev gt (d g:Nat)(b:Bo):O:=⟨some d,.b b,some (g,true),[]⟩
abbrev gf (d g:Nat)(b:Bo):O:=⟨some d,.b b,some (g,false),[]⟩
abbrev l1 (d a:Nat):O:=⟨some d,.b (.ld 1 false (.r a)),none,[]⟩
abbrev ln (d n a:Nat):O:=⟨some d,.b (.ld n true (.r a)),none,[]⟩
abbrev ia (d n a b:Nat):O:=⟨some d,.b (.jF n (.r a) (.r b)),none,[]⟩
abbrev fa (d n a:Nat):O:=⟨some d,.b (.xZ n (.r a)),none,[]⟩
abbrev se (n a b:Nat):O:=⟨none,.b (.st n (.r a) (.r b)),none,[]⟩
abbrev nc (d a:Nat):O:=⟨some d,.b (.x0 (.r a)),none,[]⟩
abbrev b2 (d:Nat)(o:BinOp)(a b:Nat):O:=⟨some d,.b (.bin o (.r a) (.r b)),none,[]⟩
abbrev xt (d n a:Nat):O:=⟨some d,.b (.ext n (.r a)),none,[]⟩
abbrev fO (d a:Nat):O:=⟨some d,.b (.len .sl (.r a)),none,[]⟩
abbrev so (l:List O)(c:C):C:=.seq (.ops l) c
abbrev cx (t i:Nat):C:=.cond (.r t) .skip (.exit i)
def Ta:An:=⟨[(13,3)],[(21,[(0,true),(1,true),(2,true),(3,true),(4,true),(5,true),(6,true),(7,true),(8,true),(9,true),(10,true),(11,false)]),(45,[(0,true),(1,true),(2,true),(3,true),(4,true),(5,true),(6,true),(7,true),(8,true),(9,true),(10,true),(11,true),(12,true)])]⟩
def Dh:Go.Rmp.Fn:=⟨184,1,[.t 2],so [op 2 (.aD (.c (.bool false)))]<|sq (so [cl 27 7 [],op 28 (.un .not (.r 27))]<|.cond (.r 28) (so [op 2 (.aD (.c (.bool false)))]<|.ret) (.skip))<|so [mv 30 0,cl 31 8 [.r 30],mv 29 31,xt 32 0 29,xt 33 1 29,mv 3 32,mv 4 33]<|sq (so [mv 34 3,op 35 (.my false .ptr (.r 34) (.c .fb))]<|.cond (.r 35) (so [op 2 (.aD (.c (.bool false)))]<|.ret) (.skip))<|so [mv 37 3,mv 38 4,op 39 (.bin .add (.r 38) (.c (.int .i64 40))),cl 40 9 [.r 37,.r 39,(.c (.int .i64 1))],mv 36 40,xt 41 0 36,xt 42 1 36,mv 5 41,mv 6 42]<|so [mv 44 3,mv 45 4,op 46 (.bin .add (.r 45) (.c (.int .i64 40))),cl 47 9 [.r 44,.r 46,(.c (.int .i64 2))],mv 43 47,xt 48 0 43,xt 49 1 43,mv 7 48,mv 8 49]<|so [mv 51 3,mv 52 4,op 53 (.bin .add (.r 52) (.c (.int .i64 40))),cl 54 9 [.r 51,.r 53,(.c (.int .i64 1))],mv 50 54,xt 55 0 50,xt 56 1 50,mv 9 55,mv 10 56]<|so [op 11 (.aD (.c (.sl .nil [])))]<|so [mv 57 11,mv 58 9,op 59 (.app 2 24 false (.r 57) (.r 58)),mv 11 59]<|sq (so [mv 60 5,mv 61 9,cl 62 10 [.r 60,.r 61],op 63 (.un .not (.r 62)),mv 64 63,mf 65 5 64,mf 66 7 64,⟨(some 67),.call 10 [.r 65,.r 66],(some (64,false)),[]⟩,gf 68 64 (.un .not (.r 67)),op 69 (.pick (.r 64) (.c (.bool true)) (.r 68))]<|.cond (.r 69) (so [op 2 (.aD (.c (.bool false)))]<|.ret) (.skip))<|so [mv 70 5,mv 71 7,mv 72 9,op 73 (.Iv 3 [.sl .nil []] [(0,(.r 70)),(1,(.r 71)),(2,(.r 72))]),mv 12 73]<|so [op 74 (.o7 3 [.str ⟨#[]⟩] [(0,(.c (.str ⟨#[48]⟩))),(1,(.c (.str ⟨#[49]⟩))),(2,(.c (.str ⟨#[50]⟩)))]),mv 13 74]<|sq (so [op 14 (.aD (.c (.int .i64 0)))]<|.block 0 (.loop (sq (so [mv 75 14,op 76 (.bin .lss (.r 75) (.c (.int .i64 3)))]<|cx 76 0)<|sq (.block 1 (so [op 15 (.aD (.c (.int .i64 0)))]<|.block 2 (.loop (sq (so [mv 79 15,mv 80 12,mv 81 14,ia 82 1 80 81,l1 83 82,fO 84 83,b2 85 .lss 79 84]<|cx 85 2)<|sq (.block 3 (.ops [mv 88 12,mv 89 14,ia 90 1 88 89,l1 91 90,mv 92 15,mv 93 13,mv 94 14,ia 95 1 93 94,l1 96 95,op 97 (.build [.str ⟨#[]⟩,.int .u64 0] [(0,1,(.r 96))]),ia 98 2 91 92,se 2 98 97]))<|.ops [mv 86 15,op 87 (.bin .add (.r 86) (.c (.int .i64 1))),mv 15 87]))))<|.ops [mv 77 14,op 78 (.bin .add (.r 77) (.c (.int .i64 1))),mv 14 78])))<|sq (so [op 16 (.aD (.c (.int .i64 0)))]<|.block 4 (.loop (sq (so [mv 99 16,op 100 (.bin .lss (.r 99) (.c (.int .i64 3)))]<|cx 100 4)<|sq (.block 5 (so [mv 103 12,mv 104 16,ia 105 1 103 104,l1 106 105,mv 17 106]<|sq (so [op 18 (.aD (.c (.int .i64 0)))]<|.block 6 (.loop (sq (so [mv 107 18,op 108 (.bin .lss (.r 107) (.c (.int .i64 40)))]<|cx 108 6)<|sq (.block 7 (.ops [mv 111 17,op 112 (.build [.str ⟨#[]⟩,.int .u64 0] [(0,1,(.c (.str ⟨#[109,111,114,101]⟩)))]),op 113 (.o7 1 [.str ⟨#[]⟩,.int .u64 0] [(0,(.r 112))]),op 114 (.app 2 24 false (.r 111) (.r 113)),mv 17 114]))<|.ops [mv 109 18,op 110 (.bin .add (.r 109) (.c (.int .i64 1))),mv 18 110])))<|so [mv 115 17,mv 116 12,mv 117 16,ia 118 1 116 117,l1 119 118,fO 120 119,ia 121 2 115 120,fa 122 0 121,l1 123 122,op 124 (.bin .neq (.r 123) (.c (.str ⟨#[109,111,114,101]⟩)))]<|.cond (.r 124) (so [op 2 (.aD (.c (.bool false)))]<|.ret) (.skip)))<|.ops [mv 101 16,op 102 (.bin .add (.r 101) (.c (.int .i64 1))),mv 16 102])))<|so [mv 126 3,mv 127 4,op 128 (.bin .add (.r 127) (.c (.int .i64 40))),cl 129 11 [.r 126,.r 128,(.c (.int .i64 1))],mv 125 129,xt 130 0 125,xt 131 1 125,mv 19 130,mv 20 131]<|so [mv 132 19,mv 133 11,cl 134 10 [.r 132,.r 133],mv 21 134]<|so [mv 136 3,mv 137 4,op 138 (.bin .add (.r 137) (.c (.int .i64 40))),cl 139 11 [.r 136,.r 138,(.c (.int .i64 1))],mv 135 139,xt 140 0 135,xt 141 1 135,mv 22 140,mv 23 141]<|sq (so [op 24 (.aD (.c (.int .i64 0)))]<|.block 8 (.loop (sq (so [mv 142 24,mv 143 19,fO 144 143,b2 145 .lss 142 144]<|cx 145 8)<|sq (.block 9 (.ops [mv 148 19,mv 149 24,op 150 (.build [.str ⟨#[]⟩,.int .u64 0] [(0,1,(.c (.str ⟨#[111,118,101,114]⟩)))]),ia 151 2 148 149,se 2 151 150]))<|.ops [mv 146 24,op 147 (.bin .add (.r 146) (.c (.int .i64 1))),mv 24 147])))<|sq (so [op 25 (.aD (.c (.int .i64 0)))]<|.block 10 (.loop (sq (so [mv 152 25,op 153 (.bin .lss (.r 152) (.c (.int .i64 3)))]<|cx 153 10)<|sq (.block 11 (so [op 26 (.aD (.c (.int .i64 0)))]<|.block 12 (.loop (sq (so [mv 156 26,mv 157 12,mv 158 25,ia 159 1 157 158,l1 160 159,fO 161 160,b2 162 .lss 156 161]<|cx 162 12)<|sq (.block 13 (so [mv 165 12,mv 166 25,ia 167 1 165 166,l1 168 167,mv 169 26,ia 170 2 168 169,fa 171 0 170,l1 172 171,mv 173 13,mv 174 25,ia 175 1 173 174,l1 176 175,b2 177 .neq 172 176]<|.cond (.r 177) (so [op 2 (.aD (.c (.bool false)))]<|.ret) (.skip)))<|.ops [mv 163 26,op 164 (.bin .add (.r 163) (.c (.int .i64 1))),mv 26 164]))))<|.ops [mv 154 25,op 155 (.bin .add (.r 154) (.c (.int .i64 1))),mv 25 155])))<|so [mv 178 21,mv 179 178,mt 180 22 179,gt 181 179 (.len .sl (.r 180)),gt 182 179 (.bin .eql (.r 181) (.c (.int .i64 0))),op 183 (.pick (.r 179) (.r 182) (.c (.bool false))),mv 2 183]<|.ret⟩
def Tb:An:=⟨[],[]⟩
def N9:Go.Rmp.Fn:=⟨81,0,[.t 0],so [op 0 (.aD (.c (.bool false)))]<|so [cl 9 12 [],mv 1 9]<|sq (so [mv 10 1,op 11 (.my false .ptr (.r 10) (.c .fb))]<|.cond (.r 11) (so [op 0 (.aD (.c (.bool false)))]<|.ret) (.skip))<|so [mv 12 1,op 13 (.build [.str ⟨#[]⟩,.str ⟨#[]⟩] [(0,1,(.c (.str ⟨#[97]⟩))),(1,1,(.c (.str ⟨#[120]⟩)))]),op 14 (.o7 1 [.str ⟨#[]⟩,.str ⟨#[]⟩] [(0,(.r 13))]),op 15 (.o7 1 [.str ⟨#[]⟩] [(0,(.c (.str ⟨#[97]⟩)))]),cl 16 14 [.r 12,(.c (.int .u64 65536)),.r 14,.r 15,(.c (.int .i64 0))]]<|so [mv 17 1,cl 18 18 [.r 17,(.c (.int .u64 65536)),(.c (.int .i64 0))]]<|so [mv 19 1,op 20 (.build [.str ⟨#[]⟩,.str ⟨#[]⟩] [(0,1,(.c (.str ⟨#[97]⟩))),(1,1,(.c (.str ⟨#[121]⟩)))]),op 21 (.o7 1 [.str ⟨#[]⟩,.str ⟨#[]⟩] [(0,(.r 20))]),op 22 (.o7 1 [.str ⟨#[]⟩] [(0,(.c (.str ⟨#[97]⟩)))]),cl 23 14 [.r 19,(.c (.int .u64 131072)),.r 21,.r 22,(.c (.int .i64 1))]]<|so [mv 24 1,cl 25 18 [.r 24,(.c (.int .u64 131072)),(.c (.int .i64 3))]]<|so [mv 27 1,cl 28 9 [.r 27,(.c (.int .i64 12)),(.c (.int .i64 10))],mv 26 28,xt 29 0 26,xt 30 1 26,mv 2 29,mv 3 30]<|so [mv 32 1,cl 33 24 [.r 32,(.c (.int .i64 10))],mv 31 33,xt 34 0 31,xt 35 1 31,xt 36 2 31,mv 4 34,mv 5 35,mv 6 36]<|so [mv 38 1,cl 39 11 [.r 38,(.c (.int .i64 13)),(.c (.int .i64 10))],mv 37 39,xt 40 0 37,xt 41 1 37,mv 7 40,mv 8 41]<|so [mv 42 3,op 43 (.bin .eql (.r 42) (.c (.int .i64 0))),mv 44 43,mt 45 6 44,gt 46 44 (.bin .eql (.r 45) (.c (.int .i64 0))),op 47 (.pick (.r 44) (.r 46) (.c (.bool false))),mv 48 47,mt 49 8 48,gt 50 48 (.bin .eql (.r 49) (.c (.int .i64 0))),op 51 (.pick (.r 48) (.r 50) (.c (.bool false))),mv 52 51,mt 53 2 52,gt 54 52 (.len .sl (.r 53)),gt 55 52 (.bin .eql (.r 54) (.c (.int .i64 0))),op 56 (.pick (.r 52) (.r 55) (.c (.bool false))),mv 57 56,mt 58 4 57,gt 59 57 (.bin .eql (.r 58) (.c (.int .i64 13))),op 60 (.pick (.r 57) (.r 59) (.c (.bool false))),mv 61 60,mt 62 5 61,op 63 (.pick (.r 61) (.r 62) (.c (.bool false))),mv 64 63,mt 65 7 64,gt 66 64 (.len .sl (.r 65)),gt 67 64 (.bin .eql (.r 66) (.c (.int .i64 1))),op 68 (.pick (.r 64) (.r 67) (.c (.bool false))),mv 69 68,mt 70 7 69,gt 71 69 (.jF 2 (.r 70) (.c (.int .i64 0))),gt 72 69 (.ld 2 true (.r 71)),gt 73 69 (.build [.str ⟨#[]⟩,.int .u64 0] [(0,1,(.c (.str ⟨#[97]⟩))),(1,1,(.c (.int .u64 65536)))]),gt 74 69 (.eqs false [.str,.int] (.r 72) (.r 73)),op 75 (.pick (.r 69) (.r 74) (.c (.bool false))),mv 76 75,mt 77 1 76,⟨(some 78),.call 28 [.r 77,(.c (.int .u64 65536))],(some (76,true)),[]⟩,gt 79 76 (.bin .eql (.r 78) (.c (.int .i64 0))),op 80 (.pick (.r 76) (.r 79) (.c (.bool false))),mv 0 80]<|.ret⟩
def Tc:An:=⟨[],[]⟩
def Oa:Go.Rmp.Fn:=⟨66,1,[.t 2,.t 3],so [op 2 (.aD (.c .fb)),op 3 (.aD (.c (.int .i64 0)))]<|so [cl 9 12 [],mv 4 9]<|so [op 5 (.aD (.c (.int .i64 0)))]<|sq (so [op 6 (.aD (.c (.int .i64 0)))]<|.block 0 (.loop (sq (so [mv 10 6,mv 11 0,fO 12 11,b2 13 .lss 10 12,mv 14 13,mt 15 4 14,gt 16 14 (.my true .ptr (.r 15) (.c .fb)),op 17 (.pick (.r 14) (.r 16) (.c (.bool false)))]<|cx 17 0)<|sq (.block 1 (so [mv 21 0,mv 22 6,ia 23 5 21 22,ln 24 5 23,cl 25 13 [.r 24],mv 20 25,xt 26 0 20,xt 27 1 20,mv 7 26,mv 8 27]<|so [mv 28 0,mv 29 6,ia 30 5 28 29,fa 31 0 30,l1 32 31]<|.block 2 (so [op 43 (.bin .eql (.r 32) (.c (.int .i64 1))),mv 42 43]<|.cond (.r 42) (.ops [mv 44 4,mv 45 0,mv 46 6,ia 47 5 45 46,ln 48 5 47,cl 49 15 [.r 48],mv 50 7,mv 51 8,mv 52 5,cl 53 14 [.r 44,.r 49,.r 50,.r 51,.r 52]]) (so [op 55 (.bin .eql (.r 32) (.c (.int .i64 2))),mv 54 55]<|.cond (.r 54) (.ops [mv 56 4,mv 57 0,mv 58 6,ia 59 5 57 58,ln 60 5 59,cl 61 15 [.r 60],mv 62 5,cl 63 18 [.r 56,.r 61,.r 62]]) (.ops [mv 33 5,mv 34 0,mv 35 6,ia 36 5 34 35,fa 37 1 36,l1 38 37,op 39 (.bin .and (.r 38) (.c (.int .u64 7))),op 40 (.td .i64 (.r 39)),b2 41 .add 33 40,mv 5 41])))))<|.ops [mv 18 6,op 19 (.bin .add (.r 18) (.c (.int .i64 1))),mv 6 19])))<|so [mv 64 4,mv 65 5,mv 2 64,mv 3 65]<|.ret⟩
def Td:An:=⟨[(8,9)],[]⟩
def Ob:Go.Rmp.Fn:=⟨53,3,[.t 6,.t 7],so [op 6 (.aD (.c (.sl .nil []))),op 7 (.aD (.c (.int .i64 0)))]<|sq (so [mv 11 0,op 12 (.my false .ptr (.r 11) (.c .fb)),mv 13 12,mf 14 1 13,⟨(some 15),.call 29 [.r 14],(some (13,false)),[]⟩,gf 16 13 (.un .not (.r 15)),op 17 (.pick (.r 13) (.c (.bool true)) (.r 16)),mv 18 17,mf 19 2 18,⟨(some 20),.call 30 [.r 19],(some (18,false)),[]⟩,gf 21 18 (.un .not (.r 20)),op 22 (.pick (.r 18) (.c (.bool true)) (.r 21))]<|.cond (.r 22) (so [op 6 (.aD (.c (.sl .nil []))),op 7 (.aD (.c (.int .i64 1)))]<|.ret) (.skip))<|so [op 8 (.aD (.c (.sl .nil [])))]<|sq (so [mv 23 0,cl 24 21 [.r 23],fO 25 24,op 26 (.aD (.c (.int .i64 0)))]<|.block 0 (.loop (so [b2 27 .lss 26 25]<|sq (cx 27 0)<|sq (.block 1 (so [ia 28 5 24 26,ln 29 5 28,op 10 (.alloc [.str ⟨#[]⟩,.int .u64 0,.str ⟨#[]⟩,.sl .nil [],.int .i64 0]),se 5 10 29]<|so [fa 30 4 10,l1 31 30,op 32 (.bin .geq (.r 31) (.c (.int .i64 0))),mv 33 32,gt 34 33 (.xZ 4 (.r 10)),gt 35 33 (.ld 1 false (.r 34)),mt 36 1 33,mt 37 2 33,gt 38 33 (.bin .sub (.r 36) (.r 37)),gt 39 33 (.bin .leq (.r 35) (.r 38)),op 40 (.pick (.r 33) (.r 39) (.c (.bool false)))]<|.cond (.r 40) (.ops [mv 41 8,fa 42 0 10,fa 43 0 42,l1 44 43,fa 45 0 10,fa 46 1 45,l1 47 46,op 48 (.build [.str ⟨#[]⟩,.int .u64 0] [(0,1,(.r 44)),(1,1,(.r 47))]),op 49 (.o7 1 [.str ⟨#[]⟩,.int .u64 0] [(0,(.r 48))]),op 50 (.app 2 24 true (.r 41) (.r 49)),mv 8 50]) (.skip)))<|.ops [op 51 (.bin .add (.r 26) (.c (.int .i64 1))),mv 26 51])))<|so [mv 52 8,mv 6 52,op 7 (.aD (.c (.int .i64 0)))]<|.ret⟩
def Oc:An:=⟨[],[(6,[(0,true),(1,true),(2,true),(3,true),(4,true),(5,true),(6,true),(7,true),(8,true)])]⟩
def Di:Go.Rmp.Fn:=⟨26,2,[.t 4],so [op 4 (.aD (.c (.bool false)))]<|sq (so [mv 6 0,fO 7 6,mv 8 1,fO 9 8,b2 10 .neq 7 9]<|.cond (.r 10) (so [op 4 (.aD (.c (.bool false)))]<|.ret) (.skip))<|sq (so [op 5 (.aD (.c (.int .i64 0)))]<|.block 0 (.loop (sq (so [mv 11 5,mv 12 0,fO 13 12,b2 14 .lss 11 13]<|cx 14 0)<|sq (.block 1 (so [mv 17 0,mv 18 5,ia 19 2 17 18,ln 20 2 19,mv 21 1,mv 22 5,ia 23 2 21 22,ln 24 2 23,op 25 (.eqs true [.str,.int] (.r 20) (.r 24))]<|.cond (.r 25) (so [op 4 (.aD (.c (.bool false)))]<|.ret) (.skip)))<|.ops [mv 15 5,op 16 (.bin .add (.r 15) (.c (.int .i64 1))),mv 5 16])))<|so [op 4 (.aD (.c (.bool true)))]<|.ret⟩
def Od:An:=⟨[],[]⟩
def Gp:Go.Rmp.Fn:=⟨34,3,[.t 6,.t 7],so [op 6 (.aD (.c (.sl .nil []))),op 7 (.aD (.c (.int .i64 0)))]<|so [mv 13 0,mv 14 1,mv 15 2,cl 16 9 [.r 13,.r 14,.r 15],mv 12 16,xt 17 0 12,xt 18 1 12,mv 8 17,mv 9 18]<|sq (so [mv 19 8,fO 20 19,op 21 (.aD (.c (.int .i64 0)))]<|.block 0 (.loop (so [b2 22 .lss 21 20]<|sq (cx 22 0)<|sq (.block 1 (so [ia 23 2 19 21,ln 24 2 23,op 11 (.alloc [.str ⟨#[]⟩,.int .u64 0]),se 2 11 24]<|.ops [mv 25 0,fa 26 0 11,l1 27 26,fa 28 1 11,l1 29 28,cl 30 31 [.r 25,.r 27,.r 29]]))<|.ops [op 31 (.bin .add (.r 21) (.c (.int .i64 1))),mv 21 31])))<|so [mv 32 8,mv 33 9,mv 6 32,mv 7 33]<|.ret⟩
def Oe:An:=⟨[],[]⟩
def Gq:Go.Rmp.Fn:=⟨7,0,[.t 0],so [op 0 (.aD (.c .fb))]<|so [op 1 (.wq),op 2 (.wq),op 3 (.wq),op 4 (.wq),op 5 (.build [.fc,.fc,.fc,.fc] [(0,1,(.r 1)),(1,1,(.r 2)),(2,1,(.r 3)),(3,1,(.r 4))]),op 6 (.box (.r 5)),mv 0 6]<|.ret⟩
def Of:An:=⟨[],[(7,[(0,true),(1,true),(2,true),(3,true),(4,true),(5,true),(6,true),(7,true),(8,true),(9,true),(10,true),(11,true),(12,true),(13,true),(14,false),(15,false)])]⟩
def Gr:Go.Rmp.Fn:=⟨40,1,[.t 2,.t 3],so [op 1 (.box (.r 0)),op 2 (.aD (.c (.sl .nil []))),op 3 (.aD (.c (.sl .nil [])))]<|so [fa 8 2 1,l1 9 8,cl 10 32 [.r 9],mv 4 10]<|so [fa 11 2 1,l1 12 11,fa 13 3 1,l1 14 13,b2 15 .and 12 14,cl 16 32 [.r 15],mv 5 16]<|so [op 6 (.aD (.c (.sl .nil [])))]<|sq (so [op 7 (.aD (.c (.int .i64 0)))]<|.block 0 (.loop (sq (so [mv 17 7,mv 18 5,fO 19 18,b2 20 .lss 17 19]<|cx 20 0)<|sq (.block 1 (.ops [mv 23 6,mv 24 5,mv 25 7,ia 26 1 24 25,l1 27 26,fa 28 4 1,l1 29 28,fa 30 4 1,l1 31 30,op 32 (.len .str (.r 31)),op 33 (.mn (.r 32) (.c (.int .i64 300))),op 34 (.Iq (.r 29) none (some (.r 33))),op 35 (.build [.str ⟨#[]⟩,.str ⟨#[]⟩] [(0,1,(.r 27)),(1,1,(.r 34))]),op 36 (.o7 1 [.str ⟨#[]⟩,.str ⟨#[]⟩] [(0,(.r 35))]),op 37 (.app 2 32 false (.r 23) (.r 36)),mv 6 37]))<|.ops [mv 21 7,op 22 (.bin .add (.r 21) (.c (.int .i64 1))),mv 7 22])))<|so [mv 38 6,mv 39 4,mv 2 38,mv 3 39]<|.ret⟩
def Og:An:=⟨[],[(8,[(0,true),(1,true),(2,true),(3,true),(4,true),(5,true),(6,true),(7,true),(8,true),(9,true),(10,false),(11,true)]),(12,[(0,true),(1,true),(2,true),(3,true),(4,true),(5,true),(6,true),(7,true),(8,true)]),(14,[(0,true),(1,true),(2,true),(3,true),(4,true),(6,true),(5,false),(7,true),(8,false)])]⟩
def Dj:Go.Rmp.Fn:=⟨70,5,[.t 10,.t 11],so [op 10 (.aD (.c (.bool false))),op 11 (.aD (.c (.int .i64 0)))]<|sq (so [mv 19 1,mv 20 2,mv 21 3,cl 22 33 [.r 19,.r 20,.r 21],op 23 (.un .not (.r 22)),mv 24 23,mf 25 4 24,⟨(some 26),.call 34 [.r 25],(some (24,false)),[]⟩,gf 27 24 (.un .not (.r 26)),op 28 (.pick (.r 24) (.c (.bool true)) (.r 27))]<|.cond (.r 28) (so [op 10 (.aD (.c (.bool false))),op 11 (.aD (.c (.int .i64 1)))]<|.ret) (.skip))<|so [op 12 (.aD (.c (.bool false)))]<|sq (so [mv 29 2,fO 30 29,op 31 (.aD (.c (.int .i64 0)))]<|.block 0 (.loop (so [b2 32 .lss 31 30]<|sq (cx 32 0)<|sq (.block 1 (so [ia 33 2 29 31,ln 34 2 33,op 14 (.alloc [.str ⟨#[]⟩,.str ⟨#[]⟩]),se 2 14 34]<|so [fa 35 0 14,l1 36 35,mv 37 1,op 38 (.build [.str ⟨#[]⟩,.int .u64 0] [(0,1,(.r 36)),(1,1,(.r 37))]),op 15 (.alloc [.str ⟨#[]⟩,.int .u64 0]),se 2 15 38]<|sq (so [mv 40 0,nc 41 40,fa 42 0 41,l1 43 42,ln 44 2 15,op 45 (.ma (.st [.str,.int]) (.agg [.str ⟨#[]⟩,.sl .nil [],.int .i64 0]) true (.r 43) (.r 44)),mv 39 45,xt 46 0 39,xt 47 1 39,op 16 (.alloc [.str ⟨#[]⟩,.sl .nil [],.int .i64 0]),se 3 16 46,mv 17 47]<|so [mv 48 17]<|.cond (.r 48) (.exit 1) (.skip))<|so [op 12 (.aD (.c (.bool true)))]<|so [op 18 (.aD (.c (.int .i64 (-1))))]<|sq (so [mv 49 1,mv 50 0,nc 51 50,fa 52 3 51,l1 53 52,fa 54 0 14,l1 55 54,op 56 (.ma (.sc .str) (.int .u64 0) false (.r 53) (.r 55)),b2 57 .lss 49 56]<|.cond (.r 57) (.ops [mv 58 4,mv 18 58]) (.skip))<|.ops [mv 59 0,ln 60 2 15,fa 61 1 14,l1 62 61,mv 63 3,mv 65 18,⟨(some 64),.call 36 [.r 63],none,[⟨60,.ld 2 true (.r 15),none⟩,⟨62,.ld 1 false (.r 61),none⟩]⟩,op 66 (.build [.str ⟨#[]⟩,.sl .nil [],.int .i64 0] [(0,1,(.r 62)),(1,1,(.r 64)),(2,1,(.r 65))]),cl 67 35 [.r 59,.r 60,.r 66]]))<|.ops [op 68 (.bin .add (.r 31) (.c (.int .i64 1))),mv 31 68])))<|so [mv 69 12,mv 10 69,op 11 (.aD (.c (.int .i64 0)))]<|.ret⟩
def Oh:An:=⟨[],[]⟩
def Gs:Go.Rmp.Fn:=⟨13,1,[.t 2],so [op 1 (.box (.r 0)),op 2 (.aD (.c (.int .u64 0)))]<|so [fa 3 1 1,l1 4 3,op 5 (.bin .shr (.r 4) (.c (.int .u64 2))),op 6 (.bin .and (.r 5) (.c (.int .u64 15))),op 7 (.bin .add (.c (.int .u64 1)) (.r 6)),op 8 (.bin .mul (.c (.int .u64 65536)) (.r 7)),fa 9 1 1,l1 10 9,op 11 (.bin .and (.r 10) (.c (.int .u64 3))),b2 12 .add 8 11,mv 2 12]<|.ret⟩
def Oi:An:=⟨[],[(15,[(0,true),(1,true),(2,true),(3,true),(4,true),(5,true),(6,true),(7,true),(8,false)])]⟩
def Gt:Go.Rmp.Fn:=⟨89,3,[.t 6,.t 7],so [op 6 (.aD (.c (.int .i64 0))),op 7 (.aD (.c (.int .i64 0)))]<|sq (so [mv 13 1,op 14 (.bin .lss (.r 13) (.c (.int .u64 65536))),mv 15 14,mf 16 2 15,⟨(some 17),.call 34 [.r 16],(some (15,false)),[]⟩,gf 18 15 (.un .not (.r 17)),op 19 (.pick (.r 15) (.c (.bool true)) (.r 18))]<|.cond (.r 19) (so [op 6 (.aD (.c (.int .i64 0))),op 7 (.aD (.c (.int .i64 1)))]<|.ret) (.skip))<|sq (so [mv 20 0,nc 21 20,fa 22 2 21,l1 23 22,mv 24 1,op 25 (.ma (.sc .int) (.sl .nil []) false (.r 23) (.r 24)),fO 26 25,op 27 (.aD (.c (.int .i64 0)))]<|.block 0 (.loop (so [b2 28 .lss 27 26]<|sq (cx 28 0)<|sq (.block 1 (so [ia 29 1 25 27,l1 30 29,mv 9 30]<|sq (so [mv 31 0,nc 32 31,fa 33 3 32,l1 34 33,mv 35 9,op 36 (.ma (.sc .str) (.int .u64 0) false (.r 34) (.r 35)),mv 37 1,b2 38 .geq 36 37]<|.cond (.r 38) (.exit 1) (.skip))<|so [mv 39 0,nc 40 39,fa 41 3 40,l1 42 41,mv 43 9,mv 44 1,ef (.xS (.sc .str) (.r 42) (.r 43) (.r 44))]<|so [mv 45 0,nc 46 45,fa 47 1 46,l1 48 47,mv 49 9,op 50 (.ma (.sc .str) (.sl .nil []) false (.r 48) (.r 49)),fO 51 50,op 52 (.aD (.c (.int .i64 0)))]<|.block 2 (.loop (so [b2 53 .lss 52 51]<|sq (cx 53 2)<|sq (.block 3 (so [ia 54 1 50 52,l1 55 54,mv 11 55]<|sq (so [mv 56 11,mv 57 1,b2 58 .geq 56 57]<|.cond (.r 58) (.exit 2) (.skip))<|so [mv 59 0,nc 60 59,fa 61 0 60,l1 62 61,mv 63 9,mv 64 11,op 65 (.build [.str ⟨#[]⟩,.int .u64 0] [(0,1,(.r 63)),(1,1,(.r 64))]),op 66 (.ma (.st [.str,.int]) (.agg [.str ⟨#[]⟩,.sl .nil [],.int .i64 0]) false (.r 62) (.r 65)),op 12 (.alloc [.str ⟨#[]⟩,.sl .nil [],.int .i64 0]),se 3 12 66]<|so [fa 67 2 12,l1 68 67,op 69 (.bin .eql (.r 68) (.c (.int .i64 (-1))))]<|.cond (.r 69) (so [mv 70 2,fa 71 2 12,se 1 71 70]<|.ops [mv 72 0,nc 73 72,fa 74 0 73,l1 75 74,mv 76 9,mv 77 11,op 78 (.build [.str ⟨#[]⟩,.int .u64 0] [(0,1,(.r 76)),(1,1,(.r 77))]),ln 79 3 12,ef (.xS (.st [.str,.int]) (.r 75) (.r 78) (.r 79))]) (.skip)))<|.ops [op 80 (.bin .add (.r 52) (.c (.int .i64 1))),mv 52 80]))))<|.ops [op 81 (.bin .add (.r 27) (.c (.int .i64 1))),mv 27 81])))<|so [mv 82 0,nc 83 82,fa 84 2 83,l1 85 84,mv 86 1,op 87 (.ma (.sc .int) (.sl .nil []) false (.r 85) (.r 86)),fO 88 87,mv 6 88,op 7 (.aD (.c (.int .i64 0)))]<|.ret⟩
def Oj:An:=⟨[],[(5,[(0,true),(1,true),(2,true),(4,true),(5,true),(6,true),(7,true),(8,true),(9,true),(10,true),(3,false),(11,true),(12,true),(13,false),(14,false)])]⟩
def Gu:Go.Rmp.Fn:=⟨33,1,[.t 2],so [op 2 (.aD (.c (.sl .nil [])))]<|so [op 3 (.aD (.c (.sl .nil [])))]<|sq (so [mv 6 0,nc 7 6,fa 8 0 7,l1 9 8,cl 10 39 [.r 9],cl 11 38 [.r 10,(.c (.fn 40 []))],fO 12 11,op 13 (.aD (.c (.int .i64 0)))]<|.block 0 (.loop (so [b2 14 .lss 13 12]<|sq (cx 14 0)<|sq (.block 1 (so [ia 15 2 11 13,ln 16 2 15,op 5 (.alloc [.str ⟨#[]⟩,.int .u64 0]),se 2 5 16]<|.ops [mv 17 3,mv 18 0,ln 19 2 5,mv 21 0,nc 22 21,fa 23 0 22,l1 24 23,ln 25 2 5,op 26 (.ma (.st [.str,.int]) (.agg [.str ⟨#[]⟩,.sl .nil [],.int .i64 0]) false (.r 24) (.r 25)),op 27 (.Jc 2 1 false (.r 26)),⟨(some 20),.call 37 [.r 18,.r 19],none,[⟨24,.ld 1 false (.r 23),none⟩,⟨25,.ld 2 true (.r 5),none⟩,⟨26,.ma (.st [.str,.int]) (.agg [.str ⟨#[]⟩,.sl .nil [],.int .i64 0]) false (.r 24) (.r 25),none⟩]⟩,op 28 (.build [.str ⟨#[]⟩,.int .u64 0,.str ⟨#[]⟩,.sl .nil [],.int .i64 0] [(0,4,(.r 20)),(4,1,(.r 27))]),op 29 (.o7 1 [.str ⟨#[]⟩,.int .u64 0,.str ⟨#[]⟩,.sl .nil [],.int .i64 0] [(0,(.r 28))]),op 30 (.app 5 72 false (.r 17) (.r 29)),mv 3 30]))<|.ops [op 31 (.bin .add (.r 13) (.c (.int .i64 1))),mv 13 31])))<|so [mv 32 3,mv 2 32]<|.ret⟩
def Ol:An:=⟨[],[]⟩
def Gv:Go.Rmp.Fn:=⟨47,2,[.t 4,.t 5,.t 6],so [op 4 (.aD (.c (.int .i64 0))),op 5 (.aD (.c (.bool false))),op 6 (.aD (.c (.int .i64 0)))]<|sq (so [mv 11 0,op 12 (.my false .ptr (.r 11) (.c .fb)),mv 13 12,mf 14 1 13,⟨(some 15),.call 30 [.r 14],(some (13,false)),[]⟩,gf 16 13 (.un .not (.r 15)),op 17 (.pick (.r 13) (.c (.bool true)) (.r 16))]<|.cond (.r 17) (so [op 4 (.aD (.c (.int .i64 0))),op 5 (.aD (.c (.bool false))),op 6 (.aD (.c (.int .i64 1)))]<|.ret) (.skip))<|so [op 7 (.aD (.c (.int .i64 0))),op 8 (.aD (.c (.bool false)))]<|sq (so [mv 18 0,cl 19 21 [.r 18],fO 20 19,op 21 (.aD (.c (.int .i64 0)))]<|.block 0 (.loop (so [b2 22 .lss 21 20]<|sq (cx 22 0)<|sq (.block 1 (so [ia 23 5 19 21,ln 24 5 23,op 10 (.alloc [.str ⟨#[]⟩,.int .u64 0,.str ⟨#[]⟩,.sl .nil [],.int .i64 0]),se 5 10 24]<|so [fa 25 4 10,l1 26 25,op 27 (.bin .geq (.r 26) (.c (.int .i64 0))),mv 28 27,mt 29 8 28,gt 30 28 (.un .not (.r 29)),mt 31 30 28,gf 32 31 (.xZ 4 (.r 10)),gf 33 31 (.ld 1 false (.r 32)),mf 34 1 31,gf 35 31 (.bin .add (.r 33) (.r 34)),mf 36 7 31,gf 37 31 (.bin .lss (.r 35) (.r 36)),gt 38 28 (.pick (.r 31) (.c (.bool true)) (.r 37)),op 39 (.pick (.r 28) (.r 38) (.c (.bool false)))]<|.cond (.r 39) (.ops [fa 40 4 10,l1 41 40,mv 42 1,b2 43 .add 41 42,mv 7 43,op 8 (.aD (.c (.bool true)))]) (.skip)))<|.ops [op 44 (.bin .add (.r 21) (.c (.int .i64 1))),mv 21 44])))<|so [mv 45 7,mv 46 8,mv 4 45,mv 5 46,op 6 (.aD (.c (.int .i64 0)))]<|.ret⟩
def Om:An:=⟨[],[]⟩
def Gw:Go.Rmp.Fn:=⟨12,2,[.t 4],so [op 4 (.aD (.c (.int .i64 0)))]<|so [mv 5 0,nc 6 5,fa 7 2 6,l1 8 7,mv 9 1,op 10 (.ma (.sc .int) (.sl .nil []) false (.r 8) (.r 9)),fO 11 10,mv 4 11]<|.ret⟩
def On:An:=⟨[],[]⟩
def Gx:Go.Rmp.Fn:=⟨9,1,[.t 2],so [op 2 (.aD (.c (.bool false)))]<|so [mv 3 0,op 4 (.bin .geq (.r 3) (.c (.int .i64 0))),mv 5 4,mt 6 0 5,gt 7 5 (.bin .leq (.r 6) (.c (.int .i64 1099511627776))),op 8 (.pick (.r 5) (.r 7) (.c (.bool false))),mv 2 8]<|.ret⟩
def Oo:An:=⟨[],[]⟩
def Gy:Go.Rmp.Fn:=⟨9,1,[.t 2],so [op 2 (.aD (.c (.bool false)))]<|so [mv 3 0,op 4 (.bin .geq (.r 3) (.c (.int .i64 0))),mv 5 4,mt 6 0 5,gt 7 5 (.bin .leq (.r 6) (.c (.int .i64 1048576))),op 8 (.pick (.r 5) (.r 7) (.c (.bool false))),mv 2 8]<|.ret⟩
def Oq:An:=⟨[],[(2,[(0,true),(1,true),(2,true),(3,true),(4,true),(5,true),(6,true),(7,true),(8,true),(9,true),(10,false),(11,true)]),(7,[(0,true),(1,true),(2,true),(3,true),(4,true),(5,false)]),(8,[(0,true),(1,true),(2,true),(3,true),(4,true),(5,true),(6,true),(7,true),(8,true),(9,true),(10,true),(11,true),(12,false),(13,false)]),(9,[(0,true),(1,true),(2,true),(3,true),(4,true),(5,true),(6,true),(7,true),(8,true),(9,true),(10,true),(11,true),(12,false),(13,false)])]⟩
def AL:Go.Rmp.Fn:=⟨71,3,[.t 6],so [op 6 (.aD (.c (.int .i64 0)))]<|so [mv 10 1,mv 11 2,op 12 (.build [.str ⟨#[]⟩,.int .u64 0] [(0,1,(.r 10)),(1,1,(.r 11))]),op 7 (.alloc [.str ⟨#[]⟩,.int .u64 0]),se 2 7 12]<|so [mv 14 0,nc 15 14,fa 16 0 15,l1 17 16,ln 18 2 7,op 19 (.ma (.st [.str,.int]) (.agg [.str ⟨#[]⟩,.sl .nil [],.int .i64 0]) true (.r 17) (.r 18)),mv 13 19,xt 20 0 13,xt 21 1 13,op 8 (.alloc [.str ⟨#[]⟩,.sl .nil [],.int .i64 0]),se 3 8 20,mv 9 21]<|sq (so [mv 22 9,op 23 (.un .not (.r 22))]<|.cond (.r 23) (so [op 6 (.aD (.c (.int .i64 110)))]<|.ret) (.skip))<|sq (so [fa 24 2 8,l1 25 24,op 26 (.bin .eql (.r 25) (.c (.int .i64 (-1))))]<|.cond (.r 26) (so [op 6 (.aD (.c (.int .i64 1)))]<|.ret) (.skip))<|so [mv 27 0,nc 28 27,fa 29 0 28,l1 30 29,ln 31 2 7,ef (.del (.st [.str,.int]) (.r 30) (.r 31))]<|so [mv 32 0,nc 33 32,fa 34 1 33,l1 35 34,mv 36 1,mv 37 0,nc 38 37,fa 39 1 38,l1 40 39,mv 41 1,op 42 (.ma (.sc .str) (.sl .nil []) false (.r 40) (.r 41)),mv 43 2,⟨(some 44),.call 44 [.r 42,.r 43],none,[⟨35,.ld 1 false (.r 34),none⟩]⟩,ef (.xS (.sc .str) (.r 35) (.r 36) (.r 44))]<|so [mv 45 0,nc 46 45,fa 47 2 46,l1 48 47,mv 49 2,mv 50 0,nc 51 50,fa 52 2 51,l1 53 52,mv 54 2,op 55 (.ma (.sc .int) (.sl .nil []) false (.r 53) (.r 54)),mv 56 1,⟨(some 57),.call 45 [.r 55,.r 56],none,[⟨48,.ld 1 false (.r 47),none⟩]⟩,ef (.xS (.sc .int) (.r 48) (.r 49) (.r 57))]<|sq (so [mv 58 0,nc 59 58,fa 60 2 59,l1 61 60,mv 62 2,op 63 (.ma (.sc .int) (.sl .nil []) false (.r 61) (.r 62)),fO 64 63,op 65 (.bin .eql (.r 64) (.c (.int .i64 0)))]<|.cond (.r 65) (.ops [mv 66 0,nc 67 66,fa 68 2 67,l1 69 68,mv 70 2,ef (.del (.sc .int) (.r 69) (.r 70))]) (.skip))<|so [op 6 (.aD (.c (.int .i64 0)))]<|.ret⟩
def Ot:An:=⟨[],[]⟩
def Gz:Go.Rmp.Fn:=⟨24,1,[.t 2],so [op 2 (.aD (.c (.sl .nil [])))]<|so [op 6 (.o7 6 [.str ⟨#[]⟩] [(0,(.c (.str ⟨#[]⟩))),(1,(.c (.str ⟨#[97]⟩))),(2,(.c (.str ⟨#[98]⟩))),(3,(.c (.str ⟨#[99]⟩))),(4,(.c (.str ⟨#[100]⟩))),(5,(.c (.str ⟨#[101]⟩)))]),mv 3 6]<|so [op 4 (.aD (.c (.sl .nil [])))]<|sq (so [op 5 (.aD (.c (.int .i64 0)))]<|.block 0 (.loop (sq (so [mv 7 5,op 8 (.bin .lss (.r 7) (.c (.int .i64 6)))]<|cx 8 0)<|sq (.block 1 (so [mv 11 0,mv 12 5,b2 13 .shr 11 12,op 14 (.bin .and (.r 13) (.c (.int .u8 1))),op 15 (.bin .eql (.r 14) (.c (.int .u8 1)))]<|.cond (.r 15) (.ops [mv 16 4,mv 17 3,mv 18 5,ia 19 1 17 18,l1 20 19,op 21 (.o7 1 [.str ⟨#[]⟩] [(0,(.r 20))]),op 22 (.app 1 16 false (.r 16) (.r 21)),mv 4 22]) (.skip)))<|.ops [mv 9 5,op 10 (.bin .add (.r 9) (.c (.int .i64 1))),mv 5 10])))<|so [mv 23 4,mv 2 23]<|.ret⟩
def Ou:An:=⟨[],[(6,[(0,true),(1,true),(2,true),(3,true),(4,true),(5,true),(6,true),(7,true),(8,true),(9,true),(10,true),(11,true),(12,true),(13,true),(14,true),(15,true),(16,true),(17,false),(18,true),(19,true),(20,true),(21,true),(22,true),(23,true),(24,true),(25,true)])]⟩
def Dk:Go.Rmp.Fn:=⟨55,3,[.t 6],so [op 6 (.aD (.c (.bool false)))]<|sq (so [mv 9 0,op 10 (.bin .lss (.r 9) (.c (.int .u64 65536))),mv 11 10,mf 12 2 11,⟨(some 13),.call 46 [.r 12],(some (11,false)),[]⟩,gf 14 11 (.un .not (.r 13)),op 15 (.pick (.r 11) (.c (.bool true)) (.r 14)),mv 16 15,mf 17 1 16,gf 18 16 (.len .sl (.r 17)),gf 19 16 (.bin .lss (.r 18) (.c (.int .i64 1))),op 20 (.pick (.r 16) (.c (.bool true)) (.r 19))]<|.cond (.r 20) (so [op 6 (.aD (.c (.bool false)))]<|.ret) (.skip))<|sq (so [mv 21 1,fO 22 21,op 23 (.aD (.c (.int .i64 0)))]<|.block 0 (.loop (so [b2 24 .lss 23 22]<|sq (cx 24 0)<|sq (.block 1 (so [mv 25 23,ia 26 2 21 23,ln 27 2 26,op 8 (.alloc [.str ⟨#[]⟩,.str ⟨#[]⟩]),mv 7 25,se 2 8 27]<|so [mv 28 7,op 29 (.bin .gtr (.r 28) (.c (.int .i64 0))),mv 30 29,gt 31 30 (.xZ 0 (.r 8)),gt 32 30 (.ld 1 false (.r 31)),mt 33 1 30,mt 34 7 30,gt 35 30 (.bin .sub (.r 34) (.c (.int .i64 1))),gt 36 30 (.jF 2 (.r 33) (.r 35)),gt 37 30 (.xZ 0 (.r 36)),gt 38 30 (.ld 1 false (.r 37)),gt 39 30 (.bin .leq (.r 32) (.r 38)),op 40 (.pick (.r 30) (.r 39) (.c (.bool false))),mv 41 40,mf 42 2 41,gf 43 41 (.xZ 0 (.r 8)),gf 44 41 (.ld 1 false (.r 43)),⟨(some 45),.call 47 [.r 42,.r 44],(some (41,false)),[]⟩,gf 46 41 (.un .not (.r 45)),op 47 (.pick (.r 41) (.c (.bool true)) (.r 46)),mv 48 47,gf 49 48 (.xZ 1 (.r 8)),gf 50 48 (.ld 1 false (.r 49)),gf 51 48 (.len .str (.r 50)),gf 52 48 (.bin .gtr (.r 51) (.c (.int .i64 65535))),op 53 (.pick (.r 48) (.c (.bool true)) (.r 52))]<|.cond (.r 53) (so [op 6 (.aD (.c (.bool false)))]<|.ret) (.skip)))<|.ops [op 54 (.bin .add (.r 23) (.c (.int .i64 1))),mv 23 54])))<|so [op 6 (.aD (.c (.bool true)))]<|.ret⟩
def Ov:An:=⟨[],[]⟩
def Dl:Go.Rmp.Fn:=⟨9,1,[.t 2],so [op 2 (.aD (.c (.bool false)))]<|so [mv 3 0,op 4 (.bin .geq (.r 3) (.c (.int .i64 0))),mv 5 4,mt 6 0 5,gt 7 5 (.bin .leq (.r 6) (.c (.int .i64 1099511627776))),op 8 (.pick (.r 5) (.r 7) (.c (.bool false))),mv 2 8]<|.ret⟩
def Ox:An:=⟨[(3,16),(4,16)],[(1,[(0,true),(1,true),(2,true),(3,true),(4,true),(5,true),(6,false)]),(2,[(0,true),(1,true),(2,true),(3,true),(4,true),(5,true),(6,true),(7,true),(8,true),(9,false),(10,true),(11,true),(12,true),(13,true),(14,true)]),(3,[(0,true),(1,true),(2,true),(3,true),(4,true),(5,true),(6,true),(7,true),(8,true),(9,true),(10,true),(11,true),(12,true),(13,true),(14,true),(15,true),(16,false),(17,false),(18,false)]),(4,[(0,true),(1,true),(2,true),(3,true),(4,true),(5,true),(6,true),(7,true),(8,true),(9,true),(10,true),(11,true),(12,true),(13,true),(14,true),(15,true),(16,false),(17,false)])]⟩
def GA:Go.Rmp.Fn:=⟨62,3,[],so [op 4 (.box (.r 1)),op 5 (.box (.r 2))]<|so [mv 8 0,nc 9 8,fa 10 0 9,l1 11 10,ln 12 2 4,ln 13 3 5,ef (.xS (.st [.str,.int]) (.r 11) (.r 12) (.r 13))]<|so [mv 15 0,nc 16 15,fa 17 1 16,l1 18 17,fa 19 0 4,l1 20 19,op 21 (.ma (.sc .str) (.sl .nil []) false (.r 18) (.r 20)),fa 22 1 4,l1 23 22,cl 24 48 [.r 21,.r 23],mv 14 24,xt 25 0 14,xt 26 1 14,mv 6 25,mv 7 26]<|so [mv 27 0,nc 28 27,fa 29 1 28,l1 30 29,fa 31 0 4,l1 32 31,mv 33 0,nc 34 33,fa 35 1 34,l1 36 35,fa 37 0 4,l1 38 37,op 39 (.ma (.sc .str) (.sl .nil []) false (.r 36) (.r 38)),mv 40 6,fa 41 1 4,l1 42 41,⟨(some 43),.b (.Iv 1 [.int .u64 0] [(0,(.r 42))]),none,[⟨30,.ld 1 false (.r 29),none⟩,⟨32,.ld 1 false (.r 31),none⟩,⟨36,.ld 1 false (.r 35),none⟩,⟨38,.ld 1 false (.r 37),none⟩,⟨39,.ma (.sc .str) (.sl .nil []) false (.r 36) (.r 38),none⟩]⟩,⟨(some 44),.call 49 [.r 39,.r 40,.r 43],none,[⟨30,.ld 1 false (.r 29),none⟩,⟨32,.ld 1 false (.r 31),none⟩]⟩,ef (.xS (.sc .str) (.r 30) (.r 32) (.r 44))]<|.ops [mv 45 0,nc 46 45,fa 47 2 46,l1 48 47,fa 49 1 4,l1 50 49,mv 51 0,nc 52 51,fa 53 2 52,l1 54 53,fa 55 1 4,l1 56 55,op 57 (.ma (.sc .int) (.sl .nil []) false (.r 54) (.r 56)),fa 58 0 4,l1 59 58,op 60 (.o7 1 [.str ⟨#[]⟩] [(0,(.r 59))]),⟨(some 61),.b (.app 1 16 true (.r 57) (.r 60)),none,[⟨48,.ld 1 false (.r 47),none⟩,⟨50,.ld 1 false (.r 49),none⟩]⟩,ef (.xS (.sc .int) (.r 48) (.r 50) (.r 61))]⟩
def Oy:An:=⟨[],[]⟩
def qI:Go.Rmp.Fn:=⟨8,1,[.t 2],so [op 2 (.aD (.c (.sl .nil [])))]<|sq (so [mv 3 0,op 4 (.my false .slice (.r 3) (.c (.sl .nil [])))]<|.cond (.r 4) (so [op 2 (.aD (.c (.sl .nil [])))]<|.ret) (.skip))<|so [op 5 (.o7 0 [.str ⟨#[]⟩] []),mv 6 0,op 7 (.app 1 16 false (.r 5) (.r 6)),mv 2 7]<|.ret⟩
def Oz:An:=⟨[],[(1,[(0,true),(1,true),(2,true),(3,true),(4,true),(5,true),(6,true),(7,false)]),(2,[(0,true),(1,true),(2,true),(3,true),(4,true),(5,true),(6,true),(7,true),(8,false),(9,true),(10,false)])]⟩
def GB:Go.Rmp.Fn:=⟨22,2,[.cl 4 4 true],so [op 3 (.box (.r 1)),op 4 (.alloc [.str ⟨#[]⟩,.int .u64 0,.str ⟨#[]⟩,.sl .nil []])]<|so [mv 6 0,nc 7 6,fa 8 0 7,l1 9 8,ln 10 2 3,op 11 (.ma (.st [.str,.int]) (.agg [.str ⟨#[]⟩,.sl .nil [],.int .i64 0]) false (.r 9) (.r 10)),op 5 (.alloc [.str ⟨#[]⟩,.sl .nil [],.int .i64 0]),se 3 5 11]<|so [fa 12 0 3,l1 13 12,fa 14 1 3,l1 15 14,fa 16 0 5,l1 17 16,fa 18 1 5,l1 19 18,⟨(some 20),.call 36 [.r 19],none,[⟨13,.ld 1 false (.r 12),none⟩,⟨15,.ld 1 false (.r 14),none⟩,⟨17,.ld 1 false (.r 16),none⟩]⟩,op 21 (.build [.str ⟨#[]⟩,.int .u64 0,.str ⟨#[]⟩,.sl .nil []] [(0,1,(.r 13)),(1,1,(.r 15)),(2,1,(.r 17)),(3,1,(.r 20))]),se 4 4 21]<|.ret⟩
def OA:An:=⟨[],[]⟩
def GC:Go.Rmp.Fn:=⟨12,2,[.t 4],so [op 4 (.aD (.c (.sl .nil [])))]<|so [mv 6 0,cl 7 50 [.r 6],mv 5 7]<|so [mv 8 5,mv 9 1,cl 10 51 [.r 8,.r 9]]<|so [mv 11 5,mv 4 11]<|.ret⟩
def OB:An:=⟨[],[]⟩
def GD:Go.Rmp.Fn:=⟨4,1,[.t 2],so [op 1 (.box (.r 0)),op 2 (.aD (.c .kr))]<|so [op 3 (.D0 52 [.r 1]),mv 2 3]<|.ret⟩
def OC:An:=⟨[],[(1,[(0,true),(1,true),(2,true),(3,true),(5,true),(6,true),(7,true),(8,true),(4,false),(9,false),(10,true),(11,false),(12,true)])]⟩
def GF:Go.Rmp.Fn:=⟨17,2,[.t 4],so [op 2 (.box (.r 0)),op 3 (.box (.r 1)),op 4 (.aD (.c (.int .i64 0)))]<|so [fa 5 0 2,l1 6 5,fa 7 0 3,l1 8 7,fa 10 1 2,l1 11 10,fa 12 1 3,l1 13 12,⟨(some 9),.call 54 [.r 6,.r 8],none,[⟨11,.ld 1 false (.r 10),none⟩,⟨13,.ld 1 false (.r 12),none⟩]⟩,cl 14 55 [.r 11,.r 13],op 15 (.o7 2 [.int .i64 0] [(0,(.r 9)),(1,(.r 14))]),cl 16 53 [.r 15],mv 4 16]<|.ret⟩
def OD:An:=⟨[],[]⟩
def GG:Go.Rmp.Fn:=⟨8,2,[.t 4],so [op 3 (.box (.r 1)),op 4 (.aD (.c (.sl .nil [])))]<|so [mv 5 0,op 6 (.D0 60 [.r 3]),cl 7 59 [.r 5,.r 6],mv 4 7]<|.ret⟩
def OE:An:=⟨[],[]⟩
def GH:Go.Rmp.Fn:=⟨8,2,[.t 4],so [op 3 (.box (.r 1)),op 4 (.aD (.c (.sl .nil [])))]<|so [mv 5 0,op 6 (.D0 62 [.r 3]),cl 7 61 [.r 5,.r 6],mv 4 7]<|.ret⟩
def OF:An:=⟨[],[]⟩
def GI:Go.Rmp.Fn:=⟨37,1,[.t 2],so [op 2 (.aD (.c (.bool false)))]<|sq (so [mv 5 0,fO 6 5,op 7 (.aD (.c (.int .i64 0)))]<|.block 0 (.loop (so [b2 8 .lss 7 6]<|sq (cx 8 0)<|sq (.block 1 (so [mv 9 7,ia 10 1 5 7,l1 11 10,mv 3 9,mv 4 11]<|so [mv 12 4,op 13 (.len .str (.r 12)),op 14 (.bin .gtr (.r 13) (.c (.int .i64 65535))),mv 15 14,mf 16 3 15,gf 17 15 (.bin .gtr (.r 16) (.c (.int .i64 0))),mf 18 17 15,mt 19 4 18,mt 20 0 18,mt 21 3 18,gt 22 18 (.bin .sub (.r 21) (.c (.int .i64 1))),gt 23 18 (.jF 1 (.r 20) (.r 22)),gt 24 18 (.ld 1 false (.r 23)),gt 25 18 (.bin .leq (.r 19) (.r 24)),gf 26 15 (.pick (.r 18) (.r 25) (.c (.bool false))),op 27 (.pick (.r 15) (.c (.bool true)) (.r 26))]<|.cond (.r 27) (so [op 2 (.aD (.c (.bool false)))]<|.ret) (.skip)))<|.ops [op 28 (.bin .add (.r 7) (.c (.int .i64 1))),mv 7 28])))<|so [mv 29 0,fO 30 29,op 31 (.bin .geq (.r 30) (.c (.int .i64 1))),mv 32 31,mt 33 0 32,gt 34 32 (.len .sl (.r 33)),gt 35 32 (.bin .leq (.r 34) (.c (.int .i64 1024))),op 36 (.pick (.r 32) (.r 35) (.c (.bool false))),mv 2 36]<|.ret⟩
def OG:An:=⟨[],[]⟩
def GJ:Go.Rmp.Fn:=⟨14,2,[.t 4],so [op 4 (.aD (.c (.bool false)))]<|so [mv 8 0,mv 9 1,cl 10 63 [.r 8,.r 9],mv 7 10,xt 11 0 7,xt 12 1 7,mv 5 11,mv 6 12]<|so [mv 13 6,mv 4 13]<|.ret⟩
def OH:An:=⟨[],[]⟩
def GK:Go.Rmp.Fn:=⟨54,2,[.t 4,.t 5],so [op 4 (.aD (.c (.int .i64 0))),op 5 (.aD (.c (.bool false)))]<|so [mv 10 0,fO 11 10,mv 6 11]<|so [mv 12 6,op 7 (.aD (.c (.int .i64 0))),mv 8 12]<|sq (.block 0 (.loop (sq (so [mv 13 7,mv 14 8,b2 15 .lss 13 14]<|cx 15 0)<|.block 1 (so [mv 16 7,mv 17 8,b2 18 .add 16 17,op 19 (.td .u64 (.r 18)),op 20 (.bin .shr (.r 19) (.c (.int .u64 1))),op 21 (.td .i64 (.r 20)),mv 9 21]<|so [mv 22 0,mv 23 9,ia 24 1 22 23,l1 25 24,mv 26 1,cl 27 64 [.r 25,.r 26]]<|.cond (.r 27) (.ops [mv 28 9,op 29 (.bin .add (.r 28) (.c (.int .i64 1))),mv 7 29]) (.ops [mv 30 9,mv 8 30])))))<|so [mv 31 7,mv 32 7,mv 33 6,b2 34 .lss 32 33,mv 35 34,mt 36 0 35,mt 37 7 35,gt 38 35 (.jF 1 (.r 36) (.r 37)),gt 39 35 (.ld 1 false (.r 38)),mt 40 1 35,gt 41 35 (.bin .eql (.r 39) (.r 40)),mt 42 41 35,mf 43 0 42,mf 44 7 42,gf 45 42 (.jF 1 (.r 43) (.r 44)),gf 46 42 (.ld 1 false (.r 45)),⟨(some 47),.call 65 [.r 46],(some (42,false)),[]⟩,mf 48 47 42,mt 49 1 48,⟨(some 50),.call 65 [.r 49],(some (48,true)),[]⟩,gf 51 42 (.pick (.r 48) (.r 50) (.c (.bool false))),gt 52 35 (.pick (.r 42) (.c (.bool true)) (.r 51)),op 53 (.pick (.r 35) (.r 52) (.c (.bool false))),mv 4 31,mv 5 53]<|.ret⟩
def OI:An:=⟨[(7,2)],[(11,[(0,true),(1,true),(2,true),(3,true),(4,true),(5,true),(6,true),(7,true),(8,false)]),(15,[(0,true),(1,true),(2,true),(3,true),(4,true),(5,true),(6,true),(7,true),(8,false)])]⟩
def Ky:Go.Rmp.Fn:=⟨95,3,[.t 6],so [op 6 (.aD (.c (.sl .nil [])))]<|so [mv 10 0,mv 11 1,op 12 (.jg 1 (.r 10) (some (.r 11)) none none)]<|so [mv 13 2,fO 14 13,mv 7 14]<|sq (so [mv 15 7,op 16 (.bin .eql (.r 15) (.c (.int .i64 0)))]<|.cond (.r 16) (so [mv 17 0,mv 6 17]<|.ret) (.skip))<|so [mv 18 0,fO 19 18,mv 8 19]<|sq (so [mv 20 1,mv 21 8,b2 22 .eql 20 21]<|.cond (.r 22) (so [mv 23 0,mv 24 2,op 25 (.app 1 8 true (.r 23) (.r 24)),mv 6 25]<|.ret) (.skip))<|sq (so [mv 26 8,mv 27 7,b2 28 .add 26 27,mv 29 0,op 30 (.cap (.r 29)),b2 31 .gtr 28 30]<|.cond (.r 31) (so [mv 32 0,mv 33 1,op 34 (.jg 1 (.r 32) none (some (.r 33)) none),mv 35 8,mv 36 7,b2 37 .add 35 36,mv 38 1,b2 39 .sub 37 38,op 40 (.Jg 1 8 [.int .u64 0] (.r 34) (.r 39)),mv 9 40]<|so [mv 41 9,mv 42 1,op 43 (.jg 1 (.r 41) (some (.r 42)) none none),mv 44 2,op 45 (.wv 1 (.r 43) (.r 44))]<|so [mv 46 9,mv 47 1,mv 48 7,b2 49 .add 47 48,op 50 (.jg 1 (.r 46) (some (.r 49)) none none),mv 51 0,mv 52 1,op 53 (.jg 1 (.r 51) (some (.r 52)) none none),op 54 (.wv 1 (.r 50) (.r 53))]<|so [mv 55 9,mv 6 55]<|.ret) (.skip))<|so [mv 56 0,mv 57 8,mv 58 7,b2 59 .add 57 58,op 60 (.jg 1 (.r 56) none (some (.r 59)) none),mv 0 60]<|sq (so [mv 61 2,mv 62 0,mv 63 1,mv 64 7,b2 65 .add 63 64,op 66 (.jg 1 (.r 62) (some (.r 65)) none none),op 67 (.Is 1 (.r 61) (.r 66)),op 68 (.un .not (.r 67))]<|.cond (.r 68) (so [mv 69 0,mv 70 1,mv 71 7,b2 72 .add 70 71,op 73 (.jg 1 (.r 69) (some (.r 72)) none none),mv 74 0,mv 75 1,op 76 (.jg 1 (.r 74) (some (.r 75)) none none),op 77 (.wv 1 (.r 73) (.r 76))]<|so [mv 78 0,mv 79 1,op 80 (.jg 1 (.r 78) (some (.r 79)) none none),mv 81 2,op 82 (.wv 1 (.r 80) (.r 81))]<|so [mv 83 0,mv 6 83]<|.ret) (.skip))<|so [mv 84 0,mv 85 8,op 86 (.jg 1 (.r 84) (some (.r 85)) none none),mv 87 2,op 88 (.wv 1 (.r 86) (.r 87))]<|so [mv 89 0,mv 90 1,op 91 (.jg 1 (.r 89) (some (.r 90)) none none),mv 92 7,cl 93 67 [.r 91,.r 92]]<|so [mv 94 0,mv 6 94]<|.ret⟩
def OJ:An:=⟨[],[]⟩
def GL:Go.Rmp.Fn:=⟨5,1,[.t 2],so [op 2 (.aD (.c (.sl .nil [])))]<|so [mv 3 0,cl 4 68 [(.c (.sl .nil [])),.r 3],mv 2 4]<|.ret⟩
def OK:An:=⟨[],[]⟩
def Dm:Go.Rmp.Fn:=⟨14,2,[],so [mv 5 0,fO 6 5,mv 4 6]<|.ops [mv 7 0,mv 8 4,mv 9 4,op 10 (.td .u64 (.r 9)),cl 11 70 [.r 10],mv 12 1,cl 13 69 [.r 7,(.c (.int .i64 0)),.r 8,.r 11,.r 12]]⟩
def OL:An:=⟨[],[]⟩
def GM:Go.Rmp.Fn:=⟨14,2,[],so [l1 4 1,op 5 (.Je (.r 4))]<|.block 0 (.loop (so [op 6 (.oE (.r 5)),xt 7 0 6]<|sq (cx 7 0)<|.block 1 (so [op 8 (.Jf (.r 5)),xt 9 0 8,op 3 (.alloc [.str ⟨#[]⟩,.int .u64 0]),se 2 3 9]<|so [mv 10 0,ln 11 2 3,⟨(some 12),.aX (.r 10) [.r 11],none,[]⟩,op 13 (.un .not (.r 12))]<|.cond (.r 13) (.ret) (.skip))))⟩
def OM:An:=⟨[],[]⟩
def GN:Go.Rmp.Fn:=⟨18,1,[.t 2],so [op 2 (.aD (.c (.int .i64 0)))]<|so [op 3 (.aD (.c (.int .i64 0)))]<|sq (so [mv 6 0,fO 7 6,op 8 (.aD (.c (.int .i64 0)))]<|.block 0 (.loop (so [b2 9 .lss 8 7]<|sq (cx 9 0)<|sq (.block 1 (so [ia 10 1 6 8,l1 11 10,mv 5 11]<|so [mv 12 5,mv 13 3,b2 14 .neq 12 13]<|.cond (.r 14) (so [mv 15 5,mv 2 15]<|.ret) (.skip)))<|.ops [op 16 (.bin .add (.r 8) (.c (.int .i64 1))),mv 8 16])))<|so [mv 17 3,mv 2 17]<|.ret⟩
def ON:An:=⟨[],[]⟩
def GO:Go.Rmp.Fn:=⟨20,2,[.t 4],so [op 4 (.aD (.c (.int .i64 0)))]<|so [mv 7 0,cl 8 71 [.r 7],mv 5 8]<|so [mv 9 1,cl 10 71 [.r 9],mv 6 10]<|sq (so [mv 11 5]<|.cond (.r 11) (sq (so [mv 12 6]<|.cond (.r 12) (so [op 4 (.aD (.c (.int .i64 0)))]<|.ret) (.skip))<|so [op 4 (.aD (.c (.int .i64 (-1))))]<|.ret) (.skip))<|sq (so [mv 13 6]<|.cond (.r 13) (so [op 4 (.aD (.c (.int .i64 1)))]<|.ret) (.skip))<|sq (so [mv 14 0,mv 15 1,b2 16 .lss 14 15]<|.cond (.r 16) (so [op 4 (.aD (.c (.int .i64 (-1))))]<|.ret) (.skip))<|sq (so [mv 17 0,mv 18 1,b2 19 .gtr 17 18]<|.cond (.r 19) (so [op 4 (.aD (.c (.int .i64 1)))]<|.ret) (.skip))<|so [op 4 (.aD (.c (.int .i64 0)))]<|.ret⟩
def OO:An:=⟨[],[]⟩
def GP:Go.Rmp.Fn:=⟨20,2,[.t 4],so [op 4 (.aD (.c (.int .i64 0)))]<|so [mv 7 0,cl 8 72 [.r 7],mv 5 8]<|so [mv 9 1,cl 10 72 [.r 9],mv 6 10]<|sq (so [mv 11 5]<|.cond (.r 11) (sq (so [mv 12 6]<|.cond (.r 12) (so [op 4 (.aD (.c (.int .i64 0)))]<|.ret) (.skip))<|so [op 4 (.aD (.c (.int .i64 (-1))))]<|.ret) (.skip))<|sq (so [mv 13 6]<|.cond (.r 13) (so [op 4 (.aD (.c (.int .i64 1)))]<|.ret) (.skip))<|sq (so [mv 14 0,mv 15 1,b2 16 .lss 14 15]<|.cond (.r 16) (so [op 4 (.aD (.c (.int .i64 (-1))))]<|.ret) (.skip))<|sq (so [mv 17 0,mv 18 1,b2 19 .gtr 17 18]<|.cond (.r 19) (so [op 4 (.aD (.c (.int .i64 1)))]<|.ret) (.skip))<|so [op 4 (.aD (.c (.int .i64 0)))]<|.ret⟩
def OP:An:=⟨[],[]⟩
def GQ:Go.Rmp.Fn:=⟨42,2,[.t 4],so [op 4 (.aD (.c (.sl .nil [])))]<|so [mv 8 0,mv 9 1,cl 10 75 [.r 8,.r 9],mv 5 10]<|sq (so [mv 11 5,op 12 (.bin .eql (.r 11) (.c (.int .i64 (-1))))]<|.cond (.r 12) (so [mv 13 0,mv 4 13]<|.ret) (.skip))<|sq (so [mv 14 5,op 15 (.bin .add (.r 14) (.c (.int .i64 1))),mv 6 15]<|.block 0 (.loop (sq (so [mv 16 6,mv 17 0,fO 18 17,b2 19 .lss 16 18]<|cx 19 0)<|sq (.block 1 (so [mv 22 0,mv 23 6,ia 24 1 22 23,l1 25 24,mv 7 25]<|so [mv 26 1,mv 27 7,⟨(some 28),.aX (.r 26) [.r 27],none,[]⟩,op 29 (.un .not (.r 28))]<|.cond (.r 29) (so [mv 30 0,mv 31 5,mv 32 7,ia 33 1 30 31,se 1 33 32]<|.ops [mv 34 5,op 35 (.bin .add (.r 34) (.c (.int .i64 1))),mv 5 35]) (.skip)))<|.ops [mv 20 6,op 21 (.bin .add (.r 20) (.c (.int .i64 1))),mv 6 21])))<|so [mv 36 0,mv 37 5,op 38 (.jg 1 (.r 36) (some (.r 37)) none none),ef (.Iu 1 [.int .u64 0] (.r 38))]<|so [mv 39 0,mv 40 5,op 41 (.jg 1 (.r 39) none (some (.r 40)) none),mv 4 41]<|.ret⟩
def OQ:An:=⟨[],[]⟩
def GR:Go.Rmp.Fn:=⟨7,2,[.t 3],so [op 3 (.aD (.c (.bool false)))]<|so [mv 4 0,l1 5 1,b2 6 .eql 4 5,mv 3 6]<|.ret⟩
def OS:An:=⟨[],[]⟩
def GS:Go.Rmp.Fn:=⟨42,2,[.t 4],so [op 4 (.aD (.c (.sl .nil [])))]<|so [mv 8 0,mv 9 1,cl 10 76 [.r 8,.r 9],mv 5 10]<|sq (so [mv 11 5,op 12 (.bin .eql (.r 11) (.c (.int .i64 (-1))))]<|.cond (.r 12) (so [mv 13 0,mv 4 13]<|.ret) (.skip))<|sq (so [mv 14 5,op 15 (.bin .add (.r 14) (.c (.int .i64 1))),mv 6 15]<|.block 0 (.loop (sq (so [mv 16 6,mv 17 0,fO 18 17,b2 19 .lss 16 18]<|cx 19 0)<|sq (.block 1 (so [mv 22 0,mv 23 6,ia 24 1 22 23,l1 25 24,mv 7 25]<|so [mv 26 1,mv 27 7,⟨(some 28),.aX (.r 26) [.r 27],none,[]⟩,op 29 (.un .not (.r 28))]<|.cond (.r 29) (so [mv 30 0,mv 31 5,mv 32 7,ia 33 1 30 31,se 1 33 32]<|.ops [mv 34 5,op 35 (.bin .add (.r 34) (.c (.int .i64 1))),mv 5 35]) (.skip)))<|.ops [mv 20 6,op 21 (.bin .add (.r 20) (.c (.int .i64 1))),mv 6 21])))<|so [mv 36 0,mv 37 5,op 38 (.jg 1 (.r 36) (some (.r 37)) none none),ef (.Iu 1 [.str ⟨#[]⟩] (.r 38))]<|so [mv 39 0,mv 40 5,op 41 (.jg 1 (.r 39) none (some (.r 40)) none),mv 4 41]<|.ret⟩
def OT:An:=⟨[],[]⟩
def GU:Go.Rmp.Fn:=⟨7,2,[.t 3],so [op 3 (.aD (.c (.bool false)))]<|so [mv 4 0,l1 5 1,b2 6 .eql 4 5,mv 3 6]<|.ret⟩
def OU:An:=⟨[],[]⟩
def GV:Go.Rmp.Fn:=⟨54,2,[.t 4,.t 5],so [op 4 (.aD (.c (.int .i64 0))),op 5 (.aD (.c (.bool false)))]<|so [mv 10 0,fO 11 10,mv 6 11]<|so [mv 12 6,op 7 (.aD (.c (.int .i64 0))),mv 8 12]<|sq (.block 0 (.loop (sq (so [mv 13 7,mv 14 8,b2 15 .lss 13 14]<|cx 15 0)<|.block 1 (so [mv 16 7,mv 17 8,b2 18 .add 16 17,op 19 (.td .u64 (.r 18)),op 20 (.bin .shr (.r 19) (.c (.int .u64 1))),op 21 (.td .i64 (.r 20)),mv 9 21]<|so [mv 22 0,mv 23 9,ia 24 1 22 23,l1 25 24,mv 26 1,cl 27 77 [.r 25,.r 26]]<|.cond (.r 27) (.ops [mv 28 9,op 29 (.bin .add (.r 28) (.c (.int .i64 1))),mv 7 29]) (.ops [mv 30 9,mv 8 30])))))<|so [mv 31 7,mv 32 7,mv 33 6,b2 34 .lss 32 33,mv 35 34,mt 36 0 35,mt 37 7 35,gt 38 35 (.jF 1 (.r 36) (.r 37)),gt 39 35 (.ld 1 false (.r 38)),mt 40 1 35,gt 41 35 (.bin .eql (.r 39) (.r 40)),mt 42 41 35,mf 43 0 42,mf 44 7 42,gf 45 42 (.jF 1 (.r 43) (.r 44)),gf 46 42 (.ld 1 false (.r 45)),⟨(some 47),.call 78 [.r 46],(some (42,false)),[]⟩,mf 48 47 42,mt 49 1 48,⟨(some 50),.call 78 [.r 49],(some (48,true)),[]⟩,gf 51 42 (.pick (.r 48) (.r 50) (.c (.bool false))),gt 52 35 (.pick (.r 42) (.c (.bool true)) (.r 51)),op 53 (.pick (.r 35) (.r 52) (.c (.bool false))),mv 4 31,mv 5 53]<|.ret⟩
def OW:An:=⟨[],[]⟩
def GW:Go.Rmp.Fn:=⟨17,2,[.t 4],so [op 4 (.aD (.c (.bool false)))]<|so [mv 5 0,cl 6 72 [.r 5],mv 7 6,mt 8 1 7,⟨(some 9),.call 72 [.r 8],(some (7,true)),[]⟩,gt 10 7 (.un .not (.r 9)),op 11 (.pick (.r 7) (.r 10) (.c (.bool false))),mv 12 11,mf 13 0 12,mf 14 1 12,gf 15 12 (.bin .lss (.r 13) (.r 14)),op 16 (.pick (.r 12) (.c (.bool true)) (.r 15)),mv 4 16]<|.ret⟩
def OX:An:=⟨[],[]⟩
def GX:Go.Rmp.Fn:=⟨6,1,[.t 2],so [op 2 (.aD (.c (.bool false)))]<|so [mv 3 0,mv 4 0,b2 5 .neq 3 4,mv 2 5]<|.ret⟩
def OY:An:=⟨[(3,3)],[]⟩
def GY:Go.Rmp.Fn:=⟨13,2,[.t 4],so [op 2 (.box (.r 0)),op 4 (.aD (.c (.sl .nil [])))]<|sq (so [mv 6 1]<|.block 0 (.cj 13 (.r 6) [7] (.ops [op 5 (.alloc [.str ⟨#[]⟩,.int .u64 0]),se 2 5 7]) (.block 1 (.ops [l1 8 2,ln 9 2 5,op 10 (.o7 1 [.str ⟨#[]⟩,.int .u64 0] [(0,(.r 9))]),op 11 (.app 2 24 true (.r 8) (.r 10)),se 1 2 11]))))<|so [l1 12 2,mv 4 12]<|.ret⟩
def OZ:An:=⟨[],[(17,[(0,true),(1,true),(2,true),(3,true),(4,true),(5,true),(6,true),(7,true),(8,true),(9,true),(10,true),(11,true),(12,true),(13,false),(14,true),(15,true),(16,true)])]⟩
def fR:Go.Rmp.Fn:=⟨148,5,[],so [op 10 (.aD (.c (.bool true)))]<|so [op 11 (.aD (.c (.bool true)))]<|.block 0 (.loop (.block 1 (so [mv 21 2,mv 22 1,b2 23 .sub 21 22,mv 12 23]<|sq (so [mv 24 12,op 25 (.bin .leq (.r 24) (.c (.int .i64 12)))]<|.cond (.r 25) (so [mv 26 0,mv 27 1,mv 28 2,mv 29 4,cl 30 80 [.r 26,.r 27,.r 28,.r 29]]<|.ret) (.skip))<|sq (so [mv 31 3,op 32 (.bin .eql (.r 31) (.c (.int .i64 0)))]<|.cond (.r 32) (so [mv 33 0,mv 34 1,mv 35 2,mv 36 4,cl 37 81 [.r 33,.r 34,.r 35,.r 36]]<|.ret) (.skip))<|sq (so [mv 38 10,op 39 (.un .not (.r 38))]<|.cond (.r 39) (so [mv 40 0,mv 41 1,mv 42 2,mv 43 4,cl 44 82 [.r 40,.r 41,.r 42,.r 43]]<|.ops [mv 45 3,op 46 (.bin .sub (.r 45) (.c (.int .i64 1))),mv 3 46]) (.skip))<|so [mv 48 0,mv 49 1,mv 50 2,mv 51 4,cl 52 83 [.r 48,.r 49,.r 50,.r 51],mv 47 52,xt 53 0 47,xt 54 1 47,mv 13 53,mv 14 54]<|sq (so [mv 55 14,op 56 (.bin .eql (.r 55) (.c (.int .i64 2)))]<|.cond (.r 56) (so [mv 57 0,mv 58 1,mv 59 2,mv 60 4,cl 61 84 [.r 57,.r 58,.r 59,.r 60]]<|so [mv 62 2,op 63 (.bin .sub (.r 62) (.c (.int .i64 1))),mv 64 13,mv 65 1,b2 66 .sub 64 65,b2 67 .sub 63 66,mv 13 67]<|.ops [op 14 (.aD (.c (.int .i64 1)))]) (.skip))<|sq (so [mv 68 10,mv 69 68,mt 70 11 69,op 71 (.pick (.r 69) (.r 70) (.c (.bool false))),mv 72 71,mt 73 14 72,gt 74 72 (.bin .eql (.r 73) (.c (.int .i64 1))),op 75 (.pick (.r 72) (.r 74) (.c (.bool false)))]<|.cond (.r 75) (so [mv 76 0,mv 77 1,mv 78 2,mv 79 4,cl 80 85 [.r 76,.r 77,.r 78,.r 79]]<|.cond (.r 80) (.ret) (.skip)) (.skip))<|sq (so [mv 81 1,op 82 (.bin .gtr (.r 81) (.c (.int .i64 0))),mv 83 82,mt 84 4 83,mt 85 0 83,mt 86 1 83,gt 87 83 (.bin .sub (.r 86) (.c (.int .i64 1))),gt 88 83 (.jF 2 (.r 85) (.r 87)),gt 89 83 (.ld 2 true (.r 88)),mt 90 0 83,mt 91 13 83,gt 92 83 (.jF 2 (.r 90) (.r 91)),gt 93 83 (.ld 2 true (.r 92)),⟨(some 94),.aX (.r 84) [.r 89,.r 93],(some (83,true)),[]⟩,gt 95 83 (.bin .lss (.r 94) (.c (.int .i64 0))),gt 96 83 (.un .not (.r 95)),op 97 (.pick (.r 83) (.r 96) (.c (.bool false)))]<|.cond (.r 97) (so [mv 98 0,mv 99 1,mv 100 2,mv 101 13,mv 102 4,cl 103 86 [.r 98,.r 99,.r 100,.r 101,.r 102],mv 15 103]<|so [mv 104 15,mv 1 104]<|.exit 1) (.skip))<|so [mv 106 0,mv 107 1,mv 108 2,mv 109 13,mv 110 4,cl 111 87 [.r 106,.r 107,.r 108,.r 109,.r 110],mv 105 111,xt 112 0 105,xt 113 1 105,mv 16 112,mv 17 113]<|so [mv 114 17,mv 11 114]<|so [mv 115 16,mv 116 1,b2 117 .sub 115 116,mv 118 2,mv 119 16,b2 120 .sub 118 119,mv 18 117,mv 19 120]<|so [mv 121 12,op 122 (.bin .quo (.r 121) (.c (.int .i64 8))),mv 20 122]<|so [mv 123 18,mv 124 19,b2 125 .lss 123 124]<|.cond (.r 125) (so [mv 126 18,mv 127 20,b2 128 .geq 126 127,mv 10 128]<|so [mv 129 0,mv 130 1,mv 131 16,mv 132 3,mv 133 4,cl 134 69 [.r 129,.r 130,.r 131,.r 132,.r 133]]<|.ops [mv 135 16,op 136 (.bin .add (.r 135) (.c (.int .i64 1))),mv 1 136]) (so [mv 137 19,mv 138 20,b2 139 .geq 137 138,mv 10 139]<|so [mv 140 0,mv 141 16,op 142 (.bin .add (.r 141) (.c (.int .i64 1))),mv 143 2,mv 144 3,mv 145 4,cl 146 69 [.r 140,.r 142,.r 143,.r 144,.r 145]]<|.ops [mv 147 16,mv 2 147]))))⟩
def O0:An:=⟨[],[]⟩
def Dn:Go.Rmp.Fn:=⟨8,1,[.t 2],so [op 2 (.aD (.c (.int .i64 0)))]<|sq (.cond (.c (.bool false)) (so [mv 3 0,op 4 (.td .u32 (.r 3)),cl 5 88 [.r 4],mv 2 5]<|.ret) (.skip))<|so [mv 6 0,cl 7 89 [.r 6],mv 2 7]<|.ret⟩
def O1:An:=⟨[],[]⟩
def GZ:Go.Rmp.Fn:=⟨6,1,[.t 2],so [op 2 (.aD (.c (.bool false)))]<|so [mv 3 0,mv 4 0,b2 5 .neq 3 4,mv 2 5]<|.ret⟩
def O2:An:=⟨[],[]⟩
def G0:Go.Rmp.Fn:=⟨6,1,[.t 2],so [op 2 (.aD (.c (.bool false)))]<|so [mv 3 0,mv 4 0,b2 5 .neq 3 4,mv 2 5]<|.ret⟩
def O3:An:=⟨[],[]⟩
def G1:Go.Rmp.Fn:=⟨19,2,[.t 4],so [op 4 (.aD (.c (.int .i64 0)))]<|sq (so [mv 6 0,fO 7 6,op 8 (.aD (.c (.int .i64 0)))]<|.block 0 (.loop (so [b2 9 .lss 8 7]<|sq (cx 9 0)<|sq (.block 1 (so [mv 10 8,mv 5 10]<|so [mv 11 1,mv 12 0,mv 13 5,ia 14 1 12 13,l1 15 14,⟨(some 16),.aX (.r 11) [.r 15],none,[]⟩]<|.cond (.r 16) (so [mv 17 5,mv 4 17]<|.ret) (.skip)))<|.ops [op 18 (.bin .add (.r 8) (.c (.int .i64 1))),mv 8 18])))<|so [op 4 (.aD (.c (.int .i64 (-1))))]<|.ret⟩
def O4:An:=⟨[],[]⟩
def G2:Go.Rmp.Fn:=⟨19,2,[.t 4],so [op 4 (.aD (.c (.int .i64 0)))]<|sq (so [mv 6 0,fO 7 6,op 8 (.aD (.c (.int .i64 0)))]<|.block 0 (.loop (so [b2 9 .lss 8 7]<|sq (cx 9 0)<|sq (.block 1 (so [mv 10 8,mv 5 10]<|so [mv 11 1,mv 12 0,mv 13 5,ia 14 1 12 13,l1 15 14,⟨(some 16),.aX (.r 11) [.r 15],none,[]⟩]<|.cond (.r 16) (so [mv 17 5,mv 4 17]<|.ret) (.skip)))<|.ops [op 18 (.bin .add (.r 8) (.c (.int .i64 1))),mv 8 18])))<|so [op 4 (.aD (.c (.int .i64 (-1))))]<|.ret⟩
def O5:An:=⟨[],[]⟩
def G3:Go.Rmp.Fn:=⟨17,2,[.t 4],so [op 4 (.aD (.c (.bool false)))]<|so [mv 5 0,cl 6 71 [.r 5],mv 7 6,mt 8 1 7,⟨(some 9),.call 71 [.r 8],(some (7,true)),[]⟩,gt 10 7 (.un .not (.r 9)),op 11 (.pick (.r 7) (.r 10) (.c (.bool false))),mv 12 11,mf 13 0 12,mf 14 1 12,gf 15 12 (.bin .lss (.r 13) (.r 14)),op 16 (.pick (.r 12) (.c (.bool true)) (.r 15)),mv 4 16]<|.ret⟩
def O6:An:=⟨[],[]⟩
def G4:Go.Rmp.Fn:=⟨6,1,[.t 2],so [op 2 (.aD (.c (.bool false)))]<|so [mv 3 0,mv 4 0,b2 5 .neq 3 4,mv 2 5]<|.ret⟩
def O7:An:=⟨[],[(4,[(0,true),(1,true),(2,true),(3,true),(4,true),(5,true),(6,true),(7,true),(8,true),(9,true),(10,true),(11,true),(12,true),(13,true),(14,false),(15,true),(16,true)]),(6,[(0,true),(1,true),(2,true),(3,true),(4,true),(5,true),(6,true),(7,true),(8,true),(9,true),(10,true),(11,true),(12,true),(13,true),(14,true),(15,false),(16,true),(17,false)])]⟩
def Dp:Go.Rmp.Fn:=⟨53,4,[],so [mv 10 1,op 11 (.bin .add (.r 10) (.c (.int .i64 1))),mv 8 11]<|.block 0 (.loop (sq (so [mv 12 8,mv 13 2,b2 14 .lss 12 13]<|cx 14 0)<|sq (.block 1 (so [mv 17 8,mv 9 17]<|.block 2 (.loop (sq (so [mv 18 9,mv 19 1,b2 20 .gtr 18 19,mv 21 20,mt 22 3 21,mt 23 0 21,mt 24 9 21,gt 25 21 (.jF 2 (.r 23) (.r 24)),gt 26 21 (.ld 2 true (.r 25)),mt 27 0 21,mt 28 9 21,gt 29 21 (.bin .sub (.r 28) (.c (.int .i64 1))),gt 30 21 (.jF 2 (.r 27) (.r 29)),gt 31 21 (.ld 2 true (.r 30)),⟨(some 32),.aX (.r 22) [.r 26,.r 31],(some (21,true)),[]⟩,gt 33 21 (.bin .lss (.r 32) (.c (.int .i64 0))),op 34 (.pick (.r 21) (.r 33) (.c (.bool false)))]<|cx 34 2)<|sq (.block 3 (.ops [mv 37 0,mv 38 9,mv 39 0,mv 40 9,op 41 (.bin .sub (.r 40) (.c (.int .i64 1))),mv 42 0,mv 43 9,op 44 (.bin .sub (.r 43) (.c (.int .i64 1))),ia 45 2 42 44,ln 46 2 45,mv 47 0,mv 48 9,ia 49 2 47 48,ln 50 2 49,ia 51 2 37 38,se 2 51 46,ia 52 2 39 41,se 2 52 50]))<|.ops [mv 35 9,op 36 (.bin .sub (.r 35) (.c (.int .i64 1))),mv 9 36]))))<|.ops [mv 15 8,op 16 (.bin .add (.r 15) (.c (.int .i64 1))),mv 8 16]))⟩
def O8:An:=⟨[],[(10,[(0,true),(1,true),(2,true),(3,true),(4,true),(5,true),(6,true),(7,true),(8,true),(9,true),(10,true),(11,true),(12,true),(13,true),(14,true),(15,true),(16,true),(17,false),(18,true),(19,false)])]⟩
def G5:Go.Rmp.Fn:=⟨60,4,[],so [mv 13 1,mv 8 13]<|so [op 9 (.aD (.c (.int .i64 0)))]<|so [mv 14 2,mv 15 1,b2 16 .sub 14 15,mv 10 16]<|sq (so [mv 17 10,op 18 (.bin .sub (.r 17) (.c (.int .i64 1))),op 19 (.bin .quo (.r 18) (.c (.int .i64 2))),mv 11 19]<|.block 0 (.loop (sq (so [mv 20 11,op 21 (.bin .geq (.r 20) (.c (.int .i64 0)))]<|cx 21 0)<|sq (.block 1 (.ops [mv 24 0,mv 25 11,mv 26 10,mv 27 8,mv 28 3,cl 29 99 [.r 24,.r 25,.r 26,.r 27,.r 28]]))<|.ops [mv 22 11,op 23 (.bin .sub (.r 22) (.c (.int .i64 1))),mv 11 23])))<|so [mv 30 10,op 31 (.bin .sub (.r 30) (.c (.int .i64 1))),mv 12 31]<|.block 2 (.loop (sq (so [mv 32 12,op 33 (.bin .geq (.r 32) (.c (.int .i64 0)))]<|cx 33 2)<|sq (.block 3 (so [mv 36 0,mv 37 8,mv 38 0,mv 39 8,mv 40 12,b2 41 .add 39 40,mv 42 0,mv 43 8,mv 44 12,b2 45 .add 43 44,ia 46 2 42 45,ln 47 2 46,mv 48 0,mv 49 8,ia 50 2 48 49,ln 51 2 50,ia 52 2 36 37,se 2 52 47,ia 53 2 38 41,se 2 53 51]<|.ops [mv 54 0,mv 55 9,mv 56 12,mv 57 8,mv 58 3,cl 59 99 [.r 54,.r 55,.r 56,.r 57,.r 58]]))<|.ops [mv 34 12,op 35 (.bin .sub (.r 34) (.c (.int .i64 1))),mv 12 35]))⟩
def O9:An:=⟨[],[(10,[(0,true),(1,true),(2,true),(3,true),(4,true),(5,true),(6,true),(7,true),(8,true),(9,true),(10,true),(11,true),(12,true),(13,true),(14,true),(15,true),(16,true),(17,false),(18,true),(19,false)])]⟩
def G6:Go.Rmp.Fn:=⟨67,4,[],so [mv 13 2,mv 14 1,b2 15 .sub 13 14,mv 8 15]<|so [mv 16 8,op 17 (.bin .geq (.r 16) (.c (.int .i64 8)))]<|.cond (.r 17) (so [mv 18 8,op 19 (.td .u64 (.r 18)),op 9 (.alloc [.int .u64 0]),se 1 9 19]<|so [mv 20 8,cl 21 100 [.r 20],mv 10 21]<|so [mv 22 1,mv 23 8,op 24 (.bin .quo (.r 23) (.c (.int .i64 4))),op 25 (.bin .mul (.r 24) (.c (.int .i64 2))),b2 26 .add 22 25,op 27 (.bin .sub (.r 26) (.c (.int .i64 1))),mv 11 27]<|.block 0 (.loop (sq (so [mv 28 11,mv 29 1,mv 30 8,op 31 (.bin .quo (.r 30) (.c (.int .i64 4))),op 32 (.bin .mul (.r 31) (.c (.int .i64 2))),b2 33 .add 29 32,op 34 (.bin .add (.r 33) (.c (.int .i64 1))),b2 35 .leq 28 34]<|cx 35 0)<|sq (.block 1 (so [cl 38 101 [.r 9],mv 39 10,op 40 (.bin .sub (.r 39) (.c (.int .u64 1))),b2 41 .and 38 40,op 42 (.td .i64 (.r 41)),mv 12 42]<|sq (so [mv 43 12,mv 44 8,b2 45 .geq 43 44]<|.cond (.r 45) (.ops [mv 46 12,mv 47 8,b2 48 .sub 46 47,mv 12 48]) (.skip))<|.ops [mv 49 0,mv 50 11,mv 51 0,mv 52 1,mv 53 12,b2 54 .add 52 53,mv 55 0,mv 56 1,mv 57 12,b2 58 .add 56 57,ia 59 2 55 58,ln 60 2 59,mv 61 0,mv 62 11,ia 63 2 61 62,ln 64 2 63,ia 65 2 49 50,se 2 65 60,ia 66 2 51 54,se 2 66 64]))<|.ops [mv 36 11,op 37 (.bin .add (.r 36) (.c (.int .i64 1))),mv 11 37]))) (.skip)⟩
def Pa:An:=⟨[],[]⟩
def Dq:Go.Rmp.Fn:=⟨63,4,[.t 8,.t 9],so [op 8 (.aD (.c (.int .i64 0))),op 9 (.aD (.c (.int .i64 0)))]<|so [mv 15 2,mv 16 1,b2 17 .sub 15 16,mv 10 17]<|so [op 11 (.alloc [.int .i64 0])]<|so [mv 18 1,mv 19 10,op 20 (.bin .quo (.r 19) (.c (.int .i64 4))),op 21 (.bin .mul (.r 20) (.c (.int .i64 1))),b2 22 .add 18 21,mv 12 22]<|so [mv 23 1,mv 24 10,op 25 (.bin .quo (.r 24) (.c (.int .i64 4))),op 26 (.bin .mul (.r 25) (.c (.int .i64 2))),b2 27 .add 23 26,mv 13 27]<|so [mv 28 1,mv 29 10,op 30 (.bin .quo (.r 29) (.c (.int .i64 4))),op 31 (.bin .mul (.r 30) (.c (.int .i64 3))),b2 32 .add 28 31,mv 14 32]<|sq (so [mv 33 10,op 34 (.bin .geq (.r 33) (.c (.int .i64 8)))]<|.cond (.r 34) (sq (so [mv 35 10,op 36 (.bin .geq (.r 35) (.c (.int .i64 50)))]<|.cond (.r 36) (so [mv 37 0,mv 38 12,mv 39 3,cl 40 102 [.r 37,.r 38,.r 11,.r 39],mv 12 40]<|so [mv 41 0,mv 42 13,mv 43 3,cl 44 102 [.r 41,.r 42,.r 11,.r 43],mv 13 44]<|.ops [mv 45 0,mv 46 14,mv 47 3,cl 48 102 [.r 45,.r 46,.r 11,.r 47],mv 14 48]) (.skip))<|.ops [mv 49 0,mv 50 12,mv 51 13,mv 52 14,mv 53 3,cl 54 103 [.r 49,.r 50,.r 51,.r 52,.r 11,.r 53],mv 13 54]) (.skip))<|so [l1 55 11]<|.block 0 (so [op 58 (.bin .eql (.r 55) (.c (.int .i64 0))),mv 57 58]<|.cond (.r 57) (so [mv 59 13,mv 8 59,op 9 (.aD (.c (.int .i64 1)))]<|.ret) (so [op 61 (.bin .eql (.r 55) (.c (.int .i64 12))),mv 60 61]<|.cond (.r 60) (so [mv 62 13,mv 8 62,op 9 (.aD (.c (.int .i64 2)))]<|.ret) (so [mv 56 13,mv 8 56,op 9 (.aD (.c (.int .i64 0)))]<|.ret)))⟩
def Pb:An:=⟨[],[(3,[(0,true),(1,true),(2,true),(3,true),(4,true),(5,true),(6,true),(7,true),(8,true),(9,true),(10,true),(11,true),(12,true),(13,false),(14,true),(15,false)])]⟩
def G7:Go.Rmp.Fn:=⟨34,4,[],so [mv 10 1,mv 8 10]<|so [mv 11 2,op 12 (.bin .sub (.r 11) (.c (.int .i64 1))),mv 9 12]<|.block 0 (.loop (sq (so [mv 13 8,mv 14 9,b2 15 .lss 13 14]<|cx 15 0)<|.block 1 (so [mv 16 0,mv 17 8,mv 18 0,mv 19 9,mv 20 0,mv 21 9,ia 22 2 20 21,ln 23 2 22,mv 24 0,mv 25 8,ia 26 2 24 25,ln 27 2 26,ia 28 2 16 17,se 2 28 23,ia 29 2 18 19,se 2 29 27]<|so [mv 30 8,op 31 (.bin .add (.r 30) (.c (.int .i64 1))),mv 8 31]<|.ops [mv 32 9,op 33 (.bin .sub (.r 32) (.c (.int .i64 1))),mv 9 33])))⟩
def Pc:An:=⟨[],[(5,[(0,true),(1,true),(2,true),(3,true),(4,true),(5,true),(6,true),(7,true),(8,true),(9,true),(10,true),(11,true),(12,true),(13,true),(14,false),(15,true),(16,true),(17,true)]),(11,[(0,true),(1,true),(2,true),(3,true),(4,true),(5,true),(6,true),(7,true),(8,true),(9,true),(10,true),(11,true),(12,true),(13,true),(14,true),(15,false),(16,true),(17,false)]),(16,[(0,true),(1,true),(2,true),(3,true),(4,true),(5,true),(6,true),(7,true),(8,true),(9,true),(10,false),(11,true),(12,true)]),(17,[(0,true),(1,true),(2,true),(3,true),(4,true),(5,true),(6,true),(7,true),(8,true),(9,true),(10,true),(11,true),(12,true),(13,true),(14,true),(15,false),(16,true),(17,false)]),(22,[(0,true),(1,true),(2,true),(3,true),(4,true),(5,true),(6,true),(7,true),(8,true),(9,true),(10,false),(11,true),(12,true)]),(23,[(0,true),(1,true),(2,true),(3,true),(4,true),(5,true),(6,true),(7,true),(8,true),(9,true),(10,true),(11,true),(12,true),(13,true),(14,true),(15,false),(16,true),(17,false)])]⟩
def G8:Go.Rmp.Fn:=⟨141,4,[.t 8],so [op 8 (.aD (.c (.bool false)))]<|so [mv 13 1,op 14 (.bin .add (.r 13) (.c (.int .i64 1))),mv 9 14]<|sq (so [op 10 (.aD (.c (.int .i64 0)))]<|.block 0 (.loop (sq (so [mv 15 10,op 16 (.bin .lss (.r 15) (.c (.int .i64 5)))]<|cx 16 0)<|sq (.block 1 (sq (.block 2 (.loop (sq (so [mv 19 9,mv 20 2,b2 21 .lss 19 20,mv 22 21,mt 23 3 22,mt 24 0 22,mt 25 9 22,gt 26 22 (.jF 2 (.r 24) (.r 25)),gt 27 22 (.ld 2 true (.r 26)),mt 28 0 22,mt 29 9 22,gt 30 22 (.bin .sub (.r 29) (.c (.int .i64 1))),gt 31 22 (.jF 2 (.r 28) (.r 30)),gt 32 22 (.ld 2 true (.r 31)),⟨(some 33),.aX (.r 23) [.r 27,.r 32],(some (22,true)),[]⟩,gt 34 22 (.bin .lss (.r 33) (.c (.int .i64 0))),gt 35 22 (.un .not (.r 34)),op 36 (.pick (.r 22) (.r 35) (.c (.bool false)))]<|cx 36 2)<|.block 3 (.ops [mv 37 9,op 38 (.bin .add (.r 37) (.c (.int .i64 1))),mv 9 38]))))<|sq (so [mv 39 9,mv 40 2,b2 41 .eql 39 40]<|.cond (.r 41) (so [op 8 (.aD (.c (.bool true)))]<|.ret) (.skip))<|sq (so [mv 42 2,mv 43 1,b2 44 .sub 42 43,op 45 (.bin .lss (.r 44) (.c (.int .i64 50)))]<|.cond (.r 45) (so [op 8 (.aD (.c (.bool false)))]<|.ret) (.skip))<|so [mv 46 0,mv 47 9,mv 48 0,mv 49 9,op 50 (.bin .sub (.r 49) (.c (.int .i64 1))),mv 51 0,mv 52 9,op 53 (.bin .sub (.r 52) (.c (.int .i64 1))),ia 54 2 51 53,ln 55 2 54,mv 56 0,mv 57 9,ia 58 2 56 57,ln 59 2 58,ia 60 2 46 47,se 2 60 55,ia 61 2 48 50,se 2 61 59]<|sq (so [mv 62 9,mv 63 1,b2 64 .sub 62 63,op 65 (.bin .geq (.r 64) (.c (.int .i64 2)))]<|.cond (.r 65) (so [mv 66 9,op 67 (.bin .sub (.r 66) (.c (.int .i64 1))),mv 11 67]<|.block 4 (.loop (sq (so [mv 68 11,op 69 (.bin .geq (.r 68) (.c (.int .i64 1)))]<|cx 69 4)<|sq (.block 5 (sq (so [mv 72 3,mv 73 0,mv 74 11,ia 75 2 73 74,ln 76 2 75,mv 77 0,mv 78 11,op 79 (.bin .sub (.r 78) (.c (.int .i64 1))),ia 80 2 77 79,ln 81 2 80,⟨(some 82),.aX (.r 72) [.r 76,.r 81],none,[]⟩,op 83 (.bin .lss (.r 82) (.c (.int .i64 0))),op 84 (.un .not (.r 83))]<|.cond (.r 84) (.exit 4) (.skip))<|.ops [mv 85 0,mv 86 11,mv 87 0,mv 88 11,op 89 (.bin .sub (.r 88) (.c (.int .i64 1))),mv 90 0,mv 91 11,op 92 (.bin .sub (.r 91) (.c (.int .i64 1))),ia 93 2 90 92,ln 94 2 93,mv 95 0,mv 96 11,ia 97 2 95 96,ln 98 2 97,ia 99 2 85 86,se 2 99 94,ia 100 2 87 89,se 2 100 98]))<|.ops [mv 70 11,op 71 (.bin .sub (.r 70) (.c (.int .i64 1))),mv 11 71]))) (.skip))<|so [mv 101 2,mv 102 9,b2 103 .sub 101 102,op 104 (.bin .geq (.r 103) (.c (.int .i64 2)))]<|.cond (.r 104) (so [mv 105 9,op 106 (.bin .add (.r 105) (.c (.int .i64 1))),mv 12 106]<|.block 6 (.loop (sq (so [mv 107 12,mv 108 2,b2 109 .lss 107 108]<|cx 109 6)<|sq (.block 7 (sq (so [mv 112 3,mv 113 0,mv 114 12,ia 115 2 113 114,ln 116 2 115,mv 117 0,mv 118 12,op 119 (.bin .sub (.r 118) (.c (.int .i64 1))),ia 120 2 117 119,ln 121 2 120,⟨(some 122),.aX (.r 112) [.r 116,.r 121],none,[]⟩,op 123 (.bin .lss (.r 122) (.c (.int .i64 0))),op 124 (.un .not (.r 123))]<|.cond (.r 124) (.exit 6) (.skip))<|.ops [mv 125 0,mv 126 12,mv 127 0,mv 128 12,op 129 (.bin .sub (.r 128) (.c (.int .i64 1))),mv 130 0,mv 131 12,op 132 (.bin .sub (.r 131) (.c (.int .i64 1))),ia 133 2 130 132,ln 134 2 133,mv 135 0,mv 136 12,ia 137 2 135 136,ln 138 2 137,ia 139 2 125 126,se 2 139 134,ia 140 2 127 129,se 2 140 138]))<|.ops [mv 110 12,op 111 (.bin .add (.r 110) (.c (.int .i64 1))),mv 12 111]))) (.skip)))<|.ops [mv 17 10,op 18 (.bin .add (.r 17) (.c (.int .i64 1))),mv 10 18])))<|so [op 8 (.aD (.c (.bool false)))]<|.ret⟩
def Pd:An:=⟨[],[(1,[(0,true),(1,true),(2,true),(3,true),(4,true),(5,true),(6,true),(7,true),(8,true),(9,true),(10,true),(11,true),(12,true),(13,false),(14,true),(15,false)]),(3,[(0,true),(1,true),(2,true),(3,true),(4,true),(5,true),(6,true),(7,true),(8,true),(9,true),(10,true),(11,true),(12,true),(13,false),(14,true),(15,true),(16,true)]),(5,[(0,true),(1,true),(2,true),(3,true),(4,true),(5,true),(6,true),(7,true),(8,true),(9,true),(10,true),(11,true),(12,true),(13,false),(14,true),(15,true)]),(8,[(0,true),(1,true),(2,true),(3,true),(4,true),(5,true),(6,true),(7,true),(8,true),(9,true),(10,true),(11,true),(12,true),(13,false),(14,true),(15,false)])]⟩
def G9:Go.Rmp.Fn:=⟨90,5,[.t 10],so [op 10 (.aD (.c (.int .i64 0)))]<|so [mv 13 0,mv 14 1,mv 15 0,mv 16 3,mv 17 0,mv 18 3,ia 19 2 17 18,ln 20 2 19,mv 21 0,mv 22 1,ia 23 2 21 22,ln 24 2 23,ia 25 2 13 14,se 2 25 20,ia 26 2 15 16,se 2 26 24]<|so [mv 27 1,op 28 (.bin .add (.r 27) (.c (.int .i64 1))),mv 29 2,op 30 (.bin .sub (.r 29) (.c (.int .i64 1))),mv 11 28,mv 12 30]<|sq (.block 0 (.loop (.block 1 (sq (.block 2 (.loop (sq (so [mv 31 11,mv 32 12,b2 33 .leq 31 32,mv 34 33,mt 35 4 34,mt 36 0 34,mt 37 1 34,gt 38 34 (.jF 2 (.r 36) (.r 37)),gt 39 34 (.ld 2 true (.r 38)),mt 40 0 34,mt 41 11 34,gt 42 34 (.jF 2 (.r 40) (.r 41)),gt 43 34 (.ld 2 true (.r 42)),⟨(some 44),.aX (.r 35) [.r 39,.r 43],(some (34,true)),[]⟩,gt 45 34 (.bin .lss (.r 44) (.c (.int .i64 0))),gt 46 34 (.un .not (.r 45)),op 47 (.pick (.r 34) (.r 46) (.c (.bool false)))]<|cx 47 2)<|.block 3 (.ops [mv 48 11,op 49 (.bin .add (.r 48) (.c (.int .i64 1))),mv 11 49]))))<|sq (.block 4 (.loop (sq (so [mv 50 11,mv 51 12,b2 52 .leq 50 51,mv 53 52,mt 54 4 53,mt 55 0 53,mt 56 1 53,gt 57 53 (.jF 2 (.r 55) (.r 56)),gt 58 53 (.ld 2 true (.r 57)),mt 59 0 53,mt 60 12 53,gt 61 53 (.jF 2 (.r 59) (.r 60)),gt 62 53 (.ld 2 true (.r 61)),⟨(some 63),.aX (.r 54) [.r 58,.r 62],(some (53,true)),[]⟩,gt 64 53 (.bin .lss (.r 63) (.c (.int .i64 0))),op 65 (.pick (.r 53) (.r 64) (.c (.bool false)))]<|cx 65 4)<|.block 5 (.ops [mv 66 12,op 67 (.bin .sub (.r 66) (.c (.int .i64 1))),mv 12 67]))))<|sq (so [mv 68 11,mv 69 12,b2 70 .gtr 68 69]<|.cond (.r 70) (.exit 0) (.skip))<|so [mv 71 0,mv 72 11,mv 73 0,mv 74 12,mv 75 0,mv 76 12,ia 77 2 75 76,ln 78 2 77,mv 79 0,mv 80 11,ia 81 2 79 80,ln 82 2 81,ia 83 2 71 72,se 2 83 78,ia 84 2 73 74,se 2 84 82]<|so [mv 85 11,op 86 (.bin .add (.r 85) (.c (.int .i64 1))),mv 11 86]<|.ops [mv 87 12,op 88 (.bin .sub (.r 87) (.c (.int .i64 1))),mv 12 88]))))<|so [mv 89 11,mv 10 89]<|.ret⟩
def Pe:An:=⟨[],[(1,[(0,true),(1,true),(2,true),(3,true),(4,true),(5,true),(6,true),(7,true),(8,true),(9,true),(10,true),(11,true),(12,true),(13,false),(14,true),(15,false)]),(3,[(0,true),(1,true),(2,true),(3,true),(4,true),(5,true),(6,true),(7,true),(8,true),(9,true),(10,true),(11,true),(12,true),(13,false),(14,true),(15,true)]),(5,[(0,true),(1,true),(2,true),(3,true),(4,true),(5,true),(6,true),(7,true),(8,true),(9,true),(10,true),(11,true),(12,true),(13,false),(14,true),(15,true),(16,true)]),(8,[(0,true),(1,true),(2,true),(3,true),(4,true),(5,true),(6,true),(7,true),(8,true),(9,true),(10,true),(11,true),(12,true),(13,false),(14,true),(15,false)]),(10,[(0,true),(1,true),(2,true),(3,true),(4,true),(5,true),(6,true),(7,true),(8,true),(9,true),(10,true),(11,true),(12,true),(13,false),(14,true),(15,false)]),(13,[(0,true),(1,true),(2,true),(3,true),(4,true),(5,true),(6,true),(7,true),(8,true),(9,true),(10,true),(11,true),(12,true),(13,false),(14,true),(15,true)]),(15,[(0,true),(1,true),(2,true),(3,true),(4,true),(5,true),(6,true),(7,true),(8,true),(9,true),(10,true),(11,true),(12,true),(13,false),(14,true),(15,true),(16,true)]),(18,[(0,true),(1,true),(2,true),(3,true),(4,true),(5,true),(6,true),(7,true),(8,true),(9,true),(10,true),(11,true),(12,true),(13,false),(14,true),(15,false)]),(21,[(0,true),(1,true),(2,true),(3,true),(4,true),(5,true),(6,true),(7,true),(8,true),(9,true),(10,true),(11,true),(12,true),(13,false),(14,true),(15,false)])]⟩
def Ha:Go.Rmp.Fn:=⟨178,5,[.t 10,.t 11],so [op 10 (.aD (.c (.int .i64 0))),op 11 (.aD (.c (.bool false)))]<|so [mv 14 0,mv 15 1,mv 16 0,mv 17 3,mv 18 0,mv 19 3,ia 20 2 18 19,ln 21 2 20,mv 22 0,mv 23 1,ia 24 2 22 23,ln 25 2 24,ia 26 2 14 15,se 2 26 21,ia 27 2 16 17,se 2 27 25]<|so [mv 28 1,op 29 (.bin .add (.r 28) (.c (.int .i64 1))),mv 30 2,op 31 (.bin .sub (.r 30) (.c (.int .i64 1))),mv 12 29,mv 13 31]<|sq (.block 0 (.loop (sq (so [mv 32 12,mv 33 13,b2 34 .leq 32 33,mv 35 34,mt 36 4 35,mt 37 0 35,mt 38 12 35,gt 39 35 (.jF 2 (.r 37) (.r 38)),gt 40 35 (.ld 2 true (.r 39)),mt 41 0 35,mt 42 1 35,gt 43 35 (.jF 2 (.r 41) (.r 42)),gt 44 35 (.ld 2 true (.r 43)),⟨(some 45),.aX (.r 36) [.r 40,.r 44],(some (35,true)),[]⟩,gt 46 35 (.bin .lss (.r 45) (.c (.int .i64 0))),op 47 (.pick (.r 35) (.r 46) (.c (.bool false)))]<|cx 47 0)<|.block 1 (.ops [mv 48 12,op 49 (.bin .add (.r 48) (.c (.int .i64 1))),mv 12 49]))))<|sq (.block 2 (.loop (sq (so [mv 50 12,mv 51 13,b2 52 .leq 50 51,mv 53 52,mt 54 4 53,mt 55 0 53,mt 56 13 53,gt 57 53 (.jF 2 (.r 55) (.r 56)),gt 58 53 (.ld 2 true (.r 57)),mt 59 0 53,mt 60 1 53,gt 61 53 (.jF 2 (.r 59) (.r 60)),gt 62 53 (.ld 2 true (.r 61)),⟨(some 63),.aX (.r 54) [.r 58,.r 62],(some (53,true)),[]⟩,gt 64 53 (.bin .lss (.r 63) (.c (.int .i64 0))),gt 65 53 (.un .not (.r 64)),op 66 (.pick (.r 53) (.r 65) (.c (.bool false)))]<|cx 66 2)<|.block 3 (.ops [mv 67 13,op 68 (.bin .sub (.r 67) (.c (.int .i64 1))),mv 13 68]))))<|sq (so [mv 69 12,mv 70 13,b2 71 .gtr 69 70]<|.cond (.r 71) (so [mv 72 0,mv 73 13,mv 74 0,mv 75 1,mv 76 0,mv 77 1,ia 78 2 76 77,ln 79 2 78,mv 80 0,mv 81 13,ia 82 2 80 81,ln 83 2 82,ia 84 2 72 73,se 2 84 79,ia 85 2 74 75,se 2 85 83]<|so [mv 86 13,mv 10 86,op 11 (.aD (.c (.bool true)))]<|.ret) (.skip))<|so [mv 87 0,mv 88 12,mv 89 0,mv 90 13,mv 91 0,mv 92 13,ia 93 2 91 92,ln 94 2 93,mv 95 0,mv 96 12,ia 97 2 95 96,ln 98 2 97,ia 99 2 87 88,se 2 99 94,ia 100 2 89 90,se 2 100 98]<|so [mv 101 12,op 102 (.bin .add (.r 101) (.c (.int .i64 1))),mv 12 102]<|so [mv 103 13,op 104 (.bin .sub (.r 103) (.c (.int .i64 1))),mv 13 104]<|sq (.block 4 (.loop (.block 5 (sq (.block 6 (.loop (sq (so [mv 105 12,mv 106 13,b2 107 .leq 105 106,mv 108 107,mt 109 4 108,mt 110 0 108,mt 111 12 108,gt 112 108 (.jF 2 (.r 110) (.r 111)),gt 113 108 (.ld 2 true (.r 112)),mt 114 0 108,mt 115 1 108,gt 116 108 (.jF 2 (.r 114) (.r 115)),gt 117 108 (.ld 2 true (.r 116)),⟨(some 118),.aX (.r 109) [.r 113,.r 117],(some (108,true)),[]⟩,gt 119 108 (.bin .lss (.r 118) (.c (.int .i64 0))),op 120 (.pick (.r 108) (.r 119) (.c (.bool false)))]<|cx 120 6)<|.block 7 (.ops [mv 121 12,op 122 (.bin .add (.r 121) (.c (.int .i64 1))),mv 12 122]))))<|sq (.block 8 (.loop (sq (so [mv 123 12,mv 124 13,b2 125 .leq 123 124,mv 126 125,mt 127 4 126,mt 128 0 126,mt 129 13 126,gt 130 126 (.jF 2 (.r 128) (.r 129)),gt 131 126 (.ld 2 true (.r 130)),mt 132 0 126,mt 133 1 126,gt 134 126 (.jF 2 (.r 132) (.r 133)),gt 135 126 (.ld 2 true (.r 134)),⟨(some 136),.aX (.r 127) [.r 131,.r 135],(some (126,true)),[]⟩,gt 137 126 (.bin .lss (.r 136) (.c (.int .i64 0))),gt 138 126 (.un .not (.r 137)),op 139 (.pick (.r 126) (.r 138) (.c (.bool false)))]<|cx 139 8)<|.block 9 (.ops [mv 140 13,op 141 (.bin .sub (.r 140) (.c (.int .i64 1))),mv 13 141]))))<|sq (so [mv 142 12,mv 143 13,b2 144 .gtr 142 143]<|.cond (.r 144) (.exit 4) (.skip))<|so [mv 145 0,mv 146 12,mv 147 0,mv 148 13,mv 149 0,mv 150 13,ia 151 2 149 150,ln 152 2 151,mv 153 0,mv 154 12,ia 155 2 153 154,ln 156 2 155,ia 157 2 145 146,se 2 157 152,ia 158 2 147 148,se 2 158 156]<|so [mv 159 12,op 160 (.bin .add (.r 159) (.c (.int .i64 1))),mv 12 160]<|.ops [mv 161 13,op 162 (.bin .sub (.r 161) (.c (.int .i64 1))),mv 13 162]))))<|so [mv 163 0,mv 164 13,mv 165 0,mv 166 1,mv 167 0,mv 168 1,ia 169 2 167 168,ln 170 2 169,mv 171 0,mv 172 13,ia 173 2 171 172,ln 174 2 173,ia 175 2 163 164,se 2 175 170,ia 176 2 165 166,se 2 176 174]<|so [mv 177 13,mv 10 177,op 11 (.aD (.c (.bool false)))]<|.ret⟩
def Pf:An:=⟨[],[]⟩
def xr:Go.Rmp.Fn:=⟨25,1,[.t 2],so [op 2 (.aD (.c (.int .i64 0)))]<|sq (so [mv 3 0,op 4 (.bin .geq (.r 3) (.c (.int .u64 4294967296)))]<|.cond (.r 4) (so [mv 5 0,op 6 (.bin .shr (.r 5) (.c (.int .u64 32))),mv 0 6]<|.ops [op 2 (.aD (.c (.int .i64 32)))]) (.skip))<|sq (so [mv 7 0,op 8 (.bin .geq (.r 7) (.c (.int .u64 65536)))]<|.cond (.r 8) (so [mv 9 0,op 10 (.bin .shr (.r 9) (.c (.int .u64 16))),mv 0 10]<|.ops [mv 11 2,op 12 (.bin .add (.r 11) (.c (.int .i64 16))),mv 2 12]) (.skip))<|sq (so [mv 13 0,op 14 (.bin .geq (.r 13) (.c (.int .u64 256)))]<|.cond (.r 14) (so [mv 15 0,op 16 (.bin .shr (.r 15) (.c (.int .u64 8))),mv 0 16]<|.ops [mv 17 2,op 18 (.bin .add (.r 17) (.c (.int .i64 8))),mv 2 18]) (.skip))<|so [mv 19 2,mv 20 0,op 21 (.td .u8 (.r 20)),op 22 (.Jd (.c (.str ⟨#[0,1,2,2,3,3,3,3,4,4,4,4,4,4,4,4,5,5,5,5,5,5,5,5,5,5,5,5,5,5,5,5,6,6,6,6,6,6,6,6,6,6,6,6,6,6,6,6,6,6,6,6,6,6,6,6,6,6,6,6,6,6,6,6,7,7,7,7,7,7,7,7,7,7,7,7,7,7,7,7,7,7,7,7,7,7,7,7,7,7,7,7,7,7,7,7,7,7,7,7,7,7,7,7,7,7,7,7,7,7,7,7,7,7,7,7,7,7,7,7,7,7,7,7,7,7,7,7,8,8,8,8,8,8,8,8,8,8,8,8,8,8,8,8,8,8,8,8,8,8,8,8,8,8,8,8,8,8,8,8,8,8,8,8,8,8,8,8,8,8,8,8,8,8,8,8,8,8,8,8,8,8,8,8,8,8,8,8,8,8,8,8,8,8,8,8,8,8,8,8,8,8,8,8,8,8,8,8,8,8,8,8,8,8,8,8,8,8,8,8,8,8,8,8,8,8,8,8,8,8,8,8,8,8,8,8,8,8,8,8,8,8,8,8,8,8,8,8,8,8,8,8,8,8,8,8]⟩)) (.r 21)),op 23 (.td .i64 (.r 22)),b2 24 .add 19 23,mv 2 24]<|.ret⟩
def Pg:An:=⟨[],[(3,[(0,true),(1,true),(2,true),(3,true),(4,true),(5,true),(6,true),(7,true),(8,true),(9,true),(10,true),(11,true),(12,true),(13,true),(14,true),(15,true),(16,true),(17,true),(18,true),(19,false),(20,true),(21,true)]),(5,[(0,true),(1,true),(2,true),(3,true),(4,true),(5,true),(6,true),(7,true),(8,true),(9,true),(10,true),(11,true),(12,true),(13,false),(14,true),(15,true)]),(6,[(0,true),(1,true),(2,true),(3,true),(4,true),(5,true),(6,true),(7,true),(8,true),(9,true),(10,true),(11,true),(12,true),(13,true),(14,true),(15,true),(16,true),(17,true),(18,true),(19,true),(20,true),(21,false),(22,true),(23,false)])]⟩
def Hc:Go.Rmp.Fn:=⟨82,5,[],so [mv 12 1,mv 10 12]<|.block 0 (.loop (.block 1 (so [mv 13 10,op 14 (.bin .mul (.c (.int .i64 2)) (.r 13)),op 15 (.bin .add (.r 14) (.c (.int .i64 1))),mv 11 15]<|sq (so [mv 16 11,mv 17 2,b2 18 .geq 16 17]<|.cond (.r 18) (.exit 0) (.skip))<|sq (so [mv 19 11,op 20 (.bin .add (.r 19) (.c (.int .i64 1))),mv 21 2,b2 22 .lss 20 21,mv 23 22,mt 24 4 23,mt 25 0 23,mt 26 3 23,mt 27 11 23,gt 28 23 (.bin .add (.r 26) (.r 27)),gt 29 23 (.jF 2 (.r 25) (.r 28)),gt 30 23 (.ld 2 true (.r 29)),mt 31 0 23,mt 32 3 23,mt 33 11 23,gt 34 23 (.bin .add (.r 32) (.r 33)),gt 35 23 (.bin .add (.r 34) (.c (.int .i64 1))),gt 36 23 (.jF 2 (.r 31) (.r 35)),gt 37 23 (.ld 2 true (.r 36)),⟨(some 38),.aX (.r 24) [.r 30,.r 37],(some (23,true)),[]⟩,gt 39 23 (.bin .lss (.r 38) (.c (.int .i64 0))),op 40 (.pick (.r 23) (.r 39) (.c (.bool false)))]<|.cond (.r 40) (.ops [mv 41 11,op 42 (.bin .add (.r 41) (.c (.int .i64 1))),mv 11 42]) (.skip))<|sq (so [mv 43 4,mv 44 0,mv 45 3,mv 46 10,b2 47 .add 45 46,ia 48 2 44 47,ln 49 2 48,mv 50 0,mv 51 3,mv 52 11,b2 53 .add 51 52,ia 54 2 50 53,ln 55 2 54,⟨(some 56),.aX (.r 43) [.r 49,.r 55],none,[]⟩,op 57 (.bin .lss (.r 56) (.c (.int .i64 0))),op 58 (.un .not (.r 57))]<|.cond (.r 58) (.ret) (.skip))<|so [mv 59 0,mv 60 3,mv 61 10,b2 62 .add 60 61,mv 63 0,mv 64 3,mv 65 11,b2 66 .add 64 65,mv 67 0,mv 68 3,mv 69 11,b2 70 .add 68 69,ia 71 2 67 70,ln 72 2 71,mv 73 0,mv 74 3,mv 75 10,b2 76 .add 74 75,ia 77 2 73 76,ln 78 2 77,ia 79 2 59 62,se 2 79 72,ia 80 2 63 66,se 2 80 78]<|.ops [mv 81 11,mv 10 81])))⟩
def Kz:An:=⟨[],[]⟩
def AM:Go.Rmp.Fn:=⟨7,1,[.t 2],so [op 2 (.aD (.c (.int .u64 0)))]<|so [mv 3 0,op 4 (.td .u64 (.r 3)),cl 5 70 [.r 4],op 6 (.bin .shl (.c (.int .u64 1)) (.r 5)),mv 2 6]<|.ret⟩
def KA:An:=⟨[],[(1,[(0,true),(1,true),(2,true),(3,true),(4,true),(5,true),(6,true),(7,true),(8,true),(9,false)]),(2,[(0,true),(1,true),(2,true),(3,true),(4,true),(5,true),(6,true),(7,true),(8,true),(9,false)]),(3,[(0,true),(1,true),(2,true),(3,true),(4,true),(5,true),(6,true),(7,true),(8,true),(9,false)])]⟩
def AN:Go.Rmp.Fn:=⟨33,1,[.t 2],so [op 2 (.aD (.c (.int .u64 0)))]<|so [mv 3 0,nc 4 3,l1 5 4,mv 6 0,nc 7 6,l1 8 7,op 9 (.bin .shl (.r 8) (.c (.int .u64 13))),b2 10 .xor 5 9,nc 11 3,se 1 11 10]<|so [mv 12 0,nc 13 12,l1 14 13,mv 15 0,nc 16 15,l1 17 16,op 18 (.bin .shr (.r 17) (.c (.int .u64 7))),b2 19 .xor 14 18,nc 20 12,se 1 20 19]<|so [mv 21 0,nc 22 21,l1 23 22,mv 24 0,nc 25 24,l1 26 25,op 27 (.bin .shl (.r 26) (.c (.int .u64 17))),b2 28 .xor 23 27,nc 29 21,se 1 29 28]<|so [mv 30 0,nc 31 30,l1 32 31,mv 2 32]<|.ret⟩
def KB:An:=⟨[],[]⟩
def AO:Go.Rmp.Fn:=⟨18,4,[.t 8],so [op 8 (.aD (.c (.int .i64 0)))]<|so [mv 9 0,mv 10 1,op 11 (.bin .sub (.r 10) (.c (.int .i64 1))),mv 12 1,mv 13 1,op 14 (.bin .add (.r 13) (.c (.int .i64 1))),mv 15 2,mv 16 3,cl 17 103 [.r 9,.r 11,.r 12,.r 14,.r 15,.r 16],mv 8 17]<|.ret⟩
def KC:An:=⟨[],[]⟩
def AP:Go.Rmp.Fn:=⟨41,6,[.t 12],so [op 12 (.aD (.c (.int .i64 0)))]<|so [mv 14 0,mv 15 1,mv 16 2,mv 17 4,mv 18 5,cl 19 107 [.r 14,.r 15,.r 16,.r 17,.r 18],mv 13 19,xt 20 0 13,xt 21 1 13,mv 1 20,mv 2 21]<|so [mv 23 0,mv 24 2,mv 25 3,mv 26 4,mv 27 5,cl 28 107 [.r 23,.r 24,.r 25,.r 26,.r 27],mv 22 28,xt 29 0 22,xt 30 1 22,mv 2 29,mv 3 30]<|so [mv 32 0,mv 33 1,mv 34 2,mv 35 4,mv 36 5,cl 37 107 [.r 32,.r 33,.r 34,.r 35,.r 36],mv 31 37,xt 38 0 31,xt 39 1 31,mv 1 38,mv 2 39]<|so [mv 40 2,mv 12 40]<|.ret⟩
def KD:An:=⟨[],[(1,[(0,true),(1,true),(2,true),(3,true),(4,true),(5,true),(6,true),(7,true),(8,true),(9,false),(10,true)])]⟩
def AQ:Go.Rmp.Fn:=⟨32,5,[.t 10,.t 11],so [op 10 (.aD (.c (.int .i64 0))),op 11 (.aD (.c (.int .i64 0)))]<|sq (so [mv 12 4,mv 13 0,mv 14 2,ia 15 2 13 14,ln 16 2 15,mv 17 0,mv 18 1,ia 19 2 17 18,ln 20 2 19,⟨(some 21),.aX (.r 12) [.r 16,.r 20],none,[]⟩,op 22 (.bin .lss (.r 21) (.c (.int .i64 0)))]<|.cond (.r 22) (so [mv 23 3,nc 24 23,l1 25 24,op 26 (.bin .add (.r 25) (.c (.int .i64 1))),nc 27 23,se 1 27 26]<|so [mv 28 2,mv 29 1,mv 10 28,mv 11 29]<|.ret) (.skip))<|so [mv 30 1,mv 31 2,mv 10 30,mv 11 31]<|.ret⟩
theorem c3:aq Try.prog Ta 3=some Dh:=by kernel_rfl
theorem c7:aq Try.prog Tb 7=some N9:=by kernel_rfl
theorem c8:aq Try.prog Tc 8=some Oa:=by kernel_rfl
theorem c9:aq Try.prog Td 9=some Ob:=by kernel_rfl
theorem Te:aq Try.prog Oc 10=some Di:=by kernel_rfl
theorem Tf:aq Try.prog Od 11=some Gp:=by kernel_rfl
theorem Tg:aq Try.prog Oe 12=some Gq:=by kernel_rfl
theorem Th:aq Try.prog Of 13=some Gr:=by kernel_rfl
theorem Ti:aq Try.prog Og 14=some Dj:=by kernel_rfl
theorem Tj:aq Try.prog Oh 15=some Gs:=by kernel_rfl
theorem Tk:aq Try.prog Oi 18=some Gt:=by kernel_rfl
theorem Tm:aq Try.prog Oj 21=some Gu:=by kernel_rfl
theorem Tn:aq Try.prog Ol 24=some Gv:=by kernel_rfl
theorem To:aq Try.prog Om 28=some Gw:=by kernel_rfl
theorem Tp:aq Try.prog On 29=some Gx:=by kernel_rfl
theorem Tq:aq Try.prog Oo 30=some Gy:=by kernel_rfl
theorem Ts:aq Try.prog Oq 31=some AL:=by kernel_rfl
theorem Tt:aq Try.prog Ot 32=some Gz:=by kernel_rfl
theorem Tu:aq Try.prog Ou 33=some Dk:=by kernel_rfl
theorem Tv:aq Try.prog Ov 34=some Dl:=by kernel_rfl
theorem Tw:aq Try.prog Ox 35=some GA:=by kernel_rfl
theorem Tx:aq Try.prog Oy 36=some qI:=by kernel_rfl
theorem Ty:aq Try.prog Oz 37=some GB:=by kernel_rfl
theorem Tz:aq Try.prog OA 38=some GC:=by kernel_rfl
theorem TA:aq Try.prog OB 39=some GD:=by kernel_rfl
theorem TB:aq Try.prog OC 40=some GF:=by kernel_rfl
theorem TC:aq Try.prog OD 44=some GG:=by kernel_rfl
theorem TD:aq Try.prog OE 45=some GH:=by kernel_rfl
theorem TE:aq Try.prog OF 46=some GI:=by kernel_rfl
theorem TF:aq Try.prog OG 47=some GJ:=by kernel_rfl
theorem TG:aq Try.prog OH 48=some GK:=by kernel_rfl
theorem TH:aq Try.prog OI 49=some Ky:=by kernel_rfl
theorem TI:aq Try.prog OJ 50=some GL:=by kernel_rfl
theorem TJ:aq Try.prog OK 51=some Dm:=by kernel_rfl
theorem TK:aq Try.prog OL 52=some GM:=by kernel_rfl
theorem TL:aq Try.prog OM 53=some GN:=by kernel_rfl
theorem TM:aq Try.prog ON 54=some GO:=by kernel_rfl
theorem TN:aq Try.prog OO 55=some GP:=by kernel_rfl
theorem TO:aq Try.prog OP 59=some GQ:=by kernel_rfl
theorem TP:aq Try.prog OQ 60=some GR:=by kernel_rfl
theorem TQ:aq Try.prog OS 61=some GS:=by kernel_rfl
theorem TR:aq Try.prog OT 62=some GU:=by kernel_rfl
theorem TS:aq Try.prog OU 63=some GV:=by kernel_rfl
theorem TT:aq Try.prog OW 64=some GW:=by kernel_rfl
theorem TU:aq Try.prog OX 65=some GX:=by kernel_rfl
theorem TV:aq Try.prog OY 68=some GY:=by kernel_rfl
theorem TW:aq Try.prog OZ 69=some fR:=by kernel_rfl
theorem TX:aq Try.prog O0 70=some Dn:=by kernel_rfl
theorem TY:aq Try.prog O1 71=some GZ:=by kernel_rfl
theorem TZ:aq Try.prog O2 72=some G0:=by kernel_rfl
theorem T0:aq Try.prog O3 75=some G1:=by kernel_rfl
theorem T1:aq Try.prog O4 76=some G2:=by kernel_rfl
theorem T2:aq Try.prog O5 77=some G3:=by kernel_rfl
theorem T3:aq Try.prog O6 78=some G4:=by kernel_rfl
theorem T4:aq Try.prog O7 80=some Dp:=by kernel_rfl
theorem T5:aq Try.prog O8 81=some G5:=by kernel_rfl
theorem T6:aq Try.prog O9 82=some G6:=by kernel_rfl
theorem T7:aq Try.prog Pa 83=some Dq:=by kernel_rfl
theorem T8:aq Try.prog Pb 84=some G7:=by kernel_rfl
theorem T9:aq Try.prog Pc 85=some G8:=by kernel_rfl
theorem Ua:aq Try.prog Pd 86=some G9:=by kernel_rfl
theorem Ub:aq Try.prog Pe 87=some Ha:=by kernel_rfl
theorem Uc:aq Try.prog Pf 89=some xr:=by kernel_rfl
theorem Ud:aq Try.prog Pg 99=some Hc:=by kernel_rfl
theorem Ph:aq Try.prog Kz 100=some AM:=by kernel_rfl
theorem Pj:aq Try.prog KA 101=some AN:=by kernel_rfl
theorem Pk:aq Try.prog KB 102=some AO:=by kernel_rfl
theorem Pl:aq Try.prog KC 103=some AP:=by kernel_rfl
theorem Pm:aq Try.prog KD 107=some AQ:=by kernel_rfl
def EN:Nat→Option Go.Rmp.Fn
 | 3=>some Dh
 | 7=>some N9
 | 8=>some Oa
 | 9=>some Ob
 | 10=>some Di
 | 11=>some Gp
 | 12=>some Gq
 | 13=>some Gr
 | 14=>some Dj
 | 15=>some Gs
 | 18=>some Gt
 | 21=>some Gu
 | 24=>some Gv
 | 28=>some Gw
 | 29=>some Gx
 | 30=>some Gy
 | 31=>some AL
 | 32=>some Gz
 | 33=>some Dk
 | 34=>some Dl
 | 35=>some GA
 | 36=>some qI
 | 37=>some GB
 | 38=>some GC
 | 39=>some GD
 | 40=>some GF
 | 44=>some GG
 | 45=>some GH
 | 46=>some GI
 | 47=>some GJ
 | 48=>some GK
 | 49=>some Ky
 | 50=>some GL
 | 51=>some Dm
 | 52=>some GM
 | 53=>some GN
 | 54=>some GO
 | 55=>some GP
 | 59=>some GQ
 | 60=>some GR
 | 61=>some GS
 | 62=>some GU
 | 63=>some GV
 | 64=>some GW
 | 65=>some GX
 | 68=>some GY
 | 69=>some fR
 | 70=>some Dn
 | 71=>some GZ
 | 72=>some G0
 | 75=>some G1
 | 76=>some G2
 | 77=>some G3
 | 78=>some G4
 | 80=>some Dp
 | 81=>some G5
 | 82=>some G6
 | 83=>some Dq
 | 84=>some G7
 | 85=>some G8
 | 86=>some G9
 | 87=>some Ha
 | 89=>some xr
 | 99=>some Hc
 | 100=>some AM
 | 101=>some AN
 | 102=>some AO
 | 103=>some AP
 | 107=>some AQ
 | _=>none
def env:Env:=⟨EN,fun _ _ _ _=>False,fun _ _ _ _ _ h _=>h⟩
theorem KE:r7 Try.prog env where
 mixed:=by kernel_rfl
 fn:=by
  intro f fn h
  simp only[env,EN]at h
  split at h
  ·cases h;exact⟨_,c3⟩
  ·cases h;exact⟨_,c7⟩
  ·cases h;exact⟨_,c8⟩
  ·cases h;exact⟨_,c9⟩
  ·cases h;exact⟨_,Te⟩
  ·cases h;exact⟨_,Tf⟩
  ·cases h;exact⟨_,Tg⟩
  ·cases h;exact⟨_,Th⟩
  ·cases h;exact⟨_,Ti⟩
  ·cases h;exact⟨_,Tj⟩
  ·cases h;exact⟨_,Tk⟩
  ·cases h;exact⟨_,Tm⟩
  ·cases h;exact⟨_,Tn⟩
  ·cases h;exact⟨_,To⟩
  ·cases h;exact⟨_,Tp⟩
  ·cases h;exact⟨_,Tq⟩
  ·cases h;exact⟨_,Ts⟩
  ·cases h;exact⟨_,Tt⟩
  ·cases h;exact⟨_,Tu⟩
  ·cases h;exact⟨_,Tv⟩
  ·cases h;exact⟨_,Tw⟩
  ·cases h;exact⟨_,Tx⟩
  ·cases h;exact⟨_,Ty⟩
  ·cases h;exact⟨_,Tz⟩
  ·cases h;exact⟨_,TA⟩
  ·cases h;exact⟨_,TB⟩
  ·cases h;exact⟨_,TC⟩
  ·cases h;exact⟨_,TD⟩
  ·cases h;exact⟨_,TE⟩
  ·cases h;exact⟨_,TF⟩
  ·cases h;exact⟨_,TG⟩
  ·cases h;exact⟨_,TH⟩
  ·cases h;exact⟨_,TI⟩
  ·cases h;exact⟨_,TJ⟩
  ·cases h;exact⟨_,TK⟩
  ·cases h;exact⟨_,TL⟩
  ·cases h;exact⟨_,TM⟩
  ·cases h;exact⟨_,TN⟩
  ·cases h;exact⟨_,TO⟩
  ·cases h;exact⟨_,TP⟩
  ·cases h;exact⟨_,TQ⟩
  ·cases h;exact⟨_,TR⟩
  ·cases h;exact⟨_,TS⟩
  ·cases h;exact⟨_,TT⟩
  ·cases h;exact⟨_,TU⟩
  ·cases h;exact⟨_,TV⟩
  ·cases h;exact⟨_,TW⟩
  ·cases h;exact⟨_,TX⟩
  ·cases h;exact⟨_,TY⟩
  ·cases h;exact⟨_,TZ⟩
  ·cases h;exact⟨_,T0⟩
  ·cases h;exact⟨_,T1⟩
  ·cases h;exact⟨_,T2⟩
  ·cases h;exact⟨_,T3⟩
  ·cases h;exact⟨_,T4⟩
  ·cases h;exact⟨_,T5⟩
  ·cases h;exact⟨_,T6⟩
  ·cases h;exact⟨_,T7⟩
  ·cases h;exact⟨_,T8⟩
  ·cases h;exact⟨_,T9⟩
  ·cases h;exact⟨_,Ua⟩
  ·cases h;exact⟨_,Ub⟩
  ·cases h;exact⟨_,Uc⟩
  ·cases h;exact⟨_,Ud⟩
  ·cases h;exact⟨_,Ph⟩
  ·cases h;exact⟨_,Pj⟩
  ·cases h;exact⟨_,Pk⟩
  ·cases h;exact⟨_,Pl⟩
  ·cases h;exact⟨_,Pm⟩
  ·cases h
 lA:=by intro f az H Q h;exact h.elim
end Go.Proofs.Ytodegnhallgnkaa.Ir
end

section
namespace Go.Proofs.Ytodegnhallgnkaa.St
open Go.Rmp Go.Proofs.Ytodegnhallgnkaa.Ir
set_option maxRecDepth 10000
theorem cF {α:Type}{l:List α}{i:Nat}(h:i<l.length):∃x,l[i]?=some x:=⟨l[i],List.getElem?_eq_getElem h⟩
def eS (s:ByteArray):List T:=[.str s]
def eU (n:Nat):List T:=[.int .u64 n]
theorem vP {n:Nat}(h:n<256):IntKind.u8.wrap (n:Int)=(n:Int):=by
 unfold IntKind.wrap
 simp -implicitDefEqProofs only[IntKind.signed,IntKind.bits]
 simp
 omega
def gE:List ByteArray→Bool
 | a :: b :: l=>strLt a b&&gE (b :: l)
 | _=>true
theorem jt:∀(l:List ByteArray),gE l=true↔∀(i:Nat) (a b:ByteArray),l[i]?=some a→l[i+1]?=some b→strLt a b=true
 | []=>by simp[gE]
 | [a]=>by simp[gE]
 | a :: b :: l=>by
  simp -implicitDefEqProofs only[gE,Bool.and_eq_true,jt (b :: l)]
  constructor
  ·rintro⟨h1,h2⟩ i x y hx hy
   cases i with
   | zero=>simp at hx hy;subst hx;subst hy;exact h1
   | succ i=>exact h2 i x y (by simpa using hx) (by simpa using hy)
  ·intro h
   exact⟨h 0 a b rfl rfl,fun i x y hx hy=>h (i+1) x y (by simpa using hx) (by simpa using hy)⟩
theorem kZ {l:List ByteArray}(h:gE l=true):∀(q p:Nat) (a b:ByteArray),p<q→l[p]?=some a→l[q]?=some b→strLt a b=true
 | 0,p,_,_,Jz,_,_=>by omega
 | q+1,p,a,b,Jz,ha,hb=>by
  obtain⟨c,hc⟩:=cF (l:=l) (i:=q) (by have:=(List.getElem?_eq_some_iff.1 hb).1;omega)
  have h1:=(jt l).1 h q c b hc hb
  by_cases e:p=q
  ·subst e;rw[ha]at hc;cases hc;exact h1
  ·exact fu (kZ h q p a c (by omega) ha hc) h1
theorem pU {n:Nat}(h:n<18446744073709551616):IntKind.u64.wrap (n:Int)=(n:Int):=by
 unfold IntKind.wrap
 simp -implicitDefEqProofs only[IntKind.signed,IntKind.bits]
 simp
 omega
theorem uk (n:Int)(H:ae):W env (.call 34 [.int .i64 n]) H (oZ (.bool (decide (0≤n)&&decide (n≤1099511627776))) H):=by
 refine W.cJ rfl rfl rfl ?_
 by_cases h1:0≤n
 ·simp -implicitDefEqProofs only[Dl,op,ef,cl,sq,reduceIte,q4,q5,q6,q7,q8,j1,j2,j3,j4,S1,h1]
 ·simp -implicitDefEqProofs only[Dl,op,ef,cl,sq,reduceIte,q4,q5,q6,q7,q8,j1,j2,j3,j4,S1,h1,Bool.false_and]
theorem all_map {α:Type}{enc:α→List T}{n:Nat}(hn:∀x,(enc x).length=n)(l:List α):(l.map enc).all (·.length==n)=true:=by
 simp[List.all_map,hn]
theorem bA {α:Type}{l:List α}{i:Nat}{x:α}(h:l[i]?=some x):l.take (i+1)=l.take i++[x]:=by
 obtain⟨hi,e⟩:=List.getElem?_eq_some_iff.1 h
 rw[List.take_add_one,h];rfl
theorem lS {α:Type}{e:α→List T}{n:Nat}(hn:∀x,(e x).length=n)(h0:n≠0){l:List α}{k:SK}{i:Nat}{x:α}(h:l[i]?=some x):ew n i (.sl k (l.map e))=some (.cy (e x)):=by
 simp -implicitDefEqProofs only[ew,List.getElem?_map,h,Option.map_some,hn,h0,ne_eq,not_false_eq_true,and_self,if_true]
theorem ja {n b:Nat}(h:n≤16777216)(hb:b≤64):cr n b=true:=by
 simp -implicitDefEqProofs only[cr,decide_eq_true_eq]
 have:(n+n/4+512)*b≤(n+n/4+512)*64:=Nat.mul_le_mul_left _ hb
 omega
def jh {α:Type}(k:SK)(l:List α):Prop:=k=.nil→l=[]
theorem um {H H':ae}{bytes:Nat}{k k':SK}{es new Jv:List (List T)}(ha:kv H bytes k es new=some (.sl k' Jv,H'))(hn:new≠[]):k'≠.nil:=by
 rintro rfl
 unfold kv at ha
 split at ha
 ·exact hn rfl
 ·split at ha
  ·cases k<;>simp only at ha
   ·simp at ha
   ·cases ha
   ·simp at ha
   ·split at ha
    ·split at ha<;>simp at ha
    ·cases ha
  ·cases ha
theorem AR (s:ByteArray)(H:ae):W env (.call 71 [.str s]) H (oZ (.bool false) H):=by
 refine W.cJ rfl rfl rfl ?_
 simp -implicitDefEqProofs only[GZ,op,ef,cl,sq,reduceIte,q4,q5,q6,q7,q8,j1,j2,j3,j4,S1,Bool.not_true]
theorem KF (s:ByteArray)(H:ae):W env (.call 78 [.str s]) H (oZ (.bool false) H):=by
 refine W.cJ rfl rfl rfl ?_
 simp -implicitDefEqProofs only[G4,op,ef,cl,sq,reduceIte,q4,q5,q6,q7,q8,j1,j2,j3,j4,S1,Bool.not_true]
theorem AS (n:Nat)(H:ae):W env (.call 72 [.int .u64 n]) H (oZ (.bool false) H):=by
 refine W.cJ rfl rfl rfl ?_
 simp -implicitDefEqProofs only[G0,op,ef,cl,sq,reduceIte,q4,q5,q6,q7,q8,j1,j2,j3,j4,S1]
theorem KG (n:Nat)(H:ae):W env (.call 65 [.int .u64 n]) H (oZ (.bool false) H):=by
 refine W.cJ rfl rfl rfl ?_
 simp -implicitDefEqProofs only[GX,op,ef,cl,sq,reduceIte,q4,q5,q6,q7,q8,j1,j2,j3,j4,S1]
def xu (a b:ByteArray):Int:=if strLt a b=true then -1 else if strLt b a=true then 1 else 0
def xv (a b:Nat):Int:=if a<b then -1 else if b<a then 1 else 0
theorem KH (a b:ByteArray)(H:ae):W env (.call 54 [.str a,.str b]) H (oZ (.int .i64 (xu a b)) H):=by
 refine W.cJ rfl rfl rfl ?_
 simp -implicitDefEqProofs only[GO,op,ef,cl,sq,reduceIte,q4,q5,q6,q7,q8,j1,j2,j3,j4,S1]
 refine af _ _ _ _ _ _ _ _ (AR a _) ?_
 rintro u H1⟨hu,rfl⟩
 cases hu
 simp -implicitDefEqProofs only[op,ef,cl,sq,reduceIte,q4,q5,q6,q7,q8,j1,j2,j3,j4,S1]
 refine af _ _ _ _ _ _ _ _ (AR b _) ?_
 rintro u H1⟨hu,rfl⟩
 cases hu
 cases h1:strLt a b
 ·cases h2:strLt b a
  ·simp -implicitDefEqProofs only[op,ef,cl,sq,reduceIte,q4,q5,q6,q7,q8,j1,j2,j3,j4,S1,xu,h1,h2]
  ·simp -implicitDefEqProofs only[op,ef,cl,sq,reduceIte,q4,q5,q6,q7,q8,j1,j2,j3,j4,S1,xu,h1,h2]
 ·simp -implicitDefEqProofs only[op,ef,cl,sq,reduceIte,q4,q5,q6,q7,q8,j1,j2,j3,j4,S1,xu,h1]
theorem KI (a b:Nat)(H:ae):W env (.call 55 [.int .u64 a,.int .u64 b]) H (oZ (.int .i64 (xv a b)) H):=by
 refine W.cJ rfl rfl rfl ?_
 simp -implicitDefEqProofs only[GP,op,ef,cl,sq,reduceIte,q4,q5,q6,q7,q8,j1,j2,j3,j4,S1]
 refine af _ _ _ _ _ _ _ _ (AS a _) ?_
 rintro u H1⟨hu,rfl⟩
 cases hu
 simp -implicitDefEqProofs only[op,ef,cl,sq,reduceIte,q4,q5,q6,q7,q8,j1,j2,j3,j4,S1]
 refine af _ _ _ _ _ _ _ _ (AS b _) ?_
 rintro u H1⟨hu,rfl⟩
 cases hu
 by_cases h1:a<b
 ·simp -implicitDefEqProofs only[op,ef,cl,sq,reduceIte,q4,q5,q6,q7,q8,j1,j2,j3,j4,S1,xv,h1]
 ·by_cases h2:b<a
  ·simp -implicitDefEqProofs only[op,ef,cl,sq,reduceIte,q4,q5,q6,q7,q8,j1,j2,j3,j4,S1,xv,h1,h2]
  ·simp -implicitDefEqProofs only[op,ef,cl,sq,reduceIte,q4,q5,q6,q7,q8,j1,j2,j3,j4,S1,xv,h1,h2]
theorem He (a b:ByteArray)(H:ae):W env (.call 77 [.str a,.str b]) H (oZ (.bool (strLt a b)) H):=by
 refine W.cJ rfl rfl rfl ?_
 simp -implicitDefEqProofs only[G3,op,ef,cl,sq,reduceIte,q4,q5,q6,q7,q8,j1,j2,j3,j4,S1]
 refine af _ _ _ _ _ _ _ _ (AR a _) ?_
 rintro u H1⟨hu,rfl⟩
 cases hu
 simp -implicitDefEqProofs only[op,ef,cl,sq,reduceIte,q4,q5,q6,q7,q8,j1,j2,j3,j4,S1]
theorem Hf (a b:Nat)(H:ae):W env (.call 64 [.int .u64 a,.int .u64 b]) H (oZ (.bool (decide (a<b))) H):=by
 refine W.cJ rfl rfl rfl ?_
 simp -implicitDefEqProofs only[GW,op,ef,cl,sq,reduceIte,q4,q5,q6,q7,q8,j1,j2,j3,j4,S1]
 refine af _ _ _ _ _ _ _ _ (AS a _) ?_
 rintro u H1⟨hu,rfl⟩
 cases hu
 simp -implicitDefEqProofs only[op,ef,cl,sq,reduceIte,q4,q5,q6,q7,q8,j1,j2,j3,j4,S1]
def IV (x y:Int):Int:=if x=0 then y else x
theorem Pn (x y:Int)(H:ae):W env (.call 53 [.sl .full [[.int .i64 x],[.int .i64 y]]]) H (oZ (.int .i64 (IV x y)) H):=by
 refine W.cJ rfl rfl rfl ?_
 simp -implicitDefEqProofs only[GN,op,ef,cl,sq,reduceIte,q4,q5,q6,q7,q8,j1,j2,j3,j4,S1]
 refine W.cZ (fun (i:Nat) R H'=>H'=H∧R 3=.int .i64 0∧R 6=.sl .full [[.int .i64 x],[.int .i64 y]]∧R 7=.int .i64 2∧R 8=.int .i64 i∧i≤2∧(1≤i→x=0)∧(2≤i→y=0)) (fun i=>2-i) 0 ⟨rfl,rfl,rfl,rfl,rfl,by omega,fun h=>by omega,fun h=>by omega⟩ ?_
 rintro i R _⟨rfl,h3,h6,h7,h8,hi,h1,h2⟩
 have hc:i=0∨i=1∨i=2:=by omega
 have i0:ew 1 0 (.sl .full [[T.int .i64 x],[.int .i64 y]])=some (.cy [.int .i64 x]):=rfl
 have i1:ew 1 1 (.sl .full [[T.int .i64 x],[.int .i64 y]])=some (.cy [.int .i64 y]):=rfl
 have n0:bB (.int .i64 ((0:Nat):Int))=some 0:=rfl
 have n1:bB (.int .i64 ((1:Nat):Int))=some 1:=rfl
 have l0:((0:Nat):Int)<2:=by decide
 have l1:((1:Nat):Int)<2:=by decide
 have l2:¬((2:Nat):Int)<2:=by decide
 have w0:IntKind.i64.wrap (((0:Nat):Int)+1)=((1:Nat):Int):=by decide
 have w1:IntKind.i64.wrap (((1:Nat):Int)+1)=((2:Nat):Int):=by decide
 rcases hc with rfl|rfl|rfl
 ·by_cases hx:x=0
  ·subst hx
   simp -implicitDefEqProofs only[op,ef,cl,sq,reduceIte,q4,q5,q6,q7,q8,j1,j2,j3,j4,S1,h3,h6,h7,h8,l0,i0,n0,w0]
   exact⟨1,by decide,rfl,by omega⟩
  ·have gg:(x != 0)=true:=by simpa using hx
   simp -implicitDefEqProofs only[op,ef,cl,sq,reduceIte,q4,q5,q6,q7,q8,j1,j2,j3,j4,S1,h3,h6,h7,h8,l0,i0,n0,gg,IV,hx]
 ·have hx:=h1 (by decide)
  subst hx
  by_cases hy:y=0
  ·subst hy
   simp -implicitDefEqProofs only[op,ef,cl,sq,reduceIte,q4,q5,q6,q7,q8,j1,j2,j3,j4,S1,h3,h6,h7,h8,l1,i1,n1,w1]
   exact⟨2,by decide,rfl,by omega⟩
  ·have Mt:(y != 0)=true:=by simpa using hy
   simp -implicitDefEqProofs only[op,ef,cl,sq,reduceIte,q4,q5,q6,q7,q8,j1,j2,j3,j4,S1,h3,h6,h7,h8,l1,i1,n1,Mt,IV]
 ·have hx:=h1 (by decide)
  have hy:=h2 (by decide)
  subst hx hy
  simp -implicitDefEqProofs only[op,ef,cl,sq,reduceIte,q4,q5,q6,q7,q8,j1,j2,j3,j4,S1,h3,h6,h7,h8,l2,IV]
abbrev Nm:=ByteArray×Nat
def eN (n:Nm):List T:=[.str n.1,.int .u64 n.2]
def kN (n:Nm):T:=.agg (eN n)
theorem sP:ob (.st [.str,.int]) kN:=⟨fun _=>rfl,fun a b=>by
 simp -implicitDefEqProofs only[kN,eN,fx,bf,fQ,dn,if_true,IT]
 congr 1
 rw[Bool.eq_iff_iff]
 simp[Prod.ext_iff]⟩
def cL (a b:Nm):Int:=IV (xu a.1 b.1) (xv a.2 b.2)
theorem bC (a b:Nm)(H:ae):W env (.call 40 [kN a,kN b]) H (qz (.int .i64 (cL a b)) H):=by
 refine W.cJ rfl rfl rfl ?_
 simp -implicitDefEqProofs only[GF,kN,eN,op,ef,cl,sq,reduceIte,q4,q5,q6,q7,q8,j1,j2,j3,j4,S1,S2,S3]
 refine af _ _ _ _ _ _ _ _ (KH _ _ _) ?_
 rintro u H1⟨hu,rfl⟩
 cases hu
 simp -implicitDefEqProofs only[op,ef,cl,sq,reduceIte,q4,q5,q6,q7,q8,j1,j2,j3,j4,S1,S2,S3]
 refine af _ _ _ _ _ _ _ _ (KI _ _ _) ?_
 rintro u H1⟨hu,rfl⟩
 cases hu
 simp -implicitDefEqProofs only[op,ef,cl,sq,reduceIte,q4,q5,q6,q7,q8,j1,j2,j3,j4,S1,S2,S3]
 refine af _ _ _ _ _ _ _ _ (Pn _ _ _) ?_
 rintro u H1⟨hu,rfl⟩
 cases hu
 simp -implicitDefEqProofs only[op,ef,cl,sq,reduceIte,q4,q5,q6,q7,q8,j1,j2,j3,j4,S1]
 exact⟨rfl,(Ext.rfl'.app _).app _⟩
theorem half (i j:Nat)(h:i+j<9223372036854775807):IntKind.i64.wrap ((IntKind.u64.wrap (IntKind.i64.wrap ((i:Int)+(j:Int)))).fdiv (2^(min (1:Int).toNat IntKind.u64.bits)))=(((i+j)/2:Nat):Int):=by
 rw[wrap64 (n:=(i:Int)+j) (by omega),fY (n:=(i:Int)+j) (by omega)]
 have e:(2:Int)^(min (1:Int).toNat IntKind.u64.bits)=2:=by decide
 rw[e,Int.fdiv_eq_ediv_of_nonneg _ (by omega),wrap64 (by omega)]
 omega
def lT (l:List ByteArray)(x:ByteArray):Bool:=l.any fun y=>decide (y=x)
theorem oj {l:List ByteArray}{x:ByteArray}:lT l x=true↔x∈l:=by simp[lT]
theorem qJ {l:List ByteArray}{x:ByteArray}:lT l x=false↔x∉l:=by rw[←oj];simp
def AU (l:List ByteArray)(i:Nat):Prop:=∀x,l[i]?=some x→x.size≤65535∧(0<i→∀y,l[i-1]?=some y→strLt y x=true)
def fM (l:List ByteArray):Prop:=(∀i,i<l.length→AU l i)∧1≤l.length∧l.length≤1024
def lf (l:List ByteArray):Bool:=gE l&&l.all (fun x=>decide (x.size≤65535))&&decide (1≤l.length)&&decide (l.length≤1024)
theorem fv {l:List ByteArray}:lf l=true↔fM l:=by
 simp -implicitDefEqProofs only[lf,Bool.and_eq_true,decide_eq_true_eq,List.all_eq_true,fM,jt]
 constructor
 ·rintro⟨⟨⟨h1,h2⟩,h3⟩,h4⟩
  refine⟨fun i hi x hx=>⟨h2 x (List.mem_of_getElem? hx),fun h0 y hy=>h1 (i-1) y x hy (by rw[show i-1+1=i by omega];exact hx)⟩,h3,h4⟩
 ·rintro⟨h1,h3,h4⟩
  refine⟨⟨⟨fun i a b ha hb=>?_,fun x hx=>?_⟩,h3⟩,h4⟩
  ·exact(h1 (i+1) (List.getElem?_eq_some_iff.1 hb).1 b hb).2 (by omega) a (by simpa using ha)
  ·obtain⟨i,hi,rfl⟩:=List.getElem_of_mem hx
   exact(h1 i hi _ (List.getElem?_eq_getElem hi)).1
theorem sQ {l:List ByteArray}(h:¬fM l):lf l=false:=by
 cases e:lf l with
 | false=>rfl
 | true=>exact absurd (fv.1 e) h
theorem fM.gE {l:List ByteArray}(h:fM l):gE l=true:=(jt l).2 fun i a b ha hb=>by
 have:=(h.1 (i+1) (List.getElem?_eq_some_iff.1 hb).1 b hb).2 (by omega) a (by simpa using ha)
 exact this
theorem AV (k:SK)(l:List ByteArray)(H:ae)(hl:l.length<9223372036854775807):W env (.call 46 [.sl k (l.map eS)]) H (fun o H'=>o=.val (.bool (lf l))∧H'=H):=by
 refine W.cJ rfl rfl rfl ?_
 simp -implicitDefEqProofs only[GI,op,ef,cl,sq,reduceIte,q4,q5,q6,q7,q8,j1,j2,j3,j4,S1,List.length_map]
 refine W.cZ (fun (i:Nat) R H'=>H'=H∧R 0=.sl k (l.map eS)∧R 5=.sl k (l.map eS)∧R 6=.int .i64 l.length∧R 7=.int .i64 i∧i≤l.length∧∀j,j<i→AU l j) (fun i=>l.length-i) 0 ⟨rfl,rfl,rfl,rfl,rfl,Nat.zero_le _,fun j h=>by omega⟩ ?_
 rintro i R _⟨rfl,h0,h5,h6,h7,hi,kC⟩
 by_cases au:i<l.length
 ·obtain⟨x,hx⟩:=cF au
  have ws:=aF (show i<9223372036854775807 by omega)
  have qK:=lS (e:=eS) (n:=1) (fun _=>rfl) (by decide) (k:=k) hx
  have bad:¬AU l i→lf l=false:=fun hb=>sQ fun h=>hb (h.1 i au)
  by_cases bn:65535<x.size
  ·have:=bad fun h=>by have:=(h x hx).1;omega
   simp -implicitDefEqProofs only[op,ef,cl,sq,reduceIte,q4,q5,q6,q7,q8,j1,j2,j3,j4,S1,h0,h5,h6,h7,au,aa,qK,eS,bn,this]
  ·by_cases oI:0<i
   ·obtain⟨y,hy⟩:=cF (l:=l) (i:=i-1) (by omega)
    have wp:=pH (show i<9223372036854775807 by omega) oI
    have Rb:=lS (e:=eS) (n:=1) (fun _=>rfl) (by decide) (k:=k) hy
    cases hc:strLt y x
    ·have:=bad fun h=>by have:=(h x hx).2 oI y hy;rw[hc]at this;cases this
     simp -implicitDefEqProofs only[op,ef,cl,sq,reduceIte,q4,q5,q6,q7,q8,j1,j2,j3,j4,S1,h0,h5,h6,h7,au,aa,qK,Rb,eS,bn,oI,wp,hc,this]
    ·simp -implicitDefEqProofs only[op,ef,cl,sq,reduceIte,q4,q5,q6,q7,q8,j1,j2,j3,j4,S1,h0,h5,h6,h7,au,aa,qK,Rb,eS,bn,oI,wp,hc,ws]
     refine⟨i+1,by omega,rfl,by omega,fun j hj=>?_⟩
     by_cases e:j=i
     ·subst e;intro x' gg;rw[hx]at gg;cases gg
      exact⟨by omega,fun _ y' Mt=>by rw[hy]at Mt;cases Mt;exact hc⟩
     ·exact kC j (by omega)
   ·simp -implicitDefEqProofs only[op,ef,cl,sq,reduceIte,q4,q5,q6,q7,q8,j1,j2,j3,j4,S1,h0,h5,h6,h7,au,aa,qK,eS,bn,oI,ws]
    refine⟨i+1,by omega,rfl,by omega,fun j hj=>?_⟩
    by_cases e:j=i
    ·subst e;intro x' gg;rw[hx]at gg;cases gg
     exact⟨by omega,fun h=>absurd h oI⟩
    ·exact kC j (by omega)
 ·have gr:i=l.length:=by omega
  subst gr
  by_cases h1:1≤l.length
  ·have e:lf l=decide (l.length≤1024):=by
    rw[Bool.eq_iff_iff,fv];simp -implicitDefEqProofs only[decide_eq_true_eq]
    exact⟨fun h=>h.2.2,fun h=>⟨kC,h1,h⟩⟩
   simp -implicitDefEqProofs only[op,ef,cl,sq,reduceIte,q4,q5,q6,q7,q8,j1,j2,j3,j4,S1,h0,h5,h6,h7,au,List.length_map,h1,e]
  ·have e:lf l=false:=sQ fun h=>h1 h.2.1
   simp -implicitDefEqProofs only[op,ef,cl,sq,reduceIte,q4,q5,q6,q7,q8,j1,j2,j3,j4,S1,h0,h5,h6,h7,au,List.length_map,h1,e]
theorem Po (k:SK)(l:List ByteArray)(x:ByteArray)(H:ae)(hl:l.length<4611686018427387903)(hr:gE l=true) :
  W env (.call 63 [.sl k (l.map eS),.str x]) H (fun o H'=>∃i:Nat,o=.val (.bE [.int .i64 i,.bool (lT l x)])∧H'=H):=by
 refine W.cJ rfl rfl rfl ?_
 simp -implicitDefEqProofs only[GV,op,ef,cl,sq,reduceIte,q4,q5,q6,q7,q8,j1,j2,j3,j4,S1,List.length_map]
 refine W.cZ (fun (s:Nat×Nat) R H'=>H'=H∧R 0=.sl k (l.map eS)∧R 1=.str x∧R 6=.int .i64 l.length∧R 7=.int .i64 s.1∧R 8=.int .i64 s.2∧s.1≤s.2∧s.2≤l.length∧(∀p a,p<s.1→l[p]?=some a→strLt a x=true)∧∀p a,s.2≤p→l[p]?=some a→strLt a x=false)
  (fun s=>s.2-s.1) (0,l.length) ⟨rfl,rfl,rfl,rfl,rfl,rfl,Nat.zero_le _,Nat.le_refl _,fun p a h=>by omega,fun p a h ha=>by rw[List.getElem?_eq_none h]at ha;cases ha⟩ ?_
 rintro⟨i,j⟩ R _ ⟨rfl,h0,h1,h6,h7,h8,oL,w7,pf,rO⟩
 simp -implicitDefEqProofs only[op,ef,cl,sq,reduceIte,q4,q5,q6,q7,q8,j1,j2,j3,j4,S1,h0,h1,h6,h7,h8,List.length_map]
 by_cases au:i<j
 ·obtain⟨y,hy⟩:=cF (l:=l) (i:=(i+j)/2) (by omega)
  have qK:=lS (e:=eS) (n:=1) (fun _=>rfl) (by decide) (k:=k) hy
  simp -implicitDefEqProofs only[au,op,ef,cl,sq,reduceIte,q4,q5,q6,q7,q8,j1,j2,j3,j4,S1,h0,h1,h6,h7,h8,half i j (by omega),qK,eS]
  refine af _ _ _ _ _ _ _ _ (He y x _) ?_
  rintro v H'⟨hv,rfl⟩
  cases hv
  simp -implicitDefEqProofs only[op,ef,cl,sq,reduceIte,q4,q5,q6,q7,q8,j1,j2,j3,j4,S1,h0,h1,h6,h7,h8]
  cases hc:strLt y x
  ·simp -implicitDefEqProofs only[op,ef,cl,sq,reduceIte,q4,q5,q6,q7,q8,j1,j2,j3,j4,S1,h0,h1,h6,h7,h8]
   refine⟨(i,(i+j)/2),by omega,rfl,rfl,by omega,by omega,pf,fun p a hp ha=>?_⟩
   by_cases e:p=(i+j)/2
   ·subst e;rw[hy]at ha;cases ha;exact hc
   ·cases hh:strLt a x with
    | false=>rfl
    | true=>rw[fu (kZ hr p ((i+j)/2) y a (by omega) hy ha) hh]at hc;cases hc
  ·simp -implicitDefEqProofs only[op,ef,cl,sq,reduceIte,q4,q5,q6,q7,q8,j1,j2,j3,j4,S1,h0,h1,h6,h7,h8,aF (show(i+j)/2<9223372036854775807 by omega)]
   refine⟨((i+j)/2+1,j),by omega,rfl,rfl,by omega,by omega,fun p a hp ha=>?_,rO⟩
   by_cases e:p=(i+j)/2
   ·subst e;rw[hy]at ha;cases ha;exact hc
   ·exact fu (kZ hr ((i+j)/2) p a y (by omega) ha hy) hc
 ·have Hg:i=j:=by simp only at oL;omega
  subst Hg
  by_cases ib:i<l.length
  ·obtain⟨y,hy⟩:=cF ib
   have qK:=lS (e:=eS) (n:=1) (fun _=>rfl) (by decide) (k:=k) hy
   by_cases Hi:y=x
   ·have:lT l x=true:=oj.2 (Hi▸List.mem_of_getElem? hy)
    simp -implicitDefEqProofs only[op,ef,cl,sq,reduceIte,q4,q5,q6,q7,q8,j1,j2,j3,j4,S1,h0,h1,h6,h7,h8,List.length_map,au,ib,qK,eS,Hi,this]
    exact⟨i,rfl⟩
   ·have:lT l x=false:=qJ.2 fun hm=>by
     obtain⟨p,hp,e⟩:=List.getElem_of_mem hm
     have IW:l[p]?=some x:=by rw[List.getElem?_eq_getElem hp,e]
     rcases Nat.lt_trichotomy p i with h|h|h
     ·have:=pf p x h IW;rw[iX]at this;cases this
     ·subst h;rw[hy]at IW;cases IW;exact Hi rfl
     ·have a1:=rO i y (Nat.le_refl _) hy
      rw[kZ hr p i y x h hy IW]at a1;cases a1
    simp -implicitDefEqProofs only[op,ef,cl,sq,reduceIte,q4,q5,q6,q7,q8,j1,j2,j3,j4,S1,h0,h1,h6,h7,h8,List.length_map,au,ib,qK,eS,Hi]
    refine af _ _ _ _ _ _ _ _ (KF y _) ?_
    rintro v H'⟨hv,rfl⟩
    cases hv
    simp -implicitDefEqProofs only[op,ef,cl,sq,reduceIte,q4,q5,q6,q7,q8,j1,j2,j3,j4,S1,this]
    exact⟨i,rfl⟩
  ·have:lT l x=false:=qJ.2 fun hm=>by
    obtain⟨p,hp,e⟩:=List.getElem_of_mem hm
    have IW:l[p]?=some x:=by rw[List.getElem?_eq_getElem hp,e]
    have:=pf p x (by omega) IW;rw[iX]at this;cases this
   simp -implicitDefEqProofs only[op,ef,cl,sq,reduceIte,q4,q5,q6,q7,q8,j1,j2,j3,j4,S1,h0,h1,h6,h7,h8,List.length_map,au,ib,this]
   exact⟨i,rfl⟩
theorem EO (k:SK)(l:List ByteArray)(x:ByteArray)(H:ae)(hl:l.length<4611686018427387903)(hr:gE l=true):W env (.call 47 [.sl k (l.map eS),.str x]) H (oZ (.bool (lT l x)) H):=by
 refine W.cJ rfl rfl rfl ?_
 simp -implicitDefEqProofs only[GJ,op,ef,cl,sq,reduceIte,q4,q5,q6,q7,q8,j1,j2,j3,j4,S1]
 refine af _ _ _ _ _ _ _ _ (Po k l x _ hl hr) ?_
 rintro v H'⟨i,hv,rfl⟩
 cases hv
 simp -implicitDefEqProofs only[op,ef,cl,sq,reduceIte,q4,q5,q6,q7,q8,j1,j2,j3,j4,S1]
def eP (p:ByteArray×ByteArray):List T:=[.str p.1,.str p.2]
def om (l:List (ByteArray×ByteArray))(ks:List ByteArray)(i:Nat):Prop:=∀p,l[i]?=some p→(0<i→∀q,l[i-1]?=some q→strLt q.1 p.1=true)∧p.1∈ks∧p.2.size≤65535
def mG (n:Nat)(l:List (ByteArray×ByteArray))(ks:List ByteArray):Prop:=65536≤n∧fM ks∧1≤l.length∧∀i,i<l.length→om l ks i
theorem EP (n:Nat)(k k':SK)(l:List (ByteArray×ByteArray))(ks:List ByteArray)(H:ae)(hl:l.length<9223372036854775807)(L1:ks.length<4611686018427387903) :
  W env (.call 33 [.int .u64 n,.sl k (l.map eP),.sl k' (ks.map eS)]) H (fun o H'=>Ext H H'∧∃b,o=.val (.bool b)∧(b=true↔mG n l ks)):=by
 refine W.cJ rfl rfl rfl ?_
 have no:¬mG n l ks→((false:Bool)=true↔mG n l ks):=fun h=>⟨fun e=>(by cases e),fun e=>absurd e h⟩
 by_cases hn:n<65536
 ·simp -implicitDefEqProofs only[Dk,op,ef,cl,sq,reduceIte,q4,q5,q6,q7,q8,j1,j2,j3,j4,S1,hn]
  exact⟨Ext.rfl',false,rfl,no fun h=>by have:=h.1;omega⟩
 simp -implicitDefEqProofs only[Dk,op,ef,cl,sq,reduceIte,q4,q5,q6,q7,q8,j1,j2,j3,j4,S1,hn]
 refine af _ _ _ _ _ _ _ _ (AV k' ks _ (by omega)) ?_
 rintro u H1⟨hu,rfl⟩
 cases hu
 cases hg:lf ks
 ·simp -implicitDefEqProofs only[op,ef,cl,sq,reduceIte,q4,q5,q6,q7,q8,j1,j2,j3,j4,S1]
  exact⟨Ext.rfl',false,rfl,no fun h=>by have:=fv.2 h.2.1;rw[hg]at this;cases this⟩
 have Pp:=fv.1 hg
 by_cases Rc:l.length<1
 ·simp -implicitDefEqProofs only[op,ef,cl,sq,reduceIte,q4,q5,q6,q7,q8,j1,j2,j3,j4,S1,List.length_map,Rc]
  exact⟨Ext.rfl',false,rfl,no fun h=>by have:=h.2.2.1;omega⟩
 simp -implicitDefEqProofs only[op,ef,cl,sq,reduceIte,q4,q5,q6,q7,q8,j1,j2,j3,j4,S1,List.length_map,Rc]
 refine W.cZ (fun (i:Nat) R H'=>At H' (fun H'=>Ext H1 H')∧R 0=.int .u64 n∧R 1=.sl k (l.map eP)∧R 2=.sl k' (ks.map eS)∧R 21=.sl k (l.map eP)∧R 22=.int .i64 l.length∧R 23=.int .i64 i∧i≤l.length∧∀j,j<i→om l ks j) (fun i=>l.length-i) 0 ⟨.i Ext.rfl',rfl,rfl,rfl,rfl,rfl,rfl,Nat.zero_le _,fun j h=>by omega⟩ ?_
 rintro i R H2⟨hx,h0,h1,h2,CB,IX,IY,hi,kC⟩
 have hx:Ext H1 H2:=hx
 by_cases au:i<l.length
 ·obtain⟨p,hp⟩:=cF au
  have ws:=aF (show i<9223372036854775807 by omega)
  have qK:=lS (e:=eP) (n:=2) (fun _=>rfl) (by decide) (k:=k) hp
  have bad:¬om l ks i→((false:Bool)=true↔mG n l ks):=fun hb=>no fun h=>hb (h.2.2.2 i au)
  have o0:∀y:B,Ext H1 (H2++[y]):=fun y=>hx.app _
  have key:(0<i→∀q,l[i-1]?=some q→strLt q.1 p.1=true)→∀c:Bool,c=lT ks p.1→(c=false∨65535<p.2.size→¬om l ks i)∧(c=true→¬65535<p.2.size→∀j,j<i+1→om l ks j):=by
   rintro hs c rfl
   refine⟨fun h ho=>?_,fun hc bn j hj=>?_⟩
   ·have:=(ho p hp).2
    rcases h with h|h
    ·exact qJ.1 h this.1
    ·omega
   ·by_cases e:j=i
    ·subst e;intro p' mB;rw[hp]at mB;cases mB
     exact⟨hs,oj.1 hc,by omega⟩
    ·exact kC j (by omega)
  by_cases oI:0<i
  ·obtain⟨q,hq⟩:=cF (l:=l) (i:=i-1) (by omega)
   have wp:=pH (show i<9223372036854775807 by omega) oI
   have Re:=lS (e:=eP) (n:=2) (fun _=>rfl) (by decide) (k:=k) hq
   cases hc:strLt q.1 p.1
   ·simp -implicitDefEqProofs only[op,ef,cl,sq,reduceIte,q4,q5,q6,q7,q8,j1,j2,j3,j4,S1,S2,S3,h0,h1,h2,CB,IX,IY,au,aa,qK,Re,eP,oI,wp,hc]
    exact⟨(hx.app _),false,rfl,bad fun h=>by have:=(h p hp).1 oI q hq;rw[hc]at this;cases this⟩
   ·have hk:=key (fun _ q' JE=>by rw[hq]at JE;cases JE;exact hc) (lT ks p.1) rfl
    simp -implicitDefEqProofs only[op,ef,cl,sq,reduceIte,q4,q5,q6,q7,q8,j1,j2,j3,j4,S1,S2,S3,h0,h1,h2,CB,IX,IY,au,aa,qK,Re,eP,oI,wp,hc]
    refine af _ _ _ _ _ _ _ _ (EO k' ks p.1 _ (by omega) Pp.gE) ?_
    rintro u H3⟨hu,rfl⟩
    cases hu
    cases hm:lT ks p.1
    ·simp -implicitDefEqProofs only[op,ef,cl,sq,reduceIte,q4,q5,q6,q7,q8,j1,j2,j3,j4,S1]
     exact⟨(hx.app _),false,rfl,bad (hk.1 (.inl hm))⟩
    ·by_cases bn:65535<p.2.size
     ·simp -implicitDefEqProofs only[op,ef,cl,sq,reduceIte,q4,q5,q6,q7,q8,j1,j2,j3,j4,S1,S2,S3,bn]
      exact⟨(hx.app _),false,rfl,bad (hk.1 (.inr bn))⟩
     ·simp -implicitDefEqProofs only[op,ef,cl,sq,reduceIte,q4,q5,q6,q7,q8,j1,j2,j3,j4,S1,S2,S3,bn,h0,h1,h2,CB,IX,IY,ws]
      exact⟨i+1,by omega,.i (hx.app _),rfl,by omega,hk.2 hm bn⟩
  ·have hk:=key (fun h=>absurd h oI) (lT ks p.1) rfl
   simp -implicitDefEqProofs only[op,ef,cl,sq,reduceIte,q4,q5,q6,q7,q8,j1,j2,j3,j4,S1,S2,S3,h0,h1,h2,CB,IX,IY,au,aa,qK,eP,oI]
   refine af _ _ _ _ _ _ _ _ (EO k' ks p.1 _ (by omega) Pp.gE) ?_
   rintro u H3⟨hu,rfl⟩
   cases hu
   cases hm:lT ks p.1
   ·simp -implicitDefEqProofs only[op,ef,cl,sq,reduceIte,q4,q5,q6,q7,q8,j1,j2,j3,j4,S1]
    exact⟨(hx.app _),false,rfl,bad (hk.1 (.inl hm))⟩
   ·by_cases bn:65535<p.2.size
    ·simp -implicitDefEqProofs only[op,ef,cl,sq,reduceIte,q4,q5,q6,q7,q8,j1,j2,j3,j4,S1,S2,S3,bn]
     exact⟨(hx.app _),false,rfl,bad (hk.1 (.inr bn))⟩
    ·simp -implicitDefEqProofs only[op,ef,cl,sq,reduceIte,q4,q5,q6,q7,q8,j1,j2,j3,j4,S1,S2,S3,bn,h0,h1,h2,CB,IX,IY,ws]
     exact⟨i+1,by omega,.i (hx.app _),rfl,by omega,hk.2 hm bn⟩
 ·have gr:i=l.length:=by omega
  subst gr
  simp -implicitDefEqProofs only[op,ef,cl,sq,reduceIte,q4,q5,q6,q7,q8,j1,j2,j3,j4,S1,h0,h1,h2,CB,IX,IY,au]
  exact⟨hx,true,rfl,⟨fun _=>⟨by omega,Pp,by omega,kC⟩,fun _=>rfl⟩⟩
theorem qD (l:List ByteArray):(l.map eS).map (·.map T.erase)=l.map eS:=by simp[List.map_map,Function.comp_def,eS,T.erase]
theorem vQ (k:SK)(l:List ByteArray)(H:ae)(hk:jh k l)(hl:l.length≤16777216):W env (.call 36 [.sl k (l.map eS)]) H (fun o H'=>Ext H H'∧∃k',jh k' l∧o=.val (.sl k' (l.map eS))):=by
 refine W.cJ rfl rfl rfl ?_
 have app:l≠[]→∃k' H',kv H 16 .full [] (l.map eS)=some (.sl k' (l.map eS),H')∧Ext H H'∧k'≠.nil:=fun ba=>by
  obtain⟨k',H',ha,kp,cn⟩:=kg (n0:=H.length) (H:=H) (bytes:=16) (k:=.full) [] (l.map eS) (.inr (.inl rfl)) (Nat.le_refl _) (by simpa using ba) (ja (by simp;omega) (by omega))
  rw[List.nil_append,qD]at ha
  refine⟨k',H',ha,cn.ext H (Nat.le_refl _) Ext.rfl',fun h=>?_⟩
  subst h
  unfold kv at ha
  cases hl:l.map eS with
  | nil=>simp at hl;exact ba hl
  | cons c cs=>rw[hl]at ha;simp only at ha;split at ha<;>simp at ha
 cases k with
 | nil =>
  have:=hk rfl;subst this
  simp -implicitDefEqProofs only[qI,op,ef,cl,sq,reduceIte,q4,q5,q6,q7,q8,j1,j2,j3,j4,S1,eV,dS]
  exact⟨Ext.rfl',.nil,fun _=>rfl,rfl⟩
 | arg =>
  cases l with
  | nil =>
   simp -implicitDefEqProofs only[qI,op,ef,cl,sq,reduceIte,q4,q5,q6,q7,q8,j1,j2,j3,j4,S1,eV,dS,Option.map_none]
   refine fun t=>?_
   cases t
   ·simp -implicitDefEqProofs only[op,ef,cl,sq,reduceIte,q4,q5,q6,q7,q8,j1,j2,j3,j4,S1,kv]
    exact⟨Ext.rfl',.full,fun h=>rfl,rfl⟩
   ·simp -implicitDefEqProofs only[op,ef,cl,sq,reduceIte,q4,q5,q6,q7,q8,j1,j2,j3,j4,S1]
    exact⟨Ext.rfl',.nil,fun _=>rfl,rfl⟩
  | cons a l =>
   obtain⟨k',H',ha,hx,jJ⟩:=app (by simp)
   have h1:=all_map (enc:=eS) (n:=1) (fun _=>rfl) (a :: l)
   simp -implicitDefEqProofs only[List.map_cons]at ha h1
   simp -implicitDefEqProofs only[qI,op,ef,cl,sq,reduceIte,q4,q5,q6,q7,q8,j1,j2,j3,j4,S1,eV,dS,ha,h1]
   exact⟨hx,k',fun h=>absurd h jJ,rfl⟩
 | full =>
  cases l with
  | nil =>
   simp -implicitDefEqProofs only[qI,op,ef,cl,sq,reduceIte,q4,q5,q6,q7,q8,j1,j2,j3,j4,S1,eV,dS,kv]
   exact⟨Ext.rfl',.full,fun h=>rfl,rfl⟩
  | cons a l =>
   obtain⟨k',H',ha,hx,jJ⟩:=app (by simp)
   have h1:=all_map (enc:=eS) (n:=1) (fun _=>rfl) (a :: l)
   simp -implicitDefEqProofs only[List.map_cons]at ha h1
   simp -implicitDefEqProofs only[qI,op,ef,cl,sq,reduceIte,q4,q5,q6,q7,q8,j1,j2,j3,j4,S1,eV,dS,ha,h1]
   exact⟨hx,k',fun h=>absurd h jJ,rfl⟩
 | own t e =>
  cases l with
  | nil =>
   simp -implicitDefEqProofs only[qI,op,ef,cl,sq,reduceIte,q4,q5,q6,q7,q8,j1,j2,j3,j4,S1,eV,dS,kv]
   exact⟨Ext.rfl',.full,fun h=>rfl,rfl⟩
  | cons a l =>
   obtain⟨k',H',ha,hx,jJ⟩:=app (by simp)
   have h1:=all_map (enc:=eS) (n:=1) (fun _=>rfl) (a :: l)
   simp -implicitDefEqProofs only[List.map_cons]at ha h1
   simp -implicitDefEqProofs only[qI,op,ef,cl,sq,reduceIte,q4,q5,q6,q7,q8,j1,j2,j3,j4,S1,eV,dS,ha,h1]
   exact⟨hx,k',fun h=>absurd h jJ,rfl⟩
def bO (F:Nat→Prop)(H H':ae):Prop:=H.length≤H'.length∧∀c,c<H.length→¬F c→H'[c]?=H[c]?
theorem bO.refl (F:Nat→Prop)(H:ae):bO F H H:=⟨Nat.le_refl _,fun _ _ _=>rfl⟩
theorem bO.trans {F G:Nat→Prop}{H H' uO:ae}(h:bO F H H')(h':bO G H' uO)(hg:∀c,G c→F c∨H.length≤c):bO F H uO :=
 ⟨Nat.le_trans h.1 h'.1,fun c hc hf=>by rw[h'.2 c (Nat.lt_of_lt_of_le hc h.1) (fun Ue=>(hg c Ue).elim hf (fun h=>by omega)),h.2 c hc hf]⟩
theorem aK {F:Nat→Prop}{H H':ae}(h:Ext H H'):bO F H H':=⟨h.len,fun c hc _=>by
 obtain⟨m,rfl⟩:=h;rw[List.getElem?_append_left hc]⟩
theorem bO.set {F:Nat→Prop}{H H':ae}(h:bO F H H'){b:Nat}(hb:F b∨H.length≤b)(y:B):bO F H (H'.set b y) :=
 ⟨by rw[List.length_set];exact h.1,fun c hc hf=>by
  have:b≠c:=by rintro rfl;rcases hb with hb|hb;exact hf hb;omega
  rw[bN this,h.2 c hc hf]⟩
theorem bO.app {F:Nat→Prop}{H H':ae}(h:bO F H H')(l:ae):bO F H (H'++l):=⟨by rw[List.length_append];have:=h.1;omega,fun c hc hf=>by
 rw[List.getElem?_append_left (Nat.lt_of_lt_of_le hc h.1),h.2 c hc hf]⟩
theorem bO.get {F:Nat→Prop}{H H':ae}(h:bO F H H'){c:Nat}{x:B}(hx:H[c]?=some x)(hf:¬F c):H'[c]?=some x:=by rw[h.2 c (a6 hx) hf];exact hx
theorem lU {α:Type}{enc:α→List T}(hn:∀x,(enc x).length=1){n0:Nat}{H:ae}{t:T}{l:List α}(hm:dM enc 1 n0 H t l){i:Nat}{x:α}(hx:l[i]?=some x):∃b,H[b]?=some (.cells (aJ enc l))∧ew 1 i t=some (.ptr b (i*1))∧mE 1 (i*1) (some (.cells (aJ enc l)))=some (enc x):=by
 have hi:=(List.getElem?_eq_some_iff.1 hx).1
 rcases hm with⟨rfl,_⟩|⟨b,rfl,hb,_⟩
 ·simp at hi
 ·refine⟨b,hb,by rw[ie];simp[hi],?_⟩
  have:=g9 hn hx 0 1 (by decide)
  simp -implicitDefEqProofs only[Nat.add_zero,List.drop_zero]at this
  rw[this,List.take_of_length_le (by rw[hn];omega)]
def sR (l:List Nat):Prop:=∀(i j a b:Nat),i<j→l[i]?=some a→l[j]?=some b→a<b
theorem Pq (n0:Nat)(t:T)(l:List Nat)(x:Nat)(H:ae)(hm:dM eU 1 n0 H t l)(hl:l.length<4611686018427387903)(hr:sR l) :
  W env (.call 48 [t,.int .u64 x]) H (fun o H'=>∃(i:Nat) (fd:Bool),o=.val (.bE [.int .i64 i,.bool fd])∧H'=H∧i≤l.length∧(∀p a,p<i→l[p]?=some a→a<x)∧∀p a,i≤p→l[p]?=some a→x≤a):=by
 refine W.cJ rfl rfl rfl ?_
 have hlen:=hm.len
 simp -implicitDefEqProofs only[GK,op,ef,cl,sq,reduceIte,q4,q5,q6,q7,q8,j1,j2,j3,j4,S1,hlen]
 refine W.cZ (fun (s:Nat×Nat) R H'=>H'=H∧R 0=t∧R 1=.int .u64 x∧R 6=.int .i64 l.length∧R 7=.int .i64 s.1∧R 8=.int .i64 s.2∧s.1≤s.2∧s.2≤l.length∧(∀p a,p<s.1→l[p]?=some a→a<x)∧∀p a,s.2≤p→l[p]?=some a→x≤a)
  (fun s=>s.2-s.1) (0,l.length) ⟨rfl,rfl,rfl,rfl,rfl,rfl,Nat.zero_le _,Nat.le_refl _,fun p a h=>by omega,fun p a h ha=>by rw[List.getElem?_eq_none h]at ha;cases ha⟩ ?_
 rintro⟨i,j⟩ R _ ⟨rfl,h0,h1,h6,h7,h8,oL,w7,pf,rO⟩
 simp -implicitDefEqProofs only[op,ef,cl,sq,reduceIte,q4,q5,q6,q7,q8,j1,j2,j3,j4,S1,h0,h1,h6,h7,h8]
 by_cases au:i<j
 ·obtain⟨y,hy⟩:=cF (l:=l) (i:=(i+j)/2) (by omega)
  obtain⟨b,g1,g2,g3⟩:=lU (enc:=eU) (fun _=>rfl) hm hy
  simp -implicitDefEqProofs only[au,op,ef,cl,sq,reduceIte,q4,q5,q6,q7,q8,j1,j2,j3,j4,S1,h0,h1,h6,h7,h8,half i j (by omega),aa,g1,g2,g3,eU]
  refine af _ _ _ _ _ _ _ _ (Hf y x _) ?_
  rintro v H'⟨hv,rfl⟩
  cases hv
  simp -implicitDefEqProofs only[op,ef,cl,sq,reduceIte,q4,q5,q6,q7,q8,j1,j2,j3,j4,S1,h0,h1,h6,h7,h8]
  by_cases hc:y<x
  ·simp -implicitDefEqProofs only[op,ef,cl,sq,reduceIte,q4,q5,q6,q7,q8,j1,j2,j3,j4,S1,h0,h1,h6,h7,h8,hc,aF (show(i+j)/2<9223372036854775807 by omega)]
   refine⟨((i+j)/2+1,j),by omega,rfl,rfl,by omega,by omega,fun p a hp ha=>?_,rO⟩
   by_cases e:p=(i+j)/2
   ·subst e;rw[hy]at ha;cases ha;exact hc
   ·have:=hr p ((i+j)/2) a y (by omega) ha hy;omega
  ·simp -implicitDefEqProofs only[op,ef,cl,sq,reduceIte,q4,q5,q6,q7,q8,j1,j2,j3,j4,S1,h0,h1,h6,h7,h8,hc]
   refine⟨(i,(i+j)/2),by omega,rfl,rfl,by omega,by omega,pf,fun p a hp ha=>?_⟩
   by_cases e:p=(i+j)/2
   ·subst e;rw[hy]at ha;cases ha;omega
   ·have:=hr ((i+j)/2) p y a (by omega) hy ha;omega
 ·have Hg:i=j:=by simp only at oL;omega
  subst Hg
  by_cases ib:i<l.length
  ·obtain⟨y,hy⟩:=cF ib
   obtain⟨b,g1,g2,g3⟩:=lU (enc:=eU) (fun _=>rfl) hm hy
   by_cases Hi:y=x
   ·simp -implicitDefEqProofs only[op,ef,cl,sq,reduceIte,q4,q5,q6,q7,q8,j1,j2,j3,j4,S1,h0,h1,h6,h7,h8,au,ib,aa,g1,g2,g3,eU,Hi]
    exact⟨i,true,rfl,w7,pf,rO⟩
   ·simp -implicitDefEqProofs only[op,ef,cl,sq,reduceIte,q4,q5,q6,q7,q8,j1,j2,j3,j4,S1,h0,h1,h6,h7,h8,au,ib,aa,g1,g2,g3,eU,Hi]
    refine af _ _ _ _ _ _ _ _ (KG y _) ?_
    rintro v H'⟨hv,rfl⟩
    cases hv
    simp -implicitDefEqProofs only[op,ef,cl,sq,reduceIte,q4,q5,q6,q7,q8,j1,j2,j3,j4,S1]
    exact⟨i,false,rfl,w7,pf,rO⟩
  ·simp -implicitDefEqProofs only[op,ef,cl,sq,reduceIte,q4,q5,q6,q7,q8,j1,j2,j3,j4,S1,h0,h1,h6,h7,h8,au,ib]
   exact⟨i,false,rfl,w7,pf,rO⟩
theorem KJ (y x:Nat)(c:Nat)(H:ae)(hc:H[c]?=some (.cells (eU x))):W env (.call 60 [(.int .u64 y),.ptr c 0]) H (oZ (.bool (decide (y=x))) H):=by
 refine W.cJ rfl rfl rfl ?_
 simp -implicitDefEqProofs only[GR,op,ef,cl,sq,reduceIte,q4,q5,q6,q7,q8,j1,j2,j3,j4,S1,hc,eU]
theorem KK (y x:ByteArray)(c:Nat)(H:ae)(hc:H[c]?=some (.cells (eS x))):W env (.call 62 [(.str y),.ptr c 0]) H (oZ (.bool (decide (y=x))) H):=by
 refine W.cJ rfl rfl rfl ?_
 simp -implicitDefEqProofs only[GU,op,ef,cl,sq,reduceIte,q4,q5,q6,q7,q8,j1,j2,j3,j4,S1,hc,eS]
theorem KL (n0:Nat)(t:T)(l:List Nat)(x:Nat)(c:Nat)(H:ae)(hc:H[c]?=some (.cells (eU x)))(hm:dM eU 1 n0 H t l)(hl:l.length<4611686018427387903) :
  W env (.call 75 [t,.fn 60 [.ptr c 0]]) H (fun o H'=>H'=H∧((x∉l∧o=.val (.int .i64 (-1)))∨∃i:Nat,o=.val (.int .i64 i)∧l[i]?=some x∧∀p a,p<i→l[p]?=some a→a≠x)):=by
 refine W.cJ rfl rfl rfl ?_
 have hlen:=hm.len
 simp -implicitDefEqProofs only[G1,op,ef,cl,sq,reduceIte,q4,q5,q6,q7,q8,j1,j2,j3,j4,S1,hlen]
 refine W.cZ (fun (i:Nat) R H'=>H'=H∧R 0=t∧R 1=.fn 60 [.ptr c 0]∧R 7=.int .i64 l.length∧R 8=.int .i64 i∧i≤l.length∧∀p a,p<i→l[p]?=some a→a≠x) (fun i=>l.length-i) 0 ⟨rfl,rfl,rfl,rfl,rfl,Nat.zero_le _,fun p a h=>by omega⟩ ?_
 rintro i R _⟨rfl,h0,h1,h7,h8,hi,kS⟩
 by_cases au:i<l.length
 ·obtain⟨y,hy⟩:=cF au
  obtain⟨b,g1,g2,g3⟩:=lU (enc:=eU) (fun _=>rfl) hm hy
  have ws:=aF (show i<9223372036854775807 by omega)
  simp -implicitDefEqProofs only[op,ef,cl,sq,reduceIte,q4,q5,q6,q7,q8,j1,j2,j3,j4,S1,h0,h1,h7,h8,au,aa,g1,g2,g3,eU]
  refine Mo _ _ _ _ _ _ _ ?_
  simp -implicitDefEqProofs only[op,ef,cl,sq,reduceIte,q4,q5,q6,q7,q8,j1,j2,j3,j4,S1,h1,bK]
  refine af _ _ _ _ _ _ _ _ (KJ y x c _ hc) ?_
  rintro v H'⟨hv,rfl⟩
  cases hv
  by_cases e:y=x
  ·simp -implicitDefEqProofs only[op,ef,cl,sq,reduceIte,q4,q5,q6,q7,q8,j1,j2,j3,j4,S1,e]
   exact .inr ⟨i,rfl,by rw[hy,e],kS⟩
  ·simp -implicitDefEqProofs only[op,ef,cl,sq,reduceIte,q4,q5,q6,q7,q8,j1,j2,j3,j4,S1,h0,h1,h7,h8,e,ws]
   refine⟨i+1,by omega,rfl,by omega,fun p a hp ha=>?_⟩
   by_cases e':p=i
   ·subst e';rw[hy]at ha;cases ha;exact e
   ·exact kS p a (by omega) ha
 ·simp -implicitDefEqProofs only[op,ef,cl,sq,reduceIte,q4,q5,q6,q7,q8,j1,j2,j3,j4,S1,h0,h1,h7,h8,au]
  refine .inl fun hm=>?_
  obtain⟨p,hp,e⟩:=List.getElem_of_mem hm
  exact kS p x (by omega) (by rw[List.getElem?_eq_getElem hp,e]) rfl
theorem KM (n0:Nat)(t:T)(l:List ByteArray)(x:ByteArray)(c:Nat)(H:ae)(hc:H[c]?=some (.cells (eS x)))(hm:dM eS 1 n0 H t l)(hl:l.length<4611686018427387903) :
  W env (.call 76 [t,.fn 62 [.ptr c 0]]) H (fun o H'=>H'=H∧((x∉l∧o=.val (.int .i64 (-1)))∨∃i:Nat,o=.val (.int .i64 i)∧l[i]?=some x∧∀p a,p<i→l[p]?=some a→a≠x)):=by
 refine W.cJ rfl rfl rfl ?_
 have hlen:=hm.len
 simp -implicitDefEqProofs only[G2,op,ef,cl,sq,reduceIte,q4,q5,q6,q7,q8,j1,j2,j3,j4,S1,hlen]
 refine W.cZ (fun (i:Nat) R H'=>H'=H∧R 0=t∧R 1=.fn 62 [.ptr c 0]∧R 7=.int .i64 l.length∧R 8=.int .i64 i∧i≤l.length∧∀p a,p<i→l[p]?=some a→a≠x) (fun i=>l.length-i) 0 ⟨rfl,rfl,rfl,rfl,rfl,Nat.zero_le _,fun p a h=>by omega⟩ ?_
 rintro i R _⟨rfl,h0,h1,h7,h8,hi,kS⟩
 by_cases au:i<l.length
 ·obtain⟨y,hy⟩:=cF au
  obtain⟨b,g1,g2,g3⟩:=lU (enc:=eS) (fun _=>rfl) hm hy
  have ws:=aF (show i<9223372036854775807 by omega)
  simp -implicitDefEqProofs only[op,ef,cl,sq,reduceIte,q4,q5,q6,q7,q8,j1,j2,j3,j4,S1,h0,h1,h7,h8,au,aa,g1,g2,g3,eS]
  refine Mo _ _ _ _ _ _ _ ?_
  simp -implicitDefEqProofs only[op,ef,cl,sq,reduceIte,q4,q5,q6,q7,q8,j1,j2,j3,j4,S1,h1,bK]
  refine af _ _ _ _ _ _ _ _ (KK y x c _ hc) ?_
  rintro v H'⟨hv,rfl⟩
  cases hv
  by_cases e:y=x
  ·simp -implicitDefEqProofs only[op,ef,cl,sq,reduceIte,q4,q5,q6,q7,q8,j1,j2,j3,j4,S1,e]
   exact .inr ⟨i,rfl,by rw[hy,e],kS⟩
  ·simp -implicitDefEqProofs only[op,ef,cl,sq,reduceIte,q4,q5,q6,q7,q8,j1,j2,j3,j4,S1,h0,h1,h7,h8,e,ws]
   refine⟨i+1,by omega,rfl,by omega,fun p a hp ha=>?_⟩
   by_cases e':p=i
   ·subst e';rw[hy]at ha;cases ha;exact e
   ·exact kS p a (by omega) ha
 ·simp -implicitDefEqProofs only[op,ef,cl,sq,reduceIte,q4,q5,q6,q7,q8,j1,j2,j3,j4,S1,h0,h1,h7,h8,au]
  refine .inl fun hm=>?_
  obtain⟨p,hp,e⟩:=List.getElem_of_mem hm
  exact kS p x (by omega) (by rw[List.getElem?_eq_getElem hp,e]) rfl
def cW {α:Type}[DecidableEq α](l:List α)(x:α):List α:=l.filter fun y=>!decide (y=x)
structure Cut {α:Type}[DecidableEq α](l arr:List α)(x:α)(i j:Nat):Prop where
 len:arr.length=l.length
 ij:i<j
 cP:arr.take i=cW (l.take j) x
 rest:∀p,j≤p→arr[p]?=l[p]?
theorem Cut.start {α:Type}[DecidableEq α]{l:List α}{x:α}{i:Nat}(hi:l[i]?=some x)(kS:∀p a,p<i→l[p]?=some a→a≠x):Cut l l x i (i+1):=by
 refine⟨rfl,by omega,?_,fun _ _=>rfl⟩
 rw[bA hi,cW,List.filter_append]
 have h1:(l.take i).filter (fun y=>!decide (y=x))=l.take i:=List.filter_eq_self.2 fun a ha=>by
  obtain⟨p,hp,e⟩:=List.getElem_of_mem ha
  have mB:p<i∧p<l.length:=by simp -implicitDefEqProofs only[List.length_take]at hp;omega
  have:=kS p a mB.1 (by rw[←e];simp[List.getElem?_eq_getElem mB.2])
  simp[this]
 rw[h1];simp
theorem Cut.same {α:Type}[DecidableEq α]{l arr:List α}{x:α}{i j:Nat}(h:Cut l arr x i j)(hx:l[j]?=some x):Cut l arr x i (j+1):=by
 refine⟨h.len,by have:=h.ij;omega,?_,fun p hp=>h.rest p (by omega)⟩
 rw[bA hx,cW,List.filter_append,h.cP];simp[cW]
theorem Cut.move {α:Type}[DecidableEq α]{l arr:List α}{x y:α}{i j:Nat}(h:Cut l arr x i j)(hy:l[j]?=some y)(ba:y≠x):Cut l (arr.set i y) x (i+1) (j+1):=by
 have hj:=(List.getElem?_eq_some_iff.1 hy).1
 have hi:i<arr.length:=by have:=h.ij;rw[h.len];omega
 refine⟨by simp[h.len],by have:=h.ij;omega,?_,fun p hp=>by rw[List.getElem?_set_ne (by have:=h.ij;omega)];exact h.rest p (by omega)⟩
 have e1:(arr.set i y).take (i+1)=arr.take i++[y]:=by
  rw[bA (x:=y) (by rw[List.getElem?_set_self hi]),List.take_set_of_le (Nat.le_refl _)]
 rw[e1,h.cP,bA hy]
 simp[cW,ba]
theorem Cut.Ds {α:Type}[DecidableEq α]{l arr:List α}{x:α}{i:Nat}(h:Cut l arr x i l.length):arr.take i=cW l x:=by
 rw[h.cP,List.take_length]
def Dt {α:Type}[DecidableEq α](enc:α→List T)(b:Nat)(l:List α)(x:α)(H:ae):Out→ae→Prop:=fun o H'=>o=.val (.aE b 0 (cW l x).length 1)∧H'[b]?=some (.cells (aJ enc (cW l x)))∧bO (fun c=>c=b) H H'
theorem vR {α:Type}[DecidableEq α]{l:List α}{x:α}(h:x∉l):cW l x=l:=List.filter_eq_self.2 fun a ha=>by
 have:a≠x:=by rintro rfl;exact h ha
 simp[this]
theorem KN (b:Nat)(l:List Nat)(x:Nat)(c:Nat)(H:ae)(hc:H[c]?=some (.cells (eU x)))(hb:H[b]?=some (.cells (aJ eU l)))(ba:c≠b)(hl:l.length<4611686018427387903) :
  W env (.call 59 [.aE b 0 l.length 1,.fn 60 [.ptr c 0]]) H (Dt eU b l x H):=by
 refine .shr (fun o H'=>∃n:Nat,o=.val (.aE b 0 (cW l x).length 1)∧∃cs,H'[b]?=some (.cells cs)∧cs.take n=aJ eU (cW l x)∧bO (fun c=>c=b) H H') ?_ ?_
 rotate_left
 ·rintro o H'⟨n,ho,cs,h1,h2,h3⟩
  refine⟨_,b,cs,n,ho,rfl,h1,rfl,by rw[h2];exact cK (a6 h1),h3.set (.inl rfl) _⟩
 refine W.cJ rfl rfl rfl ?_
 simp -implicitDefEqProofs only[GQ,op,ef,cl,sq,reduceIte,q4,q5,q6,q7,q8,j1,j2,j3,j4,S1]
 refine af _ _ _ _ _ _ _ _ (KL 0 _ l x c H hc (.inr ⟨b,rfl,hb,Nat.zero_le _⟩) hl) ?_
 rintro u H1⟨rfl,⟨kS,hu⟩|⟨i,hu,hi,Hj⟩⟩
 ·cases hu
  have e:((-1:Int)==-1)=true:=rfl
  simp -implicitDefEqProofs only[op,ef,cl,sq,reduceIte,q4,q5,q6,q7,q8,j1,j2,j3,j4,S1]
  rw[vR kS]
  exact⟨l.length,rfl,_,hb,List.take_of_length_le (by rw[cO (enc:=eU) (n:=1) (fun _=>rfl)];omega),bO.refl _ _⟩
 cases hu
 have gr:=(List.getElem?_eq_some_iff.1 hi).1
 have Du:¬((i:Int)=-1):=by omega
 have ws:=aF (show i<9223372036854775807 by omega)
 have e1:((i:Int)==-1)=false:=by simpa using Du
 simp -implicitDefEqProofs only[op,ef,cl,sq,reduceIte,q4,q5,q6,q7,q8,j1,j2,j3,j4,S1,e1,ws]
 refine W.cZ (fun (s:Nat×Nat) R H'=>At H' (fun H'=>∃arr,H'[b]?=some (.cells (aJ eU arr))∧Cut l arr x s.1 s.2∧bO (fun c=>c=b) H1 H')∧R 0=.aE b 0 l.length 1∧R 1=.fn 60 [.ptr c 0]∧R 5=.int .i64 s.1∧R 6=.int .i64 s.2∧s.2≤l.length) (fun s=>l.length-s.2) (i,i+1) ⟨.i ⟨l,hb,Cut.start hi Hj,bO.refl _ _⟩,rfl,rfl,rfl,rfl,by simp only;omega⟩ ?_
 rintro⟨i,j⟩ R H2 ⟨⟨arr,ki,jb,aG⟩,h0,h1,h5,h6,hj⟩
 have oL:=jb.ij
 by_cases au:j<l.length
 ·obtain⟨y,hy⟩:=cF au
  have Pr:arr[j]?=some y:=by rw[jb.rest j (Nat.le_refl _)];exact hy
  have g1:ew 1 j (.aE b 0 l.length 1)=some (.ptr b (j*1)):=by rw[ie];simp[au]
  have lV:i<l.length:=by simp only at oL;omega
  have g4:ew 1 i (.aE b 0 l.length 1)=some (.ptr b (i*1)):=by rw[ie];simp[lV]
  obtain⟨z,hz⟩:=cF (l:=arr) (i:=i) (by rw[jb.len];exact lV)
  have g2:=g9 (enc:=eU) (n:=1) (fun _=>rfl) Pr 0 1 (by decide)
  have g3:=fun Hx=>jr (enc:=eU) (n:=1) (y:=y) (fun _=>rfl) hz Hx b (eU y) 0 (by simp[eU]) (by simp[eU])
  simp -implicitDefEqProofs only[Nat.add_zero,List.drop_zero,eU,List.take_succ_cons,List.take_zero]at g2 g3
  have oS:H2[c]?=some (.cells (eU x)):=aG.get hc ba
  have ws:=aF (show j<9223372036854775807 by omega)
  have wi:=aF (show i<9223372036854775807 by omega)
  simp -implicitDefEqProofs only[op,ef,cl,sq,reduceIte,q4,q5,q6,q7,q8,j1,j2,j3,j4,S1,h0,h1,h5,h6,au,aa,g1,ki,g2,eU]
  refine Mo _ _ _ _ _ _ _ ?_
  simp -implicitDefEqProofs only[op,ef,cl,sq,reduceIte,q4,q5,q6,q7,q8,j1,j2,j3,j4,S1,h1,bK]
  refine af _ _ _ _ _ _ _ _ (KJ y x c _ oS) ?_
  rintro v H3⟨hv,rfl⟩
  cases hv
  by_cases e:y=x
  ·simp -implicitDefEqProofs only[op,ef,cl,sq,reduceIte,q4,q5,q6,q7,q8,j1,j2,j3,j4,S1,h0,h1,h5,h6,e,ws]
   exact⟨(i,j+1),by simp only;omega,.i ⟨arr,ki,jb.same (e▸hy),aG⟩,rfl,rfl,by simp only;omega⟩
  ·simp -implicitDefEqProofs only[op,ef,cl,sq,reduceIte,q4,q5,q6,q7,q8,j1,j2,j3,j4,S1,h0,h1,h5,h6,e,aa,g4,ki,g3,ws,wi]
   exact⟨(i+1,j+1),by simp only;omega,.i ⟨_,cK (a6 ki),jb.move hy e,aG.set (.inl rfl) _⟩,rfl,rfl,by simp only;omega⟩
 ·have IE:j=l.length:=by simp only at hj;omega
  subst IE
  have lV:i<l.length:=by simpa using oL
  have hle:i≤l.length:=by omega
  have e2:¬(i=l.length):=by omega
  have jI:(aJ eU arr).length=l.length:=by rw[cO (enc:=eU) (n:=1) (fun _=>rfl),jb.len];omega
  have e3:i*1+(l.length-i)*1≤(aJ eU arr).length:=by rw[jI];omega
  simp -implicitDefEqProofs only[op,ef,cl,sq,reduceIte,q4,q5,q6,q7,q8,j1,j2,j3,j4,S1,h0,h1,h5,h6,au,aa,Nat.le_refl,hle,e2,and_self,kW,ki,Db,e3]
  have hw:=jb.Ds
  have KO:(cW l x).length=i:=by rw[←hw,List.length_take,jb.len];omega
  have Hk:∀m:List T,(((aJ eU arr).take (i*1))++m).take (i*1)=aJ eU (cW l x):=fun m=>by
   rw[List.take_append_of_le_length (by rw[List.length_take,jI];omega),List.take_take,Nat.min_self,←hw,gD (n:=1) (fun _=>rfl)]
  by_cases oI:i=0
  ·subst oI
   simp -implicitDefEqProofs only[op,ef,cl,sq,reduceIte,q4,q5,q6,q7,q8,j1,j2,j3,j4,S1,h0,h5,aa,hle,Nat.zero_le,Nat.le_refl,and_self]
   refine⟨0*1,by rw[KO],_,cK (a6 ki),?_,aG.set (.inl rfl) _⟩
   rw[List.append_assoc];exact Hk _
  ·have Ps:¬(0=i):=fun e=>oI e.symm
   simp -implicitDefEqProofs only[op,ef,cl,sq,reduceIte,q4,q5,q6,q7,q8,j1,j2,j3,j4,S1,h0,h5,aa,Ps,hle,Nat.zero_le,Nat.le_refl,and_self]
   refine⟨i*1,by rw[KO];simp,_,cK (a6 ki),?_,aG.set (.inl rfl) _⟩
   rw[List.append_assoc];exact Hk _
theorem KP (b:Nat)(l:List ByteArray)(x:ByteArray)(c:Nat)(H:ae)(hc:H[c]?=some (.cells (eS x)))(hb:H[b]?=some (.cells (aJ eS l)))(ba:c≠b)(hl:l.length<4611686018427387903) :
  W env (.call 61 [.aE b 0 l.length 1,.fn 62 [.ptr c 0]]) H (Dt eS b l x H):=by
 refine .shr (fun o H'=>∃n:Nat,o=.val (.aE b 0 (cW l x).length 1)∧∃cs,H'[b]?=some (.cells cs)∧cs.take n=aJ eS (cW l x)∧bO (fun c=>c=b) H H') ?_ ?_
 rotate_left
 ·rintro o H'⟨n,ho,cs,h1,h2,h3⟩
  refine⟨_,b,cs,n,ho,rfl,h1,rfl,by rw[h2];exact cK (a6 h1),h3.set (.inl rfl) _⟩
 refine W.cJ rfl rfl rfl ?_
 simp -implicitDefEqProofs only[GS,op,ef,cl,sq,reduceIte,q4,q5,q6,q7,q8,j1,j2,j3,j4,S1]
 refine af _ _ _ _ _ _ _ _ (KM 0 _ l x c H hc (.inr ⟨b,rfl,hb,Nat.zero_le _⟩) hl) ?_
 rintro u H1⟨rfl,⟨kS,hu⟩|⟨i,hu,hi,Hj⟩⟩
 ·cases hu
  have e:((-1:Int)==-1)=true:=rfl
  simp -implicitDefEqProofs only[op,ef,cl,sq,reduceIte,q4,q5,q6,q7,q8,j1,j2,j3,j4,S1]
  rw[vR kS]
  exact⟨l.length,rfl,_,hb,List.take_of_length_le (by rw[cO (enc:=eS) (n:=1) (fun _=>rfl)];omega),bO.refl _ _⟩
 cases hu
 have gr:=(List.getElem?_eq_some_iff.1 hi).1
 have Du:¬((i:Int)=-1):=by omega
 have ws:=aF (show i<9223372036854775807 by omega)
 have e1:((i:Int)==-1)=false:=by simpa using Du
 simp -implicitDefEqProofs only[op,ef,cl,sq,reduceIte,q4,q5,q6,q7,q8,j1,j2,j3,j4,S1,e1,ws]
 refine W.cZ (fun (s:Nat×Nat) R H'=>At H' (fun H'=>∃arr,H'[b]?=some (.cells (aJ eS arr))∧Cut l arr x s.1 s.2∧bO (fun c=>c=b) H1 H')∧R 0=.aE b 0 l.length 1∧R 1=.fn 62 [.ptr c 0]∧R 5=.int .i64 s.1∧R 6=.int .i64 s.2∧s.2≤l.length) (fun s=>l.length-s.2) (i,i+1) ⟨.i ⟨l,hb,Cut.start hi Hj,bO.refl _ _⟩,rfl,rfl,rfl,rfl,by simp only;omega⟩ ?_
 rintro⟨i,j⟩ R H2 ⟨⟨arr,ki,jb,aG⟩,h0,h1,h5,h6,hj⟩
 have oL:=jb.ij
 by_cases au:j<l.length
 ·obtain⟨y,hy⟩:=cF au
  have Pr:arr[j]?=some y:=by rw[jb.rest j (Nat.le_refl _)];exact hy
  have g1:ew 1 j (.aE b 0 l.length 1)=some (.ptr b (j*1)):=by rw[ie];simp[au]
  have lV:i<l.length:=by simp only at oL;omega
  have g4:ew 1 i (.aE b 0 l.length 1)=some (.ptr b (i*1)):=by rw[ie];simp[lV]
  obtain⟨z,hz⟩:=cF (l:=arr) (i:=i) (by rw[jb.len];exact lV)
  have g2:=g9 (enc:=eS) (n:=1) (fun _=>rfl) Pr 0 1 (by decide)
  have g3:=fun Hx=>jr (enc:=eS) (n:=1) (y:=y) (fun _=>rfl) hz Hx b (eS y) 0 (by simp[eS]) (by simp[eS])
  simp -implicitDefEqProofs only[Nat.add_zero,List.drop_zero,eS,List.take_succ_cons,List.take_zero]at g2 g3
  have oS:H2[c]?=some (.cells (eS x)):=aG.get hc ba
  have ws:=aF (show j<9223372036854775807 by omega)
  have wi:=aF (show i<9223372036854775807 by omega)
  simp -implicitDefEqProofs only[op,ef,cl,sq,reduceIte,q4,q5,q6,q7,q8,j1,j2,j3,j4,S1,h0,h1,h5,h6,au,aa,g1,ki,g2,eS]
  refine Mo _ _ _ _ _ _ _ ?_
  simp -implicitDefEqProofs only[op,ef,cl,sq,reduceIte,q4,q5,q6,q7,q8,j1,j2,j3,j4,S1,h1,bK]
  refine af _ _ _ _ _ _ _ _ (KK y x c _ oS) ?_
  rintro v H3⟨hv,rfl⟩
  cases hv
  by_cases e:y=x
  ·simp -implicitDefEqProofs only[op,ef,cl,sq,reduceIte,q4,q5,q6,q7,q8,j1,j2,j3,j4,S1,h0,h1,h5,h6,e,ws]
   exact⟨(i,j+1),by simp only;omega,.i ⟨arr,ki,jb.same (e▸hy),aG⟩,rfl,rfl,by simp only;omega⟩
  ·simp -implicitDefEqProofs only[op,ef,cl,sq,reduceIte,q4,q5,q6,q7,q8,j1,j2,j3,j4,S1,h0,h1,h5,h6,e,aa,g4,ki,g3,ws,wi]
   exact⟨(i+1,j+1),by simp only;omega,.i ⟨_,cK (a6 ki),jb.move hy e,aG.set (.inl rfl) _⟩,rfl,rfl,by simp only;omega⟩
 ·have IE:j=l.length:=by simp only at hj;omega
  subst IE
  have lV:i<l.length:=by simpa using oL
  have hle:i≤l.length:=by omega
  have e2:¬(i=l.length):=by omega
  have jI:(aJ eS arr).length=l.length:=by rw[cO (enc:=eS) (n:=1) (fun _=>rfl),jb.len];omega
  have e3:i*1+(l.length-i)*1≤(aJ eS arr).length:=by rw[jI];omega
  simp -implicitDefEqProofs only[op,ef,cl,sq,reduceIte,q4,q5,q6,q7,q8,j1,j2,j3,j4,S1,h0,h1,h5,h6,au,aa,Nat.le_refl,hle,e2,and_self,kW,ki,Db,e3]
  have hw:=jb.Ds
  have KO:(cW l x).length=i:=by rw[←hw,List.length_take,jb.len];omega
  have Hk:∀m:List T,(((aJ eS arr).take (i*1))++m).take (i*1)=aJ eS (cW l x):=fun m=>by
   rw[List.take_append_of_le_length (by rw[List.length_take,jI];omega),List.take_take,Nat.min_self,←hw,gD (n:=1) (fun _=>rfl)]
  by_cases oI:i=0
  ·subst oI
   simp -implicitDefEqProofs only[op,ef,cl,sq,reduceIte,q4,q5,q6,q7,q8,j1,j2,j3,j4,S1,h0,h5,aa,hle,Nat.zero_le,Nat.le_refl,and_self]
   refine⟨0*1,by rw[KO],_,cK (a6 ki),?_,aG.set (.inl rfl) _⟩
   rw[List.append_assoc];exact Hk _
  ·have Ps:¬(0=i):=fun e=>oI e.symm
   simp -implicitDefEqProofs only[op,ef,cl,sq,reduceIte,q4,q5,q6,q7,q8,j1,j2,j3,j4,S1,h0,h5,aa,Ps,hle,Nat.zero_le,Nat.le_refl,and_self]
   refine⟨i*1,by rw[KO];simp,_,cK (a6 ki),?_,aG.set (.inl rfl) _⟩
   rw[List.append_assoc];exact Hk _
theorem Pt (b:Nat)(l:List Nat)(x:Nat)(H:ae)(hb:H[b]?=some (.cells (aJ eU l)))(hl:l.length<4611686018427387903):W env (.call 44 [.aE b 0 l.length 1,(.int .u64 x)]) H (Dt eU b l x H):=by
 refine W.cJ rfl rfl rfl ?_
 have Pu:=a6 hb
 simp -implicitDefEqProofs only[GG,op,ef,cl,sq,reduceIte,q4,q5,q6,q7,q8,j1,j2,j3,j4,S1]
 refine af _ _ _ _ _ _ _ _ (KN b l x H.length _ (by rw[aZ rfl];rfl) (by rw[aM Pu];exact hb) (by omega) hl) ?_
 rintro u H1⟨hu,h1,h2⟩
 cases hu
 simp -implicitDefEqProofs only[op,ef,cl,sq,reduceIte,q4,q5,q6,q7,q8,j1,j2,j3,j4,S1]
 exact⟨rfl,h1,(aK (Ext.rfl'.app _)).trans h2 fun c h=>.inl h⟩
theorem Pv (b:Nat)(l:List ByteArray)(x:ByteArray)(H:ae)(hb:H[b]?=some (.cells (aJ eS l)))(hl:l.length<4611686018427387903):W env (.call 45 [.aE b 0 l.length 1,(.str x)]) H (Dt eS b l x H):=by
 refine W.cJ rfl rfl rfl ?_
 have Pu:=a6 hb
 simp -implicitDefEqProofs only[GH,op,ef,cl,sq,reduceIte,q4,q5,q6,q7,q8,j1,j2,j3,j4,S1]
 refine af _ _ _ _ _ _ _ _ (KP b l x H.length _ (by rw[aZ rfl];rfl) (by rw[aM Pu];exact hb) (by omega) hl) ?_
 rintro u H1⟨hu,h1,h2⟩
 cases hu
 simp -implicitDefEqProofs only[op,ef,cl,sq,reduceIte,q4,q5,q6,q7,q8,j1,j2,j3,j4,S1]
 exact⟨rfl,h1,(aK (Ext.rfl'.app _)).trans h2 fun c h=>.inl h⟩
theorem KQ (t:T)(l:List Nat)(i x bv:Nat)(H:ae)(hm:dM eU 1 0 H t l)(hv:H[bv]?=some (.cells (eU x)))(ba:∀off len n,t≠.aE bv off len n)(hi:i≤l.length)(hl:l.length≤16777215) :
  W env (.call 49 [t,.int .i64 i,.aE bv 0 1 1]) H (Gj eU 1 0 H t (l.take i++x :: l.drop i)):=by
 rcases hm with⟨rfl,rfl⟩|⟨b,rfl,hb,Gk⟩
 ·have oI:i=0:=by simpa using hi
  subst oI
  exact Dd (f:=49) (bytes:=8) (fr:=67) (enc:=eU) (fun _=>rfl) (by decide) 0 rfl 0 bv x H (Nat.zero_le _) hv (ja (by omega) (by omega))
 ·exact De (f:=49) (bytes:=8) (fr:=67) (enc:=eU) (fun _=>rfl) (by decide) 0 rfl 0 bv b i x l H (Nat.zero_le _) hv hb Gk (fun h=>ba 0 l.length 1 (by rw[h])) hi (by omega) (ja (by omega) (by omega))
section
variable {α β γ:Type} [DecidableEq α]
theorem gF (f:β→γ)(es:List (α×β))(k:α):ah (es.map fun e=>(e.1,f e.2)) k=(ah es k).map f:=by
 induction es with
 | nil=>rfl
 | cons e es ih=>simp -implicitDefEqProofs only[List.map_cons,bz,ih];split<;>rfl
theorem oo (f:β→γ)(es:List (α×β))(k:α)(v:β):cm (es.map fun e=>(e.1,f e.2)) k (f v)=(cm es k v).map fun e=>(e.1,f e.2):=by
 induction es with
 | nil=>rfl
 | cons e es ih=>simp -implicitDefEqProofs only[List.map_cons,lR,ih];split<;>simp
theorem xw {es:List (α×β)}{k:α}{v:β}(h:ah es k=some v):(k,v)∈es:=by
 induction es with
 | nil=>cases h
 | cons e es ih =>
  rw[bz]at h
  split at h
  ·rename_i hk;cases h;subst hk;exact List.mem_cons_self
  ·exact List.mem_cons_of_mem _ (ih h)
theorem cX {es:List (α×β)}{k:α}:ah es k=none↔k∉es.map (·.1):=by
 induction es with
 | nil=>simp[cI]
 | cons e es ih =>
  rw[bz]
  by_cases hk:k=e.1
  ·simp[hk]
  ·simp -implicitDefEqProofs only[hk,if_false,ih,List.map_cons,List.mem_cons,false_or]
theorem xy (es:List (α×β))(k:α)(v:β):(cm es k v).map (·.1)=if k∈es.map (·.1)then es.map (·.1)else es.map (·.1)++[k]:=by
 induction es with
 | nil=>rfl
 | cons e es ih =>
  rw[lR]
  by_cases hk:k=e.1
  ·simp[hk]
  ·simp -implicitDefEqProofs only[hk,if_false,List.map_cons,ih,List.mem_cons,false_or]
   split<;>simp
theorem cA {es:List (α×β)}(h:(es.map (·.1)).Nodup)(k:α)(v:β):((cm es k v).map (·.1)).Nodup:=by
 rw[xy];split
 ·exact h
 ·rename_i hk;rw[List.nodup_append];exact⟨h,by simp,fun a ha b hb=>by simp at hb;subst hb;rintro rfl;exact hk ha⟩
theorem pV (e:α×T)(es:List (α×T))(k:α):mF (e :: es) k=if k=e.1 then es else e :: mF es k:=by
 unfold mF
 rw[List.findIdx?_cons]
 by_cases hk:k=e.1
 ·simp[hk]
 ·simp -implicitDefEqProofs only[hk,decide_false,if_false,Bool.false_eq_true]
  cases List.findIdx? (fun e=>decide (k=e.1)) es<;>simp
theorem ju {es:List (α×T)}(h:(es.map (·.1)).Nodup)(k k':α):ah (mF es k) k'=if k'=k then none else ah es k':=by
 induction es with
 | nil=>simp[mF,cI]
 | cons e es ih =>
  rw[List.map_cons,List.nodup_cons]at h
  rw[pV]
  by_cases hk:k=e.1
  ·subst hk
   by_cases jJ:k'=e.1
   ·subst jJ;simp -implicitDefEqProofs only[if_true];exact cX.2 h.1
   ·simp[bz,jJ]
  ·simp -implicitDefEqProofs only[hk,if_false,bz,ih h.2]
   by_cases jJ:k'=e.1
   ·subst jJ;simp[Ne.symm hk]
   ·simp[jJ]
theorem uo {es:List (α×T)}(h:(es.map (·.1)).Nodup)(k:α):((mF es k).map (·.1)).Nodup:=by
 induction es with
 | nil=>simp[mF]
 | cons e es ih =>
  rw[List.map_cons,List.nodup_cons]at h
  rw[pV];split
  ·exact h.2
  ·rw[List.map_cons,List.nodup_cons]
   refine⟨fun hm=>h.1 ?_,ih h.2⟩
   have:ah (mF es k) e.1≠none:=fun hn=>cX.1 hn hm
   rw[ju h.2]at this
   split at this
   ·exact absurd rfl this
   ·exact Classical.byContradiction fun hh=>this (cX.2 hh)
end
structure Hd where
 value:ByteArray
 kk:SK
 keys:List ByteArray
 bh:Int
def dy (h:Hd):T:=.agg [.str h.value,.sl h.kk (h.keys.map eS),.int .i64 h.bh]
def dC (vs:List (Nm×Hd)):List (Nm×T):=vs.map fun e=>(e.1,dy e.2)
def uq (ls:List (ByteArray×Nat)):List (ByteArray×T):=ls.map fun e=>(e.1,T.int .u64 e.2)
structure cB where
 vs:List (Nm×Hd)
 ls:List (ByteArray×Nat)
 ids:ByteArray→List Nat
 dz:Nat→List ByteArray
 n:Nat
structure eR (s:cB):Prop where
 sS:∀k,sR (s.ids k)
 BG:∀k n,n∈s.ids k↔(ah s.vs (k,n)).isSome=true
 ER:∀n,(s.dz n).Nodup
 BH:∀n k,k∈s.dz n↔(ah s.vs (k,n)).isSome=true
 nd:(s.vs.map (·.1)).Nodup
 Mu:∀m h,ah s.vs m=some h→jh h.kk h.keys∧h.keys.length≤1024
 bi:∀k,(s.ids k).length≤s.n
 bp:∀n,(s.dz n).length≤s.n
 Hl:(s.ls.map (·.1)).Nodup
def BI {α:Type}(enc:α→List T)(F:Nat→Prop)(H:ae)(o:Option T)(l:List α):Prop:=match o with
 | .none=>l=[]
 | some t=>∃b,t=.aE b 0 l.length 1∧H[b]?=some (.cells (aJ enc l))∧F b
def cu:Option T→Option Nat
 | some (.aE b _ _ _)=>some b
 | _=>.none
theorem BI.mut {α:Type}{enc:α→List T}{F:Nat→Prop}{H:ae}{o:Option T}{l:List α}(h:BI enc F H o l):dM enc 1 0 H (gY o (.sl .nil []) false) l:=by
 cases o with
 | none=>have h:l=[]:=h;exact .inl ⟨h,rfl⟩
 | some t=>obtain⟨b,rfl,h1,_⟩:=h;exact .inr ⟨b,rfl,h1,Nat.zero_le _⟩
theorem BI.cP {α:Type}{enc:α→List T}{F F':Nat→Prop}{H H':ae}{o:Option T}{l:List α}(h:BI enc F H o l)(hk:∀b x,cu o=some b→H[b]?=some x→H'[b]?=some x)(hF:∀b,cu o=some b→F b→F' b):BI enc F' H' o l:=by
 cases o with
 | none=>exact h
 | some t=>obtain⟨b,rfl,h1,h2⟩:=h;exact⟨b,rfl,hk b _ rfl h1,hF b rfl h2⟩
theorem BI.cells {α:Type}{enc:α→List T}{F:Nat→Prop}{H:ae}{o:Option T}{l:List α}(h:BI enc F H o l){b:Nat}(hb:cu o=some b):H[b]?=some (.cells (aJ enc l))∧F b:=by
 cases o with
 | none=>cases hb
 | some t=>obtain⟨b',rfl,h1,h2⟩:=h;cases hb;exact⟨h1,h2⟩
structure Bk where
 s:Nat
 v:Nat
 i:Nat
 p:Nat
 l:Nat
structure pW (H:ae)(b:Bk)(im:List (ByteArray×T))(pm:List (Nat×T))(s:cB)(F:Nat→Prop):Prop where
 hs:H[b.s]?=some (.cells [.map b.v,.map b.i,.map b.p,.map b.l])
 hv:H[b.v]?=some (.map (bo kN (dC s.vs)))
 hi:H[b.i]?=some (.map (bo T.str im))
 hp:H[b.p]?=some (.map (bo kU pm))
 hl:H[b.l]?=some (.map (bo T.str (uq s.ls)))
 vi:b.v≠b.i
 vp:b.v≠b.p
 vl:b.v≠b.l
 ip:b.i≠b.p
 il:b.i≠b.l
 pl:b.p≠b.l
 F0:F b.s∧F b.v∧F b.i∧F b.p∧F b.l
 oi:∀k,BI eU F H (ah im k) (s.ids k)
 op:∀n,BI eS F H (ah pm n) (s.dz n)
 si:∀k k' c,cu (ah im k)=some c→cu (ah im k')=some c→k=k'
 sp:∀n n' c,cu (ah pm n)=some c→cu (ah pm n')=some c→n=n'
 sx:∀k n c,cu (ah im k)=some c→cu (ah pm n)=some c→False
 np:(pm.map (·.1)).Nodup
def SH (H:ae)(b:Bk)(s:cB)(F:Nat→Prop):Prop:=∃im pm,pW H b im pm s F
theorem dq {H:ae}{b c:Nat}{es:List (T×T)}{cs:List T}(h:H[b]?=some (.map es))(h':H[c]?=some (.cells cs)):b≠c:=by rintro rfl;rw[h]at h';cases h'
theorem pW.ne {H:ae}{b:Bk}{im:List (ByteArray×T)}{pm:List (Nat×T)}{s:cB}{F:Nat→Prop}(h:pW H b im pm s F):b.v≠b.s∧b.i≠b.s∧b.p≠b.s∧b.l≠b.s:=⟨dq h.hv h.hs,dq h.hi h.hs,dq h.hp h.hs,dq h.hl h.hs⟩
theorem vS {α:Type}{enc:α→List T}(hn:∀x,∃t,enc x=[t]∧∀b,t≠.map b){l:List α}{a b c d:Nat}:aJ enc l≠[.map a,.map b,.map c,.map d]:=by
 intro h
 cases l with
 | nil=>simp[aJ]at h
 | cons x l =>
  obtain⟨t,ht,hm⟩:=hn x
  simp -implicitDefEqProofs only[aJ,List.flatMap_cons,ht,List.cons_append,List.nil_append,List.cons.injEq]at h
  exact hm _ h.1
theorem pW.gp {H:ae}{b:Bk}{im:List (ByteArray×T)}{pm:List (Nat×T)}{s:cB}{F:Nat→Prop}(h:pW H b im pm s F){k:ByteArray}{c:Nat}(hc:cu (ah im k)=some c):c≠b.s∧c≠b.v∧c≠b.i∧c≠b.p∧c≠b.l∧F c∧c<H.length:=by
 obtain⟨h1,h2⟩:=(h.oi k).cells hc
 refine⟨?_,Ne.symm (dq h.hv h1),Ne.symm (dq h.hi h1),Ne.symm (dq h.hp h1),Ne.symm (dq h.hl h1),h2,a6 h1⟩
 rintro rfl
 rw[h.hs]at h1
 exact vS (enc:=eU) (fun x=>⟨_,rfl,fun _ h=>by cases h⟩) (B.cells.inj (Option.some.inj h1)).symm
theorem pW.iu {H:ae}{b:Bk}{im:List (ByteArray×T)}{pm:List (Nat×T)}{s:cB}{F:Nat→Prop}(h:pW H b im pm s F){n:Nat}{c:Nat}(hc:cu (ah pm n)=some c):c≠b.s∧c≠b.v∧c≠b.i∧c≠b.p∧c≠b.l∧F c∧c<H.length:=by
 obtain⟨h1,h2⟩:=(h.op n).cells hc
 refine⟨?_,Ne.symm (dq h.hv h1),Ne.symm (dq h.hi h1),Ne.symm (dq h.hp h1),Ne.symm (dq h.hl h1),h2,a6 h1⟩
 rintro rfl
 rw[h.hs]at h1
 exact vS (enc:=eS) (fun x=>⟨_,rfl,fun _ h=>by cases h⟩) (B.cells.inj (Option.some.inj h1)).symm
theorem pW.rq {H H':ae}{b:Bk}{im:List (ByteArray×T)}{pm:List (Nat×T)}{s:cB}{F G:Nat→Prop}(h:pW H b im pm s F)(hf:bO G H H')(hg:∀c,F c→c<H.length→¬G c):pW H' b im pm s F:=by
 obtain⟨f0,f1,f2,f3,f4⟩:=h.F0
 have k:∀{c x},F c→H[c]?=some x→H'[c]?=some x:=fun hF hx=>hf.get hx (hg _ hF (a6 hx))
 exact⟨k f0 h.hs,k f1 h.hv,k f2 h.hi,k f3 h.hp,k f4 h.hl,h.vi,h.vp,h.vl,h.ip,h.il,h.pl,h.F0,
  fun q=>(h.oi q).cP (fun c x hc hx=>k (h.gp hc).2.2.2.2.2.1 hx) (fun _ _ h=>h),fun q=>(h.op q).cP (fun c x hc hx=>k (h.iu hc).2.2.2.2.2.1 hx) (fun _ _ h=>h),h.si,h.sp,h.sx,h.np⟩
theorem qL {l:List Nat}:sR l↔l.Pairwise (· < ·):=by
 rw[List.pairwise_iff_getElem]
 constructor
 ·intro h i j hi hj oL
  exact h i j _ _ oL (List.getElem?_eq_getElem hi) (List.getElem?_eq_getElem hj)
 ·intro h i j a b oL ha hb
  obtain⟨hi,e1⟩:=List.getElem?_eq_some_iff.1 ha
  obtain⟨hj,e2⟩:=List.getElem?_eq_some_iff.1 hb
  have:=h i j hi hj oL
  rw[e1,e2]at this;exact this
theorem AW {l:List Nat}{i x:Nat}(h:sR l)(hx:x∉l)(h1:∀p a,p<i→l[p]?=some a→a<x)(h2:∀p a,i≤p→l[p]?=some a→x≤a):sR (l.take i++x :: l.drop i):=by
 rw[qL]at h ⊢
 have m1:∀a∈l.take i,a<x:=fun a ha=>by
  obtain⟨p,hp,e⟩:=List.getElem_of_mem ha
  have mB:p<i∧p<l.length:=by simp -implicitDefEqProofs only[List.length_take]at hp;omega
  exact h1 p a mB.1 (by rw[←e];simp[List.getElem?_eq_getElem mB.2])
 have m2:∀a∈l.drop i,x<a:=fun a ha=>by
  obtain⟨p,hp,e⟩:=List.getElem_of_mem ha
  have mB:i+p<l.length:=by simp -implicitDefEqProofs only[List.length_drop]at hp;omega
  have h3:=h2 (i+p) a (by omega) (by rw[←e];simp[List.getElem?_eq_getElem mB])
  have:a≠x:=by rintro rfl;exact hx (List.mem_of_mem_drop ha)
  omega
 rw[List.pairwise_append]
 refine⟨h.sublist (List.take_sublist _ _),?_,fun a ha b hb=>?_⟩
 ·rw[List.pairwise_cons]
  exact⟨m2,h.sublist (List.drop_sublist _ _)⟩
 ·have:=m1 a ha
  rcases List.mem_cons.1 hb with rfl|hb
  ·exact this
  ·have:=m2 b hb;omega
theorem Dv {l:List Nat}{i x a:Nat}:a∈l.take i++x :: l.drop i↔a=x∨a∈l:=by
 conv=>rhs;rw[←List.take_append_drop i l]
 simp -implicitDefEqProofs only[List.mem_append,List.mem_cons]
 constructor
 ·rintro (h|h|h)
  ·exact .inr (.inl h)
  ·exact .inl h
  ·exact .inr (.inr h)
 ·rintro (h|h|h)
  ·exact .inr (.inl h)
  ·exact .inl h
  ·exact .inr (.inr h)
theorem mU {o:Option T}{c off len m:Nat}(h:gY o (.sl .nil []) false=.aE c off len m):cu o=some c:=by
 cases o with
 | none=>cases h
 | some t=>have h:t=_:=h;subst h;rfl
def cB.put (s:cB)(k:ByteArray)(n:Nat)(h:Hd)(l:List Nat):cB:=⟨cm s.vs (k,n) h,s.ls,fun k'=>if k'=k then l else s.ids k',fun n'=>if n'=n then s.dz n++[k]else s.dz n',s.n+1⟩
theorem eR.put {s:cB}(hi:eR s){k:ByteArray}{n:Nat}{h:Hd}(kS:ah s.vs (k,n)=none)(hk:jh h.kk h.keys∧h.keys.length≤1024){i:Nat}(h1:∀p a,p<i→(s.ids k)[p]?=some a→a<n)(h2:∀p a,i≤p→(s.ids k)[p]?=some a→n≤a):eR (s.put k n h ((s.ids k).take i++n :: (s.ids k).drop i)):=by
 have hx:n∉s.ids k:=fun hm=>by rw[hi.BG,kS]at hm;cases hm
 have hp:k∉s.dz n:=fun hm=>by rw[hi.BH,kS]at hm;cases hm
 refine⟨fun k'=>?_,fun k' n'=>?_,fun n'=>?_,fun n' k'=>?_,cA hi.nd _ _,fun m h' hm=>?_,fun k'=>?_,fun n'=>?_,hi.Hl⟩
 ·simp -implicitDefEqProofs only[cB.put];split
  ·exact AW (hi.sS k) hx h1 h2
  ·exact hi.sS k'
 ·simp -implicitDefEqProofs only[cB.put,a0]
  by_cases e:k'=k
  ·subst e
   simp -implicitDefEqProofs only[if_true,Dv,hi.BG,Prod.mk.injEq,true_and]
   by_cases e2:n'=n<;>simp[e2]
  ·simp[e,hi.BG]
 ·simp -implicitDefEqProofs only[cB.put];split
  ·rw[List.nodup_append];exact⟨hi.ER n,by simp,fun a ha c hc=>by simp at hc;subst hc;rintro rfl;exact hp ha⟩
  ·exact hi.ER n'
 ·simp -implicitDefEqProofs only[cB.put,a0]
  by_cases e:n'=n
  ·subst e
   simp -implicitDefEqProofs only[if_true,List.mem_append,List.mem_singleton,hi.BH,Prod.mk.injEq,and_true]
   by_cases e2:k'=k<;>simp[e2]
  ·simp[e,hi.BH]
 ·simp -implicitDefEqProofs only[cB.put,a0]at hm
  split at hm
  ·cases hm;exact hk
  ·exact hi.Mu m h' hm
 ·have:=hi.bi k'
  simp -implicitDefEqProofs only[cB.put];split
  ·rename_i e;subst e;simp -implicitDefEqProofs only[List.length_append,List.length_take,List.length_cons,List.length_drop];omega
  ·omega
 ·have:=hi.bp n'
  simp -implicitDefEqProofs only[cB.put];split
  ·rename_i e;subst e;simp -implicitDefEqProofs only[List.length_append,List.length_singleton];omega
  ·omega
theorem KR (b:Bk)(s:cB)(F:Nat→Prop)(k:ByteArray)(n:Nat)(h:Hd)(H:ae)(hs:SH H b s F)(hi:eR s)(kS:ah s.vs (k,n)=none)(hn:s.n≤8000000)(hk:jh h.kk h.keys∧h.keys.length≤1024) :
  W env (.call 35 [.ptr b.s 0,kN (k,n),dy h]) H (fun o H'=>o=.val (.bE [])∧∃s' F',SH H' b s' F'∧eR s'∧s'.vs=cm s.vs (k,n) h∧s'.ls=s.ls∧s'.n=s.n+1∧bO F H H'∧∀c,F' c→F c∨(H.length≤c∧c<H'.length)):=by
 obtain⟨im,pm,sa⟩:=hs
 obtain⟨sv,si,sp,sl⟩:=sa.ne
 have l0:=a6 sa.hs
 have lv:=a6 sa.hv
 have li:=a6 sa.hi
 have lp:=a6 sa.hp
 have ll:=a6 sa.hl
 obtain⟨t,ht⟩:∃t,gY (ah im k) (.sl .nil []) false=t:=⟨_,rfl⟩
 have Dw:=(sa.oi k).mut
 rw[ht]at Dw
 have KS:=fun Hx v=>qC sP Hx b.v (dC s.vs) (k,n) v
 simp -implicitDefEqProofs only[kN,eN]at KS
 refine W.cJ rfl rfl rfl ?_
 simp -implicitDefEqProofs only[GA,kN,eN,dy,op,ef,cl,sq,reduceIte,q4,q5,q6,q7,q8,j1,j2,j3,j4,S1,S2,S3,List.length_set,sa.hs,sa.hv,l0,lv,KS,sv,li,sa.hi,sa.vi,iY,ht]
 generalize ES:H.set b.v (B.map (bo kN (cm (dC s.vs) (k,n) (T.agg [T.str h.value,T.sl h.kk (h.keys.map eS),T.int IntKind.i64 h.bh]))))++[B.cells [T.str k,T.int IntKind.u64 n]]++[B.cells [T.str h.value,T.sl h.kk (h.keys.map eS),T.int IntKind.i64 h.bh]]=H1
 have Pw:H1.length=H.length+2:=by rw[←ES];simp
 have e7:∀{c x},c≠b.v→H[c]?=some x→H1[c]?=some x:=fun hc hx=>by
  have:=a6 hx
  rw[←ES,aM (by simp;omega),aM (by simpa using this),bN (Ne.symm hc)];exact hx
 have c1:H1[H.length]?=some (.cells [T.str k,T.int IntKind.u64 n]):=by rw[←ES,aM (by simp),aZ (by simp)]
 have v1:H1[b.v]?=some (.map (bo kN (dC (cm s.vs (k,n) h)))):=by
  rw[←ES,aM (by simp;omega),aM (by simpa using lv),cK lv]
  congr 3;exact oo dy s.vs (k,n) h
 have s1:=e7 (Ne.symm sv) sa.hs
 have i1:=e7 (Ne.symm sa.vi) sa.hi
 have p1:=e7 (Ne.symm sa.vp) sa.hp
 have w1:=e7 (Ne.symm sa.vl) sa.hl
 have KU:dM eU 1 0 H1 t (s.ids k):=by
  have:=((sa.oi k).cP (F':=F) (H':=H1) (fun c x hc hx=>e7 (sa.gp hc).2.1 hx) (fun _ _ h=>h)).mut
  rwa[ht]at this
 refine af _ _ _ _ _ _ _ _ (Pq 0 t (s.ids k) n H1 KU (by have:=hi.bi k;omega) (hi.sS k)) ?_
 rintro u H2⟨i,fd,hu,rfl,Du,Uf,Hm⟩
 cases hu
 have Rf:b.s<H2.length:=a6 s1
 have Ug:H.length<H2.length:=a6 c1
 have Uh:b.i<H2.length:=a6 i1
 have VH:b.p<H2.length:=a6 p1
 simp -implicitDefEqProofs only[op,ef,cl,sq,reduceIte,q4,q5,q6,q7,q8,j1,j2,j3,j4,S1,S2,S3,s1,c1,i1,Rf,Ug,Uh,iY,ht]
 have Ui:∀c,(∀c',cu (ah im k)=some c'→c'≠c)→∀off len m,t≠.aE c off len m:=fun c hc off len m he=>hc c (mU (ht.trans he)) rfl
 have vg:∀y:B,Ext H2 (H2++[y]):=fun y=>⟨_,rfl⟩
 have Rg:=KQ t (s.ids k) i n H2.length _ (KU.ext (vg (.cells [.int .u64 n]))) (aZ rfl) (fun off len m he=>by have:=(sa.gp (mU (ht.trans he))).2.2.2.2.2.2;omega) Du (by have:=hi.bi k;omega)
 obtain⟨ys,IB⟩:∃ys,ys=(s.ids k).take i++n :: (s.ids k).drop i:=⟨_,rfl⟩
 rw[←IB]at Rg
 refine af _ _ _ _ _ _ _ _ Rg ?_
 rintro u H3⟨b',hu,fC,_,cn,aG⟩
 cases hu
 have eG:∀{c x},H2[c]?=some x→(∀c',cu (ah im k)=some c'→c'≠c)→H3[c]?=some x:=fun hx hc=>cn.get _ _ ((vg _).get hx) (Ui _ hc)
 have s3:=eG s1 fun c' hc=>(sa.gp hc).1
 have v3:=eG v1 fun c' hc=>(sa.gp hc).2.1
 have i3:=eG i1 fun c' hc=>(sa.gp hc).2.2.1
 have p3:=eG p1 fun c' hc=>(sa.gp hc).2.2.2.1
 have w3:=eG w1 fun c' hc=>(sa.gp hc).2.2.2.2.1
 have c3:=eG c1 fun c' hc=>by have:=(sa.gp hc).2.2.2.2.2.2;omega
 have VI:=a6 s3
 have VJ:=a6 c3
 have Uj:=a6 i3
 have VK:=a6 p3
 have Px:H2.length+1≤H3.length:=by have:=cn.len;simpa using this
 have bH:b.i≠H.length:=by omega
 obtain⟨t2,Mb⟩:∃t2,gY (ah pm n) (.sl .nil []) false=t2:=⟨_,rfl⟩
 obtain⟨H4,Mv⟩:∃H4,H4=H3.set b.i (.map (bo T.str (cm im k (.aE b' 0 ys.length 1)))):=⟨_,rfl⟩
 have eH:∀{c x},H3[c]?=some x→c≠b.i→H4[c]?=some x:=fun hx hc=>by rw[Mv,bN (Ne.symm hc)];exact hx
 have s4:=eH s3 (Ne.symm si)
 have c4:=eH c3 (Ne.symm bH)
 have p4:=eH p3 (Ne.symm sa.ip)
 have v4:=eH v3 sa.vi
 have w4:=eH w3 (Ne.symm sa.il)
 have i4:H4[b.i]?=some (.map (bo T.str (cm im k (.aE b' 0 ys.length 1)))):=by rw[Mv,cK Uj]
 have kP:∀n' c x,cu (ah pm n')=some c→H[c]?=some x→H4[c]?=some x:=fun n' c x hc hx=>by
  obtain⟨e1,e2,e3,e4,e5,_,e6⟩:=sa.iu hc
  exact eH (eG (e7 e2 hx) fun c' eB e=>sa.sx k n' c (e▸eB) hc) e3
 have Dx:dM eS 1 0 H4 t2 (s.dz n):=by
  have:=((sa.op n).cP (F':=F) (H':=H4) (fun c x hc hx=>kP n c x hc hx) (fun _ _ h=>h)).mut
  rwa[Mb]at this
 have Gl:wz t2=t2:=by
  rcases Dx with⟨_,rfl⟩|⟨_,rfl,_⟩<;>rfl
 obtain⟨t3,H5,kp,Py,Ho⟩:=mT (enc:=eS) (n:=1) (n0:=0) (bytes:=16) (fun _=>rfl) [k] Dx (Nat.zero_le _) (by simp) (ja (by have:=hi.bp n;simp;omega) (by omega))
 simp -implicitDefEqProofs only[List.map_cons,List.map_nil,eS]at kp
 have Pz:∀c,(∀c',cu (ah pm n)=some c'→c'≠c)→∀off len m,t2≠.aE c off len m:=fun c hc off len m he=>hc c (mU (Mb.trans he)) rfl
 have dV:∀{c x},H4[c]?=some x→(∀c',cu (ah pm n)=some c'→c'≠c)→H5[c]?=some x:=fun hx hc=>Ho.get _ _ hx (Pz _ hc)
 have s5:=dV s4 fun c' hc=>(sa.iu hc).1
 have v5:=dV v4 fun c' hc=>(sa.iu hc).2.1
 have i5:=dV i4 fun c' hc=>(sa.iu hc).2.2.1
 have p5:=dV p4 fun c' hc=>(sa.iu hc).2.2.2.1
 have w5:=dV w4 fun c' hc=>(sa.iu hc).2.2.2.2.1
 have c5:=dV c4 fun c' hc=>by have:=(sa.iu hc).2.2.2.2.2.2;omega
 simp -implicitDefEqProofs only[op,ef,cl,sq,reduceIte,q4,q5,q6,q7,q8,j1,j2,j3,j4,S1,S2,s3,c3,i3,oc,←Mv,s4,c4,p4,s5,c5,p5,gZ,Mb,Gl,kp,od]
 have uZ:s.dz n++[k]≠[]:=by simp
 obtain⟨b3,rfl,FV,_⟩:∃b3,t3=.aE b3 0 (s.dz n++[k]).length 1∧H5[b3]?=some (.cells (aJ eS (s.dz n++[k])))∧0≤b3:=by
  rcases Py with⟨h,_⟩|h
  ·exact absurd h uZ
  ·exact h
 have vj:H4.length≤b3:=qG kp (by simp)
 have Uk:H4.length=H3.length:=by rw[Mv];simp
 have VL:=a6 fC
 have Ul:=a6 FV
 have nb:H.length≤b'∨cu (ah im k)=some b':=by
  rcases aG with h|⟨off,len,m,h⟩
  ·rw[List.length_append]at h;exact .inl (by omega)
  ·exact .inr (mU (ht.trans h))
 have Rh:∀{c},c<H.length→(∀c',cu (ah im k)=some c'→c'≠c)→b'≠c:=fun hc hh=>nb.elim (fun h=>by omega) fun h=>hh _ h
 have lg:∀{c x},H5[c]?=some x→c≠b.p→(H5.set b.p (.map (bo kU (cm pm n (.aE b3 0 (s.dz n++[k]).length 1)))))[c]?=some x:=fun hx hc=>by rw[bN (Ne.symm hc)];exact hx
 have kI:∀k' c x,k'≠k→cu (ah im k')=some c→H[c]?=some x→(H5.set b.p (.map (bo kU (cm pm n (.aE b3 0 (s.dz n++[k]).length 1)))))[c]?=some x:=fun k' c x hk hc hx=>by
  obtain⟨e1,e2,e3,e4,e5,_,e6⟩:=sa.gp hc
  exact lg (dV (eH (eG (e7 e2 hx) fun c' eB e=>hk (sa.si k' k c hc (e▸eB))) e3) fun c' eB e=>sa.sx k' n c hc (e▸eB)) e4
 refine⟨rfl,s.put k n h ys,fun c=>F c∨(H.length≤c∧c<H5.length),⟨cm im k (.aE b' 0 ys.length 1),cm pm n (.aE b3 0 (s.dz n++[k]).length 1),?_⟩,by rw[IB];exact hi.put kS hk Uf Hm,rfl,rfl,rfl,?_,fun c h=>h⟩
 ·refine⟨lg s5 (Ne.symm sp),lg v5 sa.vp,lg i5 sa.ip,cK (a6 p5),lg w5 (Ne.symm sa.pl),sa.vi,sa.vp,sa.vl,sa.ip,sa.il,sa.pl,⟨.inl sa.F0.1,.inl sa.F0.2.1,.inl sa.F0.2.2.1,.inl sa.F0.2.2.2.1,.inl sa.F0.2.2.2.2⟩,fun k'=>?_,fun n'=>?_,fun k1 k2 c h1 h2=>?_,fun n1 n2 c h1 h2=>?_,fun k1 n1 c h1 h2=>?_,cA sa.np _ _⟩
  ·simp -implicitDefEqProofs only[cB.put,a0]
   by_cases e:k'=k
   ·simp -implicitDefEqProofs only[e,if_true]
    refine⟨b',rfl,lg (dV (eH fC (Rh li fun c' eB=>(sa.gp eB).2.2.1)) fun c' eB e'=>?_) (Rh lp fun c' eB=>(sa.gp eB).2.2.2.1),nb.elim (fun h=>.inr ⟨h,by have:=Ho.len;omega⟩) fun h=>.inl (sa.gp h).2.2.2.2.2.1⟩
    subst e'
    exact nb.elim (fun h=>by have:=(sa.iu eB).2.2.2.2.2.2;omega) fun h=>sa.sx k n _ h eB
   ·simp -implicitDefEqProofs only[e,if_false]
    exact(sa.oi k').cP (fun c x hc hx=>kI k' c x e hc hx) fun c _ h=>.inl h
  ·simp -implicitDefEqProofs only[cB.put,a0]
   by_cases e:n'=n
   ·simp -implicitDefEqProofs only[e,if_true]
    exact⟨b3,rfl,lg FV (by omega),.inr ⟨by omega,Ul⟩⟩
   ·simp -implicitDefEqProofs only[e,if_false]
    refine(sa.op n').cP (fun c x hc hx=>lg (dV (kP n' c x hc hx) fun c' eB e'=>e (sa.sp n' n c hc (e'▸eB))) (sa.iu hc).2.2.2.1) fun c _ h=>.inl h
  ·simp -implicitDefEqProofs only[a0]at h1 h2
   by_cases e1:k1=k
   ·by_cases e2:k2=k
    ·rw[e1,e2]
    ·simp -implicitDefEqProofs only[e1,if_true,cu,Option.some.injEq]at h1
     simp -implicitDefEqProofs only[e2,if_false]at h2
     subst h1
     exact absurd (nb.elim (fun h=>by have:=(sa.gp h2).2.2.2.2.2.2;omega) fun h=>sa.si _ _ _ h2 h) e2
   ·by_cases e2:k2=k
    ·simp -implicitDefEqProofs only[e2,if_true,cu,Option.some.injEq]at h2
     simp -implicitDefEqProofs only[e1,if_false]at h1
     subst h2
     exact absurd (nb.elim (fun h=>by have:=(sa.gp h1).2.2.2.2.2.2;omega) fun h=>sa.si _ _ _ h1 h) e1
    ·simp -implicitDefEqProofs only[e1,e2,if_false]at h1 h2
     exact sa.si _ _ _ h1 h2
  ·simp -implicitDefEqProofs only[a0]at h1 h2
   by_cases e1:n1=n
   ·by_cases e2:n2=n
    ·rw[e1,e2]
    ·simp -implicitDefEqProofs only[e1,if_true,cu,Option.some.injEq]at h1
     simp -implicitDefEqProofs only[e2,if_false]at h2
     have:=(sa.iu h2).2.2.2.2.2.2;omega
   ·by_cases e2:n2=n
    ·simp -implicitDefEqProofs only[e2,if_true,cu,Option.some.injEq]at h2
     simp -implicitDefEqProofs only[e1,if_false]at h1
     have:=(sa.iu h1).2.2.2.2.2.2;omega
    ·simp -implicitDefEqProofs only[e1,e2,if_false]at h1 h2
     exact sa.sp _ _ _ h1 h2
  ·simp -implicitDefEqProofs only[a0]at h1 h2
   by_cases e1:k1=k
   ·simp -implicitDefEqProofs only[e1,if_true,cu,Option.some.injEq]at h1
    by_cases e2:n1=n
    ·simp -implicitDefEqProofs only[e2,if_true,cu,Option.some.injEq]at h2
     omega
    ·simp -implicitDefEqProofs only[e2,if_false]at h2
     subst h1
     exact nb.elim (fun h=>by have:=(sa.iu h2).2.2.2.2.2.2;omega) fun h=>sa.sx _ _ _ h h2
   ·simp -implicitDefEqProofs only[e1,if_false]at h1
    by_cases e2:n1=n
    ·simp -implicitDefEqProofs only[e2,if_true,cu,Option.some.injEq]at h2
     have:=(sa.gp h1).2.2.2.2.2.2;omega
    ·simp -implicitDefEqProofs only[e2,if_false]at h2
     exact sa.sx _ _ _ h1 h2
 ·refine⟨by have:=Ho.len;rw[List.length_set];omega,fun c hc hF=>?_⟩
  obtain⟨x,hx⟩:=cF hc
  have ne:∀{c'},F c'→c≠c':=fun h e=>hF (e▸h)
  rw[hx]
  exact lg (dV (eH (eG (e7 (ne sa.F0.2.1) hx) fun c' eB=>Ne.symm (ne (sa.gp eB).2.2.2.2.2.1)) (ne sa.F0.2.2.1)) fun c' eB=>Ne.symm (ne (sa.iu eB).2.2.2.2.2.1)) (ne sa.F0.2.2.2.1)
def cB.emp:cB:=⟨[],[],fun _=>[],fun _=>[],0⟩
theorem eR.emp:eR cB.emp:=⟨fun _ i j a b _ h=>by simp[cB.emp]at h,fun k n=>by simp[cB.emp,cI],fun _=>by simp[cB.emp],fun n k=>by simp[cB.emp,cI],by simp[cB.emp],fun m h hm=>by simp[cB.emp,cI]at hm,fun _=>by simp[cB.emp],fun _=>by simp[cB.emp],by simp[cB.emp]⟩
theorem PA (H:ae):W env (.call 12 []) H (fun o H'=>Ext H H'∧∃b F,o=.val (.ptr b.s 0)∧SH H' b cB.emp F∧∀c,F c→H.length≤c∧c<H'.length):=by
 refine W.cJ rfl rfl rfl ?_
 simp -implicitDefEqProofs only[Gq,op,ef,cl,sq,reduceIte,q4,q5,q6,q7,q8,j1,j2,j3,j4,S1,S3]
 refine⟨(((((Ext.rfl'.app _).app _).app _).app _).app _),⟨H.length+4,H.length,H.length+1,H.length+2,H.length+3⟩,fun c=>H.length≤c∧c<H.length+5,rfl,⟨[],[],?_⟩,fun c h=>⟨h.1,by have:=h.2;simp;omega⟩⟩
 refine⟨?_,?_,?_,?_,?_,by simp,by simp,by simp,by simp,by simp,by simp,by simp,fun _=>rfl,fun _=>rfl,fun k k' c h=>by simp[cI,cu]at h,fun k k' c h=>by simp[cI,cu]at h,fun k k' c h=>by simp[cI,cu]at h,by simp⟩
 ·rw[aZ (by simp)]
 ·rw[aM (by simp<;>omega),aM (by simp<;>omega),aM (by simp<;>omega),aM (by simp),aZ (by simp)];rfl
 ·rw[aM (by simp),aM (by simp),aM (by simp),aZ (by simp)];rfl
 ·rw[aM (by simp),aM (by simp),aZ (by simp)];rfl
 ·rw[aM (by simp),aZ (by simp)];rfl
def mH (o:Option Hd):Hd:=o.getD ⟨⟨#[]⟩,.nil,[],0⟩
theorem ur (vs:List (Nm×Hd))(n:Nm):gY (ah (dC vs) n) (.agg [.str ⟨#[]⟩,.sl .nil [],.int .i64 0]) false=dy (mH (ah vs n)):=by
 unfold dC;rw[gF]
 cases ah vs n<;>rfl
def KV (k:ByteArray)(n:Nat)(v:ByteArray)(kk:SK)(keys:List ByteArray):List T:=[.str k,.int .u64 n,.str v,.sl kk (keys.map eS)]
def PB (H:ae)(k:ByteArray)(n:Nat)(h:Hd):Out→ae→Prop:=fun o H'=>Ext H H'∧∃kk,jh kk h.keys∧o=.val (.agg (KV k n h.value kk h.keys))
theorem xz (b:Bk)(s:cB)(F:Nat→Prop)(k:ByteArray)(n:Nat)(H:ae)(hs:SH H b s F)(hi:eR s):W env (.call 37 [.ptr b.s 0,kN (k,n)]) H (PB H k n (mH (ah s.vs (k,n)))):=by
 obtain⟨im,pm,sa⟩:=hs
 have l0:=a6 sa.hs
 have lv:=a6 sa.hv
 have jv:=fun Hx z ok=>kf sP z ok Hx (dC s.vs) (k,n)
 simp -implicitDefEqProofs only[kN,eN]at jv
 have hh:=ur s.vs (k,n)
 obtain⟨h,oF⟩:∃h,h=mH (ah s.vs (k,n)):=⟨_,rfl⟩
 have pX:jh h.kk h.keys∧h.keys.length≤1024:=by
  rw[oF]
  cases e:ah s.vs (k,n)with
  | none=>exact⟨fun _=>rfl,by simp[mH]⟩
  | some h=>exact hi.Mu _ _ e
 rw[←oF]at hh ⊢
 refine W.cJ rfl rfl rfl ?_
 simp -implicitDefEqProofs only[GB,kN,eN,op,ef,cl,sq,reduceIte,q4,q5,q6,q7,q8,j1,j2,j3,j4,S1,S2,S3,List.length_set,sa.hs,sa.hv,l0,lv,jv,hh,dy]
 refine af _ _ _ _ _ _ _ _ (vQ h.kk h.keys _ pX.1 (by omega)) ?_
 rintro u H2⟨hx,kk,cd,hu⟩
 cases hu
 have c0:H2[H.length]?=some (.cells [.str k,.int .u64 n]):=hx.get (by rw[aM (by simp<;>omega),aM (by simp),aZ rfl])
 have c1:H2[H.length+1]?=some (.cells [.str ⟨#[]⟩,.int .u64 0,.str ⟨#[]⟩,.sl .nil []]):=hx.get (by rw[aM (by simp),aZ (by simp)])
 have c2:H2[H.length+2]?=some (.cells [.str h.value,.sl h.kk (h.keys.map eS),.int .i64 h.bh]):=hx.get (by rw[aZ (by simp)])
 have k1:=a6 c1
 simp -implicitDefEqProofs only[op,ef,cl,sq,reduceIte,q4,q5,q6,q7,q8,j1,j2,j3,j4,S1,c0,c1,c2,S2,k1]
 exact⟨((((Ext.rfl'.app _).app _).app _).trans hx).set (by omega) _,kk,cd,rfl⟩
theorem uu (ls:List (ByteArray×Nat))(k:ByteArray):ah (uq ls) k=(ah ls k).map fun n:Nat=>T.int .u64 n:=gF (fun n:Nat=>T.int .u64 n) ls k
def bu (s:cB)(k:ByteArray):Nat:=(ah s.ls k).getD 0
theorem sU (s:cB)(k:ByteArray):gY (ah (uq s.ls) k) (.int .u64 0) false=.int .u64 (bu s k):=by
 unfold bu;rw[uu]
 cases ah s.ls k<;>rfl
structure iv (s s':cB)(n:Nat)(l:List (ByteArray×ByteArray))(ks:List ByteArray)(now:Int)(fr:Bool):Prop where
 other:∀m:Nm,(m.2≠n∨m.1∉l.map (·.1))→ah s'.vs m=ah s.vs m
 gM:∀p∈l,∀h,ah s.vs (p.1,n)=some h→ah s'.vs (p.1,n)=some h
 new:∀p∈l,ah s.vs (p.1,n)=none→∃kk,jh kk ks∧ah s'.vs (p.1,n)=some ⟨p.2,kk,ks,if n<bu s p.1 then now else -1⟩
 fresh:fr=true↔∃p∈l,ah s.vs (p.1,n)=none
 ls:s'.ls=s.ls
theorem iv.nil (s:cB)(n:Nat)(ks:List ByteArray)(now:Int):iv s s n [] ks now false:=⟨fun _ _=>rfl,by simp,by simp,by simp,rfl⟩
theorem iv.there {s s':cB}{n:Nat}{l:List (ByteArray×ByteArray)}{ks:List ByteArray}{now:Int}{fr:Bool}(h:iv s s' n l ks now fr){p:ByteArray×ByteArray}{hd:Hd}(hp:p.1∉l.map (·.1))(ht:ah s'.vs (p.1,n)=some hd):iv s s' n (l++[p]) ks now fr:=by
 have e:=h.other (p.1,n) (.inr hp)
 rw[ht]at e
 refine⟨fun m hm=>h.other m ?_,fun q hq h' hh=>?_,fun q hq hn=>?_,?_,h.ls⟩
 ·simp -implicitDefEqProofs only[List.map_append,List.mem_append,not_or]at hm
  exact hm.imp id (·.1)
 ·rcases List.mem_append.1 hq with hq|hq
  ·exact h.gM q hq h' hh
  ·simp at hq;subst hq;rw[←e]at hh;rw[ht];exact hh
 ·rcases List.mem_append.1 hq with hq|hq
  ·exact h.new q hq hn
  ·simp at hq;subst hq;rw[←e]at hn;cases hn
 ·rw[h.fresh]
  constructor
  ·rintro⟨q,hq,hn⟩;exact⟨q,List.mem_append_left _ hq,hn⟩
  ·rintro⟨q,hq,hn⟩
   rcases List.mem_append.1 hq with hq|hq
   ·exact⟨q,hq,hn⟩
   ·simp at hq;subst hq;rw[←e]at hn;cases hn
theorem iv.add {s s' s2:cB}{n:Nat}{l:List (ByteArray×ByteArray)}{ks:List ByteArray}{now:Int}{fr:Bool}(h:iv s s' n l ks now fr){p:ByteArray×ByteArray}{kk:SK}(hp:p.1∉l.map (·.1))(cd:jh kk ks)(ht:ah s'.vs (p.1,n)=none)
  (hv:s2.vs=cm s'.vs (p.1,n) ⟨p.2,kk,ks,if n<bu s p.1 then now else -1⟩) (hl:s2.ls=s'.ls):iv s s2 n (l++[p]) ks now true:=by
 have e:=h.other (p.1,n) (.inr hp)
 rw[ht]at e
 have key:∀q∈l,(q.1,n)≠(p.1,n):=fun q hq hh=>hp (List.mem_map.2 ⟨q,hq,(Prod.mk.inj hh).1⟩)
 refine⟨fun m hm=>?_,fun q hq h' hh=>?_,fun q hq hn=>?_,⟨fun _=>⟨p,by simp,e.symm⟩,fun _=>rfl⟩,hl.trans h.ls⟩
 ·simp -implicitDefEqProofs only[List.map_append,List.mem_append,not_or]at hm
  rw[hv,a0,if_neg]
  ·exact h.other m (hm.imp id (·.1))
  ·rintro rfl
   rcases hm with hm|hm
   ·exact hm rfl
   ·exact hm.2 (by simp)
 ·rw[hv,a0]
  rcases List.mem_append.1 hq with hq|hq
  ·rw[if_neg (key q hq)];exact h.gM q hq h' hh
  ·simp at hq;subst hq;rw[←e]at hh;cases hh
 ·rw[hv,a0]
  rcases List.mem_append.1 hq with hq|hq
  ·rw[if_neg (key q hq)];exact h.new q hq hn
  ·simp at hq;subst hq;rw[if_pos rfl];exact⟨kk,cd,rfl⟩
theorem oq {n:Nat}{l:List (ByteArray×ByteArray)}{ks:List ByteArray}(h:mG n l ks):∀(i j:Nat) p q,i<j→l[i]?=some p→l[j]?=some q→strLt p.1 q.1=true
 | i,0,_,_,oL,_,_=>by omega
 | i,j+1,p,q,oL,hp,hq=>by
  have hj:=(List.getElem?_eq_some_iff.1 hq).1
  obtain⟨r,hr⟩:=cF (l:=l) (i:=j) (by omega)
  have h1:=(h.2.2.2 (j+1) hj q hq).1 (by omega) r (by simpa using hr)
  by_cases e:i=j
  ·subst e;rw[hp]at hr;cases hr;exact h1
  ·exact fu (oq h i j p r (by omega) hp hr) h1
def cM (n:Int):Prop:=0≤n∧n≤1099511627776
def PC (b:Bk)(s:cB)(F:Nat→Prop)(n:Nat)(l:List (ByteArray×ByteArray))(ks:List ByteArray)(now:Int)(H:ae):Out→ae→Prop:=fun o H' =>
 ∃s' F' fr,o=.val (.bE [.bool fr,.int .i64 0])∧SH H' b s' F'∧eR s'∧iv s s' n l ks now fr∧s'.n≤s.n+l.length∧bO F H H'∧∀c,F' c→F c∨(H.length≤c∧c<H'.length)
theorem KW (b:Bk)(s:cB)(F:Nat→Prop)(n:Nat)(k k':SK)(l:List (ByteArray×ByteArray))(ks:List ByteArray)(now:Int)(H:ae)(hs:SH H b s F)(hi:eR s)(hn:s.n+l.length≤8000000)(pX:jh k' ks)(hm:mG n l ks)(ht:cM now) :
  W env (.call 14 [.ptr b.s 0,.int .u64 n,.sl k (l.map eP),.sl k' (ks.map eS),.int .i64 now]) H (PC b s F n l ks now H):=by
 have L1:=hm.2.1.2.2
 refine W.cJ rfl rfl rfl ?_
 simp -implicitDefEqProofs only[Dj,op,ef,cl,sq,reduceIte,q4,q5,q6,q7,q8,j1,j2,j3,j4,S1]
 refine af _ _ _ _ _ _ _ _ (EP n k k' l ks _ (by omega) (by omega)) ?_
 rintro u H1⟨nH,bb,hu,hb⟩
 have N1:bb=true:=hb.2 hm
 subst N1
 cases hu
 simp -implicitDefEqProofs only[op,ef,cl,sq,reduceIte,q4,q5,q6,q7,q8,j1,j2,j3,j4,S1]
 refine af _ _ _ _ _ _ _ _ (uk now _) ?_
 rintro u H1⟨hu,rfl⟩
 have BJ:(decide (0≤now)&&decide (now≤1099511627776))=true:=by simp[ht.1,ht.2]
 rw[BJ]at hu
 cases hu
 simp -implicitDefEqProofs only[op,ef,cl,sq,reduceIte,q4,q5,q6,q7,q8,j1,j2,j3,j4,S1,List.length_map]
 refine W.cZ (fun (i:Nat) R H'=>At H' (fun H'=>∃s' F' fr,R 12=.bool fr∧SH H' b s' F'∧eR s'∧iv s s' n (l.take i) ks now fr∧s'.n≤s.n+i∧bO F H H'∧∀c,F' c→F c∨(H.length≤c∧c<H'.length))∧R 0=.ptr b.s 0∧R 1=.int .u64 n∧R 3=.sl k' (ks.map eS)∧R 4=.int .i64 now∧R 29=.sl k (l.map eP)∧R 30=.int .i64 l.length∧R 31=.int .i64 i∧i≤l.length) (fun i=>l.length-i) 0 ?_ ?_
 ·obtain⟨im,pm,sa⟩:=hs
  refine⟨.i ⟨s,F,false,rfl,⟨im,pm,sa.rq (aK (F:=fun _=>False) nH) (fun _ _ _ h=>h)⟩,hi,by rw[List.take_zero];exact iv.nil s n ks now,Nat.le_refl _,aK nH,fun c h=>.inl h⟩,rfl,rfl,rfl,rfl,rfl,rfl,rfl,Nat.zero_le _⟩
 rintro i R H2⟨⟨s',F',fr,aQ,Eh,PD,qM,qf,aG,hF⟩,h0,h1,h3,h4,PE,Mw,Mx,gr⟩
 by_cases au:i<l.length
 ·obtain⟨p,hp⟩:=cF au
  have ws:=aF (show i<9223372036854775807 by omega)
  have qK:=lS (e:=eP) (n:=2) (fun _=>rfl) (by decide) (k:=k) hp
  have Mi:p.1∉(l.take i).map (·.1):=fun hh=>by
   obtain⟨q,hq,e⟩:=List.mem_map.1 hh
   obtain⟨j,hj,e2⟩:=List.getElem_of_mem hq
   have vT:j<i∧j<l.length:=by simp -implicitDefEqProofs only[List.length_take]at hj;omega
   have Um:l[j]?=some q:=by rw[←e2];simp[List.getElem?_eq_getElem vT.2]
   have:=oq hm j i q p vT.1 Um hp
   rw[e,iX]at this;cases this
  obtain⟨im,pm,sa⟩:=Eh
  have l0:=a6 sa.hs
  have lv:=a6 sa.hv
  have ll:=a6 sa.hl
  have KX:b.s<H2.length+1:=by omega
  have Un:b.s<H2.length+2:=by omega
  have Uo:b.l<H2.length+1:=by omega
  have Up:b.l<H2.length+2:=by omega
  have Uq:b.v<H2.length+1:=by omega
  have jv:=fun Hx z ok=>kf sP z ok Hx (dC s'.vs) (p.1,n)
  simp -implicitDefEqProofs only[kN,eN]at jv
  have lW:gY (ah (dC s'.vs) (p.1,n)) (.agg [.str ⟨#[]⟩,.sl .nil [],.int .i64 0]) true=.bE [dy (mH (ah s'.vs (p.1,n))),.bool (ah s'.vs (p.1,n)).isSome]:=by
   unfold dC;rw[gF]
   cases ah s'.vs (p.1,n)<;>rfl
  have oG:=sU s' p.1
  have Ur:∀k,bu s' k=bu s k:=fun k=>by simp -implicitDefEqProofs only[bu,qM.ls]
  rw[Ur]at oG
  cases e:ah s'.vs (p.1,n)with
  | some h =>
   rw[e]at lW
   simp -implicitDefEqProofs only[Option.isSome_some]at lW
   simp -implicitDefEqProofs only[op,ef,cl,sq,reduceIte,q4,q5,q6,q7,q8,j1,j2,j3,j4,S1,S2,S3,List.length_set,h0,h1,h3,h4,PE,Mw,Mx,au,aa,qK,eP,sa.hs,sa.hv,l0,lv,jv,lW,dy,ws]
   exact⟨i+1,by omega,.i ⟨s',F',fr,aQ,⟨im,pm,sa.rq (aK (F:=fun _=>False) (((Ext.rfl'.app _).app _).app _)) (fun _ _ _ h=>h)⟩,PD,by rw[bA hp];exact qM.there Mi e,by omega,((aG.app _).app _).app _,fun c h=>(hF c h).imp id fun h=>⟨h.1,by have:=h.2;simp;omega⟩⟩,rfl,by omega⟩
  | none =>
   rw[e]at lW
   simp -implicitDefEqProofs only[Option.isSome_none]at lW
   by_cases iK:n<bu s p.1
   all_goals
    simp -implicitDefEqProofs only[op,ef,cl,sq,reduceIte,q4,q5,q6,q7,q8,j1,j2,j3,j4,S1,S2,S3,List.length_set,h0,h1,h3,h4,PE,Mw,Mx,au,aa,qK,eP,sa.hs,sa.hv,sa.hl,l0,KX,Un,lv,Uq,ll,Uo,Up,jv,lW,dy,iY,oG,iK]
    refine af _ _ _ _ _ _ _ _ (vQ k' ks _ pX (by omega)) ?_
    rintro u H3⟨hx,kk,cd,hu⟩
    cases hu
    have c0:H3[H2.length]?=some (.cells [.str p.1,.str p.2]):=hx.get (by rw[aM (by simp<;>omega),aM (by simp),aZ rfl])
    have c1:H3[H2.length+1]?=some (.cells [.str p.1,.int .u64 n]):=hx.get (by rw[aM (by simp),aZ (by simp)])
    have o0:Ext H2 H3:=((((Ext.rfl'.app _).app _).app _).trans hx)
    simp -implicitDefEqProofs only[op,ef,cl,sq,reduceIte,q4,q5,q6,q7,q8,j1,j2,j3,j4,S1,c0,c1]
    refine af _ _ _ _ _ _ _ _ (KR b s' F' p.1 n ⟨p.2,kk,ks,_⟩ _ ⟨im,pm,sa.rq (aK (F:=fun _=>False) o0) (fun _ _ _ h=>h)⟩ PD e (by omega) ⟨cd,by omega⟩) ?_
    rintro u H4⟨hu,s2,F2,PF,PG,gP,KY,Ea,o3,Us⟩
    cases hu
    have Ri:iv s s2 n (l.take i++[p]) ks now true:=qM.add (kk:=kk) Mi cd e (by first|rw[if_pos iK];exact gP|rw[if_neg iK];exact gP) KY
    rw[←bA hp]at Ri
    simp -implicitDefEqProofs only[op,ef,cl,sq,reduceIte,q4,q5,q6,q7,q8,j1,j2,j3,j4,S1,h0,h1,h3,h4,PE,Mw,Mx,ws]
    exact⟨i+1,by omega,.i ⟨s2,F2,true,rfl,PF,PG,Ri,by omega,(aG.trans (aK (F:=fun _=>False) o0) (fun c h=>h.elim)).trans o3 (fun c h=>(hF c h).imp id (·.1)),fun c h=>by
     have q1:=aG.1
     have q2:=o0.len
     have q3:=o3.1
     rcases Us c h with h|h
     ·rcases hF c h with h|h
      ·exact .inl h
      ·exact .inr ⟨h.1,by omega⟩
     ·exact .inr ⟨by omega,h.2⟩⟩,rfl,by omega⟩
 ·have lV:i=l.length:=by omega
  subst lV
  rw[List.take_length]at qM
  simp -implicitDefEqProofs only[op,ef,cl,sq,reduceIte,q4,q5,q6,q7,q8,j1,j2,j3,j4,S1,aQ,Mw,Mx,au]
  exact⟨s',F',fr,rfl,Eh,PD,qM,qf,aG,hF⟩
theorem pW.PH {H:ae}{b:Bk}{im:List (ByteArray×T)}{pm:List (Nat×T)}{s:cB}{F:Nat→Prop}(h:pW H b im pm s F)(vs:List (Nm×Hd)):pW (H.set b.v (.map (bo kN (dC vs)))) b im pm { s with vs:=vs } F:=by
 obtain⟨n1,n2,n3,n4⟩:=h.ne
 have k:∀{c x},c≠b.v→H[c]?=some x→(H.set b.v (.map (bo kN (dC vs))))[c]?=some x:=fun hc hx=>by rw[bN (Ne.symm hc)];exact hx
 exact⟨k (Ne.symm n1) h.hs,cK (a6 h.hv),k (Ne.symm h.vi) h.hi,k (Ne.symm h.vp) h.hp,k (Ne.symm h.vl) h.hl,h.vi,h.vp,h.vl,h.ip,h.il,h.pl,h.F0,
  fun q=>(h.oi q).cP (fun c x hc hx=>k (h.gp hc).2.1 hx) (fun _ _ h=>h),fun q=>(h.op q).cP (fun c x hc hx=>k (h.iu hc).2.1 hx) (fun _ _ h=>h),h.si,h.sp,h.sx,h.np⟩
theorem pW.PI {H:ae}{b:Bk}{im:List (ByteArray×T)}{pm:List (Nat×T)}{s:cB}{F:Nat→Prop}(h:pW H b im pm s F)(ls:List (ByteArray×Nat)):pW (H.set b.l (.map (bo T.str (uq ls)))) b im pm { s with ls:=ls } F:=by
 obtain⟨n1,n2,n3,n4⟩:=h.ne
 have k:∀{c x},c≠b.l→H[c]?=some x→(H.set b.l (.map (bo T.str (uq ls))))[c]?=some x:=fun hc hx=>by rw[bN (Ne.symm hc)];exact hx
 exact⟨k (Ne.symm n4) h.hs,k h.vl h.hv,k h.il h.hi,k h.pl h.hp,cK (a6 h.hl),h.vi,h.vp,h.vl,h.ip,h.il,h.pl,h.F0,
  fun q=>(h.oi q).cP (fun c x hc hx=>k (h.gp hc).2.2.2.2.1 hx) (fun _ _ h=>h),fun q=>(h.op q).cP (fun c x hc hx=>k (h.iu hc).2.2.2.2.1 hx) (fun _ _ h=>h),h.si,h.sp,h.sx,h.np⟩
def stamped (h:Hd)(now:Int):Hd:={ h with bh:=now }
def VS (v v':List (Nm×Hd))(now:Int)(S:Nm→Prop):Prop:=(v'.map (·.1)).Nodup∧∀m,(ah v m=none→ah v' m=none)∧∀h,ah v m=some h→(S m∧h.bh=-1→ah v' m=some (stamped h now))∧(¬(S m∧h.bh=-1)→ah v' m=some h)
theorem VS.some {v v':List (Nm×Hd)}{now:Int}{S:Nm→Prop}(h:VS v v' now S)(m:Nm):(ah v' m).isSome=(ah v m).isSome:=by
 obtain⟨h1,h2⟩:=h.2 m
 cases e:ah v m with
 | none=>rw[h1 e]
 | some x =>
  by_cases hc:S m∧x.bh=-1
  ·rw[(h2 x e).1 hc];rfl
  ·rw[(h2 x e).2 hc]
theorem VS.inv {s:cB}(hi:eR s){v':List (Nm×Hd)}{now:Int}{S:Nm→Prop}(h:VS s.vs v' now S)(ls:List (ByteArray×Nat))(KY:(ls.map (·.1)).Nodup):eR { s with vs:=v',ls:=ls }:=by
 refine⟨hi.sS,fun k n=>?_,hi.ER,fun n k=>?_,h.1,fun m x hm=>?_,hi.bi,hi.bp,KY⟩
 ·show n∈s.ids k↔(ah v' (k,n)).isSome=true
  rw[h.some];exact hi.BG k n
 ·show k∈s.dz n↔(ah v' (k,n)).isSome=true
  rw[h.some];exact hi.BH n k
 ·have hm:ah v' m=.some x:=hm
  obtain⟨h1,h2⟩:=h.2 m
  cases e:ah s.vs m with
  | none=>rw[h1 e]at hm;cases hm
  | some y =>
   have hy:=hi.Mu m y e
   by_cases hc:S m∧y.bh=-1
   ·rw[(h2 y e).1 hc]at hm;cases hm;exact hy
   ·rw[(h2 y e).2 hc]at hm;cases hm;exact hy
theorem VS.nil {v:List (Nm×Hd)}(hn:(v.map (·.1)).Nodup){now:Int}:VS v v now (fun _=>False):=⟨hn,fun m=>⟨id,fun h e=>⟨fun hh=>hh.1.elim,fun _=>e⟩⟩⟩
theorem VS.mono {v v':List (Nm×Hd)}{now:Int}{S S':Nm→Prop}(h:VS v v' now S)(hs:∀m,(ah v m).isSome=true→(S m↔S' m)):VS v v' now S':=⟨h.1,fun m=>⟨(h.2 m).1,fun x e=>by
 have:=hs m (by rw[e];rfl)
 rw[←this];exact(h.2 m).2 x e⟩⟩
theorem VS.add {v v':List (Nm×Hd)}{now:Int}{S:Nm→Prop}(h:VS v v' now S){m:Nm}{x:Hd}(hx:ah v' m=.some x)(hc:x.bh=-1)(hS:¬S m):VS v (cm v' m (stamped x now)) now (fun m'=>S m'∨m'=m):=by
 refine⟨cA h.1 _ _,fun m'=>?_⟩
 rw[a0]
 by_cases e:m'=m
 ·subst e
  simp -implicitDefEqProofs only[if_true]
  have e2:=h.some m'
  rw[hx]at e2
  refine⟨fun hn=>(by rw[hn]at e2;cases e2),fun y hy=>?_⟩
  have:y=x:=by
   have:=((h.2 m').2 y hy).2 fun hh=>hS hh.1
   rw[hx]at this;exact(Option.some.inj this).symm
  subst this
  exact⟨fun _=>rfl,fun hh=>absurd ⟨.inr trivial,hc⟩ hh⟩
 ·simp -implicitDefEqProofs only[e,if_false,or_false]
  exact h.2 m'
theorem VS.skip {v v':List (Nm×Hd)}{now:Int}{S:Nm→Prop}(h:VS v v' now S){m:Nm}{x:Hd}(hx:ah v' m=.some x)(hc:x.bh≠-1)(hS:¬S m):VS v v' now (fun m'=>S m'∨m'=m):=by
 refine⟨h.1,fun m'=>⟨(h.2 m').1,fun y hy=>?_⟩⟩
 by_cases e:m'=m
 ·subst e
  have:=((h.2 m').2 y hy).2 fun hh=>hS hh.1
  have e2:y=x:=by rw[hx]at this;exact(Option.some.inj this).symm
  subst e2
  exact⟨fun hh=>absurd hh.2 hc,fun _=>hx⟩
 ·simp -implicitDefEqProofs only[e,or_false]
  exact(h.2 m').2 y hy
structure o4 (s s':cB)(n:Nat)(now:Int)(D:List ByteArray):Prop where
 vs:VS s.vs s'.vs now (fun m=>m.1∈D∧bu s m.1<n∧m.2<n)
 on:∀k,k∈D→bu s k<n→ah s'.ls k=.some n
 off:∀k,¬(k∈D∧bu s k<n)→ah s'.ls k=ah s.ls k
 Hl:(s.ls.map (·.1)).Nodup→(s'.ls.map (·.1)).Nodup
def PJ (b:Bk)(s:cB)(F:Nat→Prop)(n:Nat)(now:Int)(H:ae):Out→ae→Prop:=fun o H'=>∃s',o=.val (.bE [.int .i64 (s.dz n).length,.int .i64 0])∧SH H' b s' F∧eR s'∧o4 s s' n now (s.dz n)∧s'.n=s.n∧s'.dz=s.dz∧s'.ids=s.ids∧bO F H H'
theorem o4.skip {s s':cB}{n:Nat}{now:Int}{D:List ByteArray}(h:o4 s s' n now D){k:ByteArray}(hk:n≤bu s k):o4 s s' n now (D++[k]):=by
 have key:∀k',k'∈D++[k]∧bu s k'<n→k'∈D:=fun k' hh=>by
  rcases List.mem_append.1 hh.1 with h|h
  ·exact h
  ·simp at h;subst h;omega
 exact⟨h.vs.mono fun m _=>⟨fun hh=>⟨List.mem_append_left _ hh.1,hh.2⟩,fun hh=>⟨key _ ⟨hh.1,hh.2.1⟩,hh.2⟩⟩,fun k' h1 h2=>h.on k' (key _ ⟨h1,h2⟩) h2,fun k' hh=>h.off k' fun h'=>hh ⟨List.mem_append_left _ h'.1,h'.2⟩,h.Hl⟩
theorem o4.add {s s' s2:cB}{n:Nat}{now:Int}{D:List ByteArray}(h:o4 s s' n now D){k:ByteArray}(hk:bu s k<n)(hl:s2.ls=cm s'.ls k n)
  (hv:VS s.vs s2.vs now (fun m=>(m.1∈D∧bu s m.1<n∧m.2<n)∨(m.1=k∧m.2<n))):o4 s s2 n now (D++[k]):=by
 refine⟨hv.mono fun m _=>?_,fun k' h1 h2=>?_,fun k' hh=>?_,fun hh=>by rw[hl];exact cA (h.Hl hh) _ _⟩
 ·simp -implicitDefEqProofs only[List.mem_append,List.mem_singleton]
  constructor
  ·rintro (⟨a,b,c⟩|⟨a,c⟩)
   ·exact⟨.inl a,b,c⟩
   ·exact⟨.inr a,by rw[a];exact hk,c⟩
  ·rintro⟨a|a,b,c⟩
   ·exact .inl ⟨a,b,c⟩
   ·exact .inr ⟨a,c⟩
 ·rw[hl,a0]
  by_cases e:k'=k
  ·rw[if_pos e]
  ·rw[if_neg e];exact h.on k' (by simpa[e]using h1) h2
 ·rw[hl,a0,if_neg]
  ·exact h.off k' fun h'=>hh ⟨List.mem_append_left _ h'.1,h'.2⟩
  ·rintro rfl;exact hh ⟨by simp,hk⟩
theorem AX (b:Bk)(s:cB)(F:Nat→Prop)(n:Nat)(now:Int)(H:ae)(hs:SH H b s F)(hi:eR s)(hn:s.n≤8000000)(Rj:65536≤n)(ht:cM now) :
  W env (.call 18 [.ptr b.s 0,.int .u64 n,.int .i64 now]) H (PJ b s F n now H):=by
 obtain⟨im,pm,sa⟩:=hs
 have PK:¬(n<65536):=by omega
 obtain⟨t,BJ⟩:∃t,gY (ah pm n) (.sl .nil []) false=t:=⟨_,rfl⟩
 have au:=((sa.op n).mut).len
 rw[BJ]at au
 have VM:=hi.bp n
 refine W.cJ rfl rfl rfl ?_
 simp -implicitDefEqProofs only[Gt,op,ef,cl,sq,reduceIte,q4,q5,q6,q7,q8,j1,j2,j3,j4,S1,PK]
 refine af _ _ _ _ _ _ _ _ (uk now _) ?_
 rintro u H⟨hu,rfl⟩
 have Hk:(decide (0≤now)&&decide (now≤1099511627776))=true:=by simp[ht.1,ht.2]
 rw[Hk]at hu
 cases hu
 simp -implicitDefEqProofs only[op,ef,cl,sq,reduceIte,q4,q5,q6,q7,q8,j1,j2,j3,j4,S1,sa.hs,sa.hp,gZ,BJ]
 have hl:=fun Hx (h:dM eS 1 0 Hx t (s.dz n))=>h.len
 have My:∀Hx,ey Hx .sl t=some (s.dz n).length:=fun Hx=>by
  have:=(sa.op n).mut
  rw[BJ]at this
  rcases this with⟨e,rfl⟩|⟨c,rfl,_,_⟩
  ·rw[e];rfl
  ·rfl
 simp -implicitDefEqProofs only[op,ef,cl,sq,reduceIte,q4,q5,q6,q7,q8,j1,j2,j3,j4,S1,My]
 refine W.cZ (fun (i:Nat) R H'=>At H' (fun H'=>∃s',pW H' b im pm s' F∧s'.n=s.n∧s'.dz=s.dz∧s'.ids=s.ids∧o4 s s' n now ((s.dz n).take i)∧bO F H H')∧R 0=.ptr b.s 0∧R 1=.int .u64 n∧R 2=.int .i64 now∧R 25=t∧R 26=.int .i64 (s.dz n).length∧R 27=.int .i64 i∧i≤(s.dz n).length) (fun i=>(s.dz n).length-i) 0 ?_ ?_
 ·refine⟨.i ⟨s,sa,rfl,rfl,rfl,⟨(VS.nil hi.nd).mono fun m _=>⟨fun h=>h.elim,fun h=>by simp at h⟩,by simp,fun _ _=>rfl,id⟩,bO.refl _ _⟩,?_,?_,?_,?_,?_,?_,Nat.zero_le _⟩
  all_goals (simp -implicitDefEqProofs only[op,ef,cl,sq,reduceIte,q4,q5,q6,q7,q8,j1,j2,j3,j4,S1];try rfl)
 rintro i R H2⟨⟨s',BK,Fh,uZ,Dy,rK,aG⟩,h0,h1,h2,PL,Mz,MA,gr⟩
 by_cases au:i<(s.dz n).length
 ·obtain⟨k,hk⟩:=cF au
  have ws:=aF (show i<9223372036854775807 by omega)
  have Dw:dM eS 1 0 H2 t (s.dz n):=by
   have:=(BK.op n).mut
   rwa[BJ,uZ]at this
  obtain⟨c,g1,g2,g3⟩:=lU (enc:=eS) (fun _=>rfl) Dw hk
  have AY:k∉(s.dz n).take i:=fun hh=>by
   obtain⟨j,hj,e2⟩:=List.getElem_of_mem hh
   have vT:j<i∧j<(s.dz n).length:=by simp -implicitDefEqProofs only[List.length_take]at hj;omega
   have Ko:(s.dz n)[j]?=some k:=by rw[←e2];simp[List.getElem?_eq_getElem vT.2]
   have:=(List.getElem?_inj vT.2 (hi.ER n)).1 (Ko.trans hk.symm)
   omega
  have jv:=sU s' k
  have KY:bu s' k=bu s k:=by unfold bu;rw[rK.off k fun h=>AY h.1]
  rw[KY]at jv
  by_cases fN:n≤bu s k
  ·simp -implicitDefEqProofs only[op,ef,cl,sq,reduceIte,q4,q5,q6,q7,q8,j1,j2,j3,j4,S1,h0,h1,h2,PL,Mz,MA,au,aa,g1,g2,g3,eS,BK.hs,BK.hl,iY,jv,fN,ws]
   exact⟨i+1,by omega,.i ⟨s',BK,Fh,uZ,Dy,by rw[bA hk];exact rK.skip fN,aG⟩,rfl,by omega⟩
  ·have PM:bu s k<n:=by omega
   have PN:∀Hx,sF (.sc .str) Hx b.l (some (.map (bo T.str (uq s'.ls)))) (.str k) (.int .u64 n)=some (bq,Hx.set b.l (.map (bo T.str (uq (cm s'.ls k n))))):=fun Hx=>by
    rw[oc];congr 4;exact congrArg (bo T.str) (oo (fun n:Nat=>T.int .u64 n) s'.ls k n)
   have AZ:=BK.PI (cm s'.ls k n)
   obtain⟨t2,Hp⟩:∃t2,gY (ah im k) (.sl .nil []) false=t2:=⟨_,rfl⟩
   have KZ:∀Hx,ey Hx .sl t2=some (s.ids k).length:=fun Hx=>by
    have:=(sa.oi k).mut
    rw[Hp]at this
    rcases this with⟨e,rfl⟩|⟨c,rfl,_,_⟩
    ·rw[e];rfl
    ·rfl
   simp -implicitDefEqProofs only[op,ef,cl,sq,reduceIte,q4,q5,q6,q7,q8,j1,j2,j3,j4,S1,h0,h1,h2,PL,Mz,MA,au,aa,g1,g2,g3,eS,BK.hs,BK.hl,iY,jv,fN,PN,AZ.hs,AZ.hi,Hp,KZ]
   refine W.eZ 2 (fun (j:Nat) R H'=>At H' (fun H'=>∃v',pW H' b im pm { s' with vs:=v',ls:=cm s'.ls k n } F∧VS s.vs v' now (fun m=>(m.1∈(s.dz n).take i∧bu s m.1<n∧m.2<n)∨(m.1=k∧m.2∈(s.ids k).take j))∧bO F H H')∧R 0=.ptr b.s 0∧R 1=.int .u64 n∧R 2=.int .i64 now∧R 9=.str k∧R 25=t∧R 26=.int .i64 (s.dz n).length∧R 27=.int .i64 i∧R 50=t2∧R 51=.int .i64 (s.ids k).length∧R 52=.int .i64 j∧j≤(s.ids k).length∧∀p a,p<j→(s.ids k)[p]?=some a→a<n) (fun j=>(s.ids k).length-j) 0
    (fun R H'=>At H' (fun H'=>∃v',pW H' b im pm { s' with vs:=v',ls:=cm s'.ls k n } F∧VS s.vs v' now (fun m=>(m.1∈(s.dz n).take i∧bu s m.1<n∧m.2<n)∨(m.1=k∧m.2<n))∧bO F H H')∧R 0=.ptr b.s 0∧R 1=.int .u64 n∧R 2=.int .i64 now∧R 25=t∧R 26=.int .i64 (s.dz n).length∧R 27=.int .i64 i) ?_ ?_ ?_
   ·refine⟨.i ⟨s'.vs,AZ,rK.vs.mono fun m _=>⟨.inl,fun h=>h.elim id fun h=>by simp at h⟩,aG.set (.inl sa.F0.2.2.2.2) _⟩,?_,?_,?_,?_,?_,?_,?_,?_,?_,?_,Nat.zero_le _,fun p a h=>by omega⟩
    all_goals (simp -implicitDefEqProofs only[op,ef,cl,sq,reduceIte,q4,q5,q6,q7,q8,j1,j2,j3,j4,S1,h0,h1,h2,PL,Mz,MA,KZ];try rfl)
   ·rintro j R H3⟨⟨v',xA,gP,xB⟩,q0,q1,q2,q9,IZ,I0,I1,MB,MC,MD,IE,dI⟩
    by_cases hj:j<(s.ids k).length
    ·obtain⟨o,ho⟩:=cF hj
     have wj:=aF (show j<9223372036854775807 by have:=hi.bi k;omega)
     have Dx:dM eU 1 0 H3 t2 (s.ids k):=by
      have:=(xA.oi k).mut
      simp -implicitDefEqProofs only[Dy]at this
      rwa[Hp]at this
     obtain⟨c2,e1,e2,e3⟩:=lU (enc:=eU) (fun _=>rfl) Dx ho
     by_cases IG:n≤o
     ·simp -implicitDefEqProofs only[op,ef,cl,sq,reduceIte,q4,q5,q6,q7,q8,j1,j2,j3,j4,S1,q0,q1,q2,q9,IZ,I0,I1,MB,MC,MD,hj,aa,e1,e2,e3,eU,IG]
      refine⟨v',xA,gP.mono fun m hm=>?_,xB⟩
      refine or_congr Iff.rfl ⟨fun ⟨a1,a2⟩=>⟨a1,?_⟩,fun ⟨a1,a2⟩=>⟨a1,?_⟩⟩
      ·obtain⟨p,hp,e⟩:=List.getElem_of_mem a2
       have mB:p<j∧p<(s.ids k).length:=by simp -implicitDefEqProofs only[List.length_take]at hp;omega
       exact dI p m.2 mB.1 (by rw[←e];simp[List.getElem?_eq_getElem mB.2])
      ·have ib:=(hi.BG k m.2).2 (by rw[←a1];exact hm)
       obtain⟨p,hp,e⟩:=List.getElem_of_mem ib
       have I2:(s.ids k)[p]?=some m.2:=by rw[List.getElem?_eq_getElem hp,e]
       rcases Nat.lt_trichotomy p j with h|h|h
       ·exact List.mem_of_getElem? (i:=p) (by rw[List.getElem?_take,if_pos h];exact I2)
       ·subst h;rw[ho]at I2;cases I2;omega
       ·have:=hi.sS k j p o m.2 h ho I2;omega
     ·have u6:=(hi.BG k o).1 (List.mem_of_getElem? ho)
      rw[←gP.some]at u6
      obtain⟨x,hx⟩:=Option.isSome_iff_exists.1 u6
      have lW:=ur v' (k,o)
      rw[hx]at lW
      have Hq:=fun Hx z ok=>kf sP z ok Hx (dC v') (k,o)
      simp -implicitDefEqProofs only[kN,eN]at Hq
      have Rk:¬(((k,o):Nm).1∈(s.dz n).take i∧bu s ((k,o):Nm).1<n∧((k,o):Nm).2<n∨((k,o):Nm).1=k∧((k,o):Nm).2∈(s.ids k).take j):=by
       rintro (hh|⟨_,hh⟩)
       ·exact AY hh.1
       ·obtain⟨p,hp,e⟩:=List.getElem_of_mem hh
        have mB:p<j∧p<(s.ids k).length:=by simp -implicitDefEqProofs only[List.length_take]at hp;omega
        have e:((s.ids k).take j)[p]=o:=e
        have I2:(s.ids k)[p]?=some o:=by rw[←e];simp[List.getElem?_eq_getElem mB.2]
        have:=hi.sS k p j o o mB.1 I2 ho;omega
      have Rl:∀m:Nm,(((m.1∈(s.dz n).take i∧bu s m.1<n∧m.2<n)∨(m.1=k∧m.2∈(s.ids k).take j))∨m=(k,o))↔((m.1∈(s.dz n).take i∧bu s m.1<n∧m.2<n)∨(m.1=k∧m.2∈(s.ids k).take (j+1))):=fun m=>by
       rw[bA ho,List.mem_append,List.mem_singleton,or_assoc]
       refine or_congr Iff.rfl ?_
       constructor
       ·rintro (⟨a1,a2⟩|rfl)
        ·exact⟨a1,.inl a2⟩
        ·exact⟨rfl,.inr rfl⟩
       ·rintro⟨a1,a2|a2⟩
        ·exact .inl ⟨a1,a2⟩
        ·exact .inr (Prod.ext a1 a2)
      have jH:∀p a,p<j+1→(s.ids k)[p]?=some a→a<n:=fun p a hp ha=>by
       by_cases e:p=j
       ·subst e;rw[ho]at ha;cases ha;omega
       ·exact dI p a (by omega) ha
      have l0:=a6 xA.hs
      have lv:=a6 xA.hv
      have KS:=fun Hx v=>qC sP Hx b.v (dC v') (k,o) v
      simp -implicitDefEqProofs only[kN,eN]at KS
      by_cases cn:x.bh=-1
      ·simp -implicitDefEqProofs only[op,ef,cl,sq,reduceIte,q4,q5,q6,q7,q8,j1,j2,j3,j4,S1,S2,S3,List.length_set,q0,q1,q2,q9,IZ,I0,I1,MB,MC,MD,hj,aa,e1,e2,e3,eU,IG,xA.hs,xA.hv,Hq,lW,mH,Option.getD_some,dy,cn,l0,lv,KS,wj]
       have e:cm (dC v') (k,o) (T.agg [T.str x.value,T.sl x.kk (x.keys.map eS),T.int IntKind.i64 now])=dC (cm v' (k,o) (stamped x now)):=oo dy v' (k,o) (stamped x now)
       rw[e]
       exact⟨j+1,by omega,.i ⟨_,(xA.PH (cm v' (k,o) (stamped x now))).rq (aK (F:=fun _=>False) (Ext.rfl'.app _)) (fun _ _ _ h=>h),(gP.add hx cn Rk).mono fun m _=>Rl m,(xB.set (.inl sa.F0.2.1) _).app _⟩,rfl,by omega,jH⟩
      ·have uv:(x.bh==-1)=false:=by simpa using cn
       simp -implicitDefEqProofs only[op,ef,cl,sq,reduceIte,q4,q5,q6,q7,q8,j1,j2,j3,j4,S1,S2,S3,List.length_set,q0,q1,q2,q9,IZ,I0,I1,MB,MC,MD,hj,aa,e1,e2,e3,eU,IG,xA.hs,xA.hv,Hq,lW,mH,Option.getD_some,dy,uv,l0,lv,wj]
       exact⟨j+1,by omega,.i ⟨v',xA.rq (aK (F:=fun _=>False) (Ext.rfl'.app _)) (fun _ _ _ h=>h),(gP.skip hx cn Rk).mono fun m _=>Rl m,xB.app _⟩,rfl,by omega,jH⟩
    ·have Ut:j=(s.ids k).length:=by omega
     subst Ut
     simp -implicitDefEqProofs only[op,ef,cl,sq,reduceIte,q4,q5,q6,q7,q8,j1,j2,j3,j4,S1,q0,q1,q2,q9,IZ,I0,I1,MB,MC,MD,hj]
     refine⟨v',xA,gP.mono fun m hm=>?_,xB⟩
     rw[List.take_length]
     refine or_congr Iff.rfl ⟨fun ⟨a1,a2⟩=>⟨a1,?_⟩,fun ⟨a1,a2⟩=>⟨a1,(hi.BG k m.2).2 (by rw[←a1];exact hm)⟩⟩
     obtain⟨p,hp,e⟩:=List.getElem_of_mem a2
     exact dI p m.2 hp (by rw[List.getElem?_eq_getElem hp,e])
   ·rintro R H3⟨⟨v',xA,gP,xB⟩,q0,q1,q2,IZ,I0,I1⟩
    simp -implicitDefEqProofs only[op,ef,cl,sq,reduceIte,q4,q5,q6,q7,q8,j1,j2,j3,j4,S1,q0,q1,q2,IZ,I0,I1,ws]
    exact⟨i+1,by omega,.i ⟨_,xA,Fh,uZ,Dy,by rw[bA hk];exact rK.add PM rfl gP,xB⟩,rfl,by omega⟩
 ·have lV:i=(s.dz n).length:=by omega
  subst lV
  rw[List.take_length]at rK
  simp -implicitDefEqProofs only[op,ef,cl,sq,reduceIte,q4,q5,q6,q7,q8,j1,j2,j3,j4,S1,h0,h1,Mz,MA,au,BK.hs,BK.hp,gZ,BJ,My]
  exact⟨s',rfl,⟨im,pm,BK⟩,(rK.vs.inv hi s'.ls (rK.Hl hi.Hl)) |> fun h=>(by have e:s'={ s with vs:=s'.vs,ls:=s'.ls }:=(by cases s';cases s;simp_all);rw[e];exact h),rK,Fh,uZ,Dy,aG⟩
section
variable {α β γ:Type} [DecidableEq α]
theorem lX (e:α×β)(es:List (α×β))(k:α):jz (e :: es) k=if k=e.1 then es else e :: jz es k:=by
 unfold jz
 rw[List.findIdx?_cons]
 by_cases hk:k=e.1
 ·simp[hk]
 ·simp -implicitDefEqProofs only[hk,decide_false,if_false,Bool.false_eq_true]
  cases List.findIdx? (fun e=>decide (k=e.1)) es<;>simp
theorem A0 (f:β→γ)(es:List (α×β))(k:α):jz (es.map fun e=>(e.1,f e.2)) k=(jz es k).map fun e=>(e.1,f e.2):=by
 induction es with
 | nil=>rfl
 | cons e es ih=>simp -implicitDefEqProofs only[List.map_cons,lX,ih];split<;>simp
theorem gG {es:List (α×β)}(h:(es.map (·.1)).Nodup)(k k':α):ah (jz es k) k'=if k'=k then none else ah es k':=by
 induction es with
 | nil=>simp[jz,cI]
 | cons e es ih =>
  rw[List.map_cons,List.nodup_cons]at h
  rw[lX]
  by_cases hk:k=e.1
  ·subst hk
   by_cases jJ:k'=e.1
   ·subst jJ;simp -implicitDefEqProofs only[if_true];exact cX.2 h.1
   ·simp[bz,jJ]
  ·simp -implicitDefEqProofs only[hk,if_false,bz,ih h.2]
   by_cases jJ:k'=e.1
   ·subst jJ;simp[Ne.symm hk]
   ·simp[jJ]
theorem uw {es:List (α×β)}(h:(es.map (·.1)).Nodup)(k:α):((jz es k).map (·.1)).Nodup:=by
 induction es with
 | nil=>simp[jz]
 | cons e es ih =>
  rw[List.map_cons,List.nodup_cons]at h
  rw[lX];split
  ·exact h.2
  ·rw[List.map_cons,List.nodup_cons]
   refine⟨fun hm=>h.1 ?_,ih h.2⟩
   have:ah (jz es k) e.1≠none:=fun hn=>cX.1 hn hm
   rw[gG h.2]at this
   split at this
   ·exact absurd rfl this
   ·exact Classical.byContradiction fun hh=>this (cX.2 hh)
end
theorem sV {α:Type}[DecidableEq α]{l:List α}{x a:α}:a∈cW l x↔a∈l∧a≠x:=by simp[cW]
theorem sW {α:Type}[DecidableEq α](l:List α)(x:α):(cW l x).length≤l.length:=List.length_filter_le ..
def cB.drop (s:cB)(k:ByteArray)(n:Nat):cB:=⟨jz s.vs (k,n),s.ls,fun k'=>if k'=k then cW (s.ids k) n else s.ids k',fun n'=>if n'=n then cW (s.dz n) k else s.dz n',s.n⟩
theorem eR.drop {s:cB}(hi:eR s)(k:ByteArray)(n:Nat):eR (s.drop k n):=by
 refine⟨fun k'=>?_,fun k' n'=>?_,fun n'=>?_,fun n' k'=>?_,uw hi.nd _,fun m h hm=>?_,fun k'=>?_,fun n'=>?_,hi.Hl⟩
 ·simp -implicitDefEqProofs only[cB.drop];split
  ·exact qL.2 ((qL.1 (hi.sS k)).sublist List.filter_sublist)
  ·exact hi.sS k'
 ·simp -implicitDefEqProofs only[cB.drop,gG hi.nd]
  by_cases e:k'=k
  ·subst e
   simp -implicitDefEqProofs only[if_true,sV,hi.BG,Prod.mk.injEq,true_and]
   by_cases e2:n'=n<;>simp[e2]
  ·simp[e,hi.BG]
 ·simp -implicitDefEqProofs only[cB.drop];split
  ·exact(hi.ER n).sublist List.filter_sublist
  ·exact hi.ER n'
 ·simp -implicitDefEqProofs only[cB.drop,gG hi.nd]
  by_cases e:n'=n
  ·subst e
   simp -implicitDefEqProofs only[if_true,sV,hi.BH,Prod.mk.injEq,and_true]
   by_cases e2:k'=k<;>simp[e2]
  ·simp[e,hi.BH]
 ·simp -implicitDefEqProofs only[cB.drop,gG hi.nd]at hm
  split at hm
  ·cases hm
  ·exact hi.Mu m h hm
 ·have:=hi.bi k'
  simp -implicitDefEqProofs only[cB.drop];split
  ·rename_i e;subst e;exact Nat.le_trans (sW _ _) this
  ·exact this
 ·have:=hi.bp n'
  simp -implicitDefEqProofs only[cB.drop];split
  ·rename_i e;subst e;exact Nat.le_trans (sW _ _) this
  ·exact this
def K0 (b:Bk)(s:cB)(F:Nat→Prop)(k:ByteArray)(n:Nat)(H:ae):Out→ae→Prop:=fun o H' =>
 (ah s.vs (k,n)=none∧o=.val (.int .i64 110)∧Ext H H')∨(∃h,ah s.vs (k,n)=some h∧h.bh=-1∧o=.val (.int .i64 1)∧Ext H H') ∨
 ∃h,ah s.vs (k,n)=some h∧h.bh≠-1∧o=.val (.int .i64 0)∧SH H' b (s.drop k n) F∧bO F H H'
theorem Hr (b:Bk)(s:cB)(F:Nat→Prop)(k:ByteArray)(n:Nat)(H:ae)(hs:SH H b s F)(hi:eR s)(hn:s.n≤8000000) :
  W env (.call 31 [.ptr b.s 0,.str k,.int .u64 n]) H (K0 b s F k n H):=by
 obtain⟨im,pm,sa⟩:=hs
 have l0:=a6 sa.hs
 have lv:=a6 sa.hv
 have KX:b.s<H.length+1:=by omega
 have jv:=fun Hx z ok=>kf sP z ok Hx (dC s.vs) (k,n)
 simp -implicitDefEqProofs only[kN,eN]at jv
 have lW:gY (ah (dC s.vs) (k,n)) (.agg [.str ⟨#[]⟩,.sl .nil [],.int .i64 0]) true=.bE [dy (mH (ah s.vs (k,n))),.bool (ah s.vs (k,n)).isSome]:=by
  unfold dC;rw[gF]
  cases ah s.vs (k,n)<;>rfl
 refine W.cJ rfl rfl rfl ?_
 cases e:ah s.vs (k,n)with
 | none =>
  rw[e]at lW
  simp -implicitDefEqProofs only[Option.isSome_none]at lW
  simp -implicitDefEqProofs only[AL,op,ef,cl,sq,reduceIte,q4,q5,q6,q7,q8,j1,j2,j3,j4,S1,S2,S3,List.length_set,sa.hs,sa.hv,l0,KX,lv,jv,lW,dy]
  exact .inl ⟨e,rfl,((Ext.rfl'.app _).app _)⟩
 | some h =>
  rw[e]at lW
  simp -implicitDefEqProofs only[Option.isSome_some,mH,Option.getD_some]at lW
  by_cases cn:h.bh=-1
  ·simp -implicitDefEqProofs only[AL,op,ef,cl,sq,reduceIte,q4,q5,q6,q7,q8,j1,j2,j3,j4,S1,S2,S3,List.length_set,sa.hs,sa.hv,l0,KX,lv,jv,lW,dy,cn]
   exact .inr (.inl ⟨h,e,cn,rfl,((Ext.rfl'.app _).app _)⟩)
  ·have uv:(h.bh==-1)=false:=by simpa using cn
   have FP:=fun Hx=>zT sP Hx b.v (dC s.vs) (k,n) (v:=dy h) (by unfold dC;rw[gF,e];rfl)
   simp -implicitDefEqProofs only[kN,eN]at FP
   have LZ:mF (dC s.vs) (k,n)=dC (jz s.vs (k,n)):=A0 dy s.vs (k,n)
   rw[LZ]at FP
   obtain⟨c,kK,oS,Rm⟩:∃c,ah im k=some (.aE c 0 (s.ids k).length 1)∧H[c]?=some (.cells (aJ eU (s.ids k)))∧F c:=by
    have:=sa.oi k
    cases em:ah im k with
    | none =>
     rw[em]at this
     have h0:s.ids k=[]:=this
     have:=(hi.BG k n).2 (by rw[e];rfl)
     rw[h0]at this;cases this
    | some t=>rw[em]at this;obtain⟨c,rfl,h1,h2⟩:=this;exact⟨c,rfl,h1,h2⟩
   obtain⟨d,py,cw,Rn⟩:∃d,ah pm n=some (.aE d 0 (s.dz n).length 1)∧H[d]?=some (.cells (aJ eS (s.dz n)))∧F d:=by
    have:=sa.op n
    cases em:ah pm n with
    | none =>
     rw[em]at this
     have h0:s.dz n=[]:=this
     have:=(hi.BH n k).2 (by rw[e];rfl)
     rw[h0]at this;cases this
    | some t=>rw[em]at this;obtain⟨c,rfl,h1,h2⟩:=this;exact⟨c,rfl,h1,h2⟩
   have bc:=sa.gp (k:=k) (c:=c) (by rw[kK];rfl)
   have bd:=sa.iu (n:=n) (c:=d) (by rw[py];rfl)
   have Ro:c≠d:=fun h=>sa.sx k n c (by rw[kK];rfl) (by rw[py,h];rfl)
   obtain⟨n1,n2,n3,n4⟩:=sa.ne
   have li:=a6 sa.hi
   simp -implicitDefEqProofs only[AL,op,ef,cl,sq,reduceIte,q4,q5,q6,q7,q8,j1,j2,j3,j4,S1,S2,S3,List.length_set,sa.hs,sa.hv,l0,KX,lv,jv,lW,dy,uv,FP,n1,sa.hi,li,sa.vi,iY,kK]
   generalize ES:H.set b.v (B.map (bo kN (dC (jz s.vs (k,n)))))++[B.cells [T.str k,T.int IntKind.u64 n]]++[B.cells [T.str h.value,T.sl h.kk (h.keys.map eS),T.int IntKind.i64 h.bh]]=H1
   have Pw:H1.length=H.length+2:=by rw[←ES];simp
   have e7:∀{c x},c≠b.v→H[c]?=some x→H1[c]?=some x:=fun hc hx=>by
    have:=a6 hx
    rw[←ES,aM (by simp;omega),aM (by simpa using this),bN (Ne.symm hc)];exact hx
   have v1:H1[b.v]?=some (.map (bo kN (dC (jz s.vs (k,n))))):=by rw[←ES,aM (by simp;omega),aM (by simpa using lv),cK lv]
   have s1:=e7 (Ne.symm n1) sa.hs
   have i1:=e7 (Ne.symm sa.vi) sa.hi
   have p1:=e7 (Ne.symm sa.vp) sa.hp
   have w1:=e7 (Ne.symm sa.vl) sa.hl
   refine af _ _ _ _ _ _ _ _ (Pt c (s.ids k) n H1 (e7 bc.2.1 oS) (by have:=hi.bi k;omega)) ?_
   rintro u H2⟨hu,c2,vg⟩
   cases hu
   have ou:∀{a x},a≠c→H1[a]?=some x→H2[a]?=some x:=fun ha hx=>vg.get hx ha
   have s2:=ou (Ne.symm bc.1) s1
   have v2:=ou (Ne.symm bc.2.1) v1
   have i2:=ou (Ne.symm bc.2.2.1) i1
   have p2:=ou (Ne.symm bc.2.2.2.1) p1
   have w2:=ou (Ne.symm bc.2.2.2.2.1) w1
   have d2:=ou (Ne.symm Ro) (e7 bd.2.1 cw)
   obtain⟨H3,ME⟩:∃H3,H3=H2.set b.i (.map (bo T.str (cm im k (.aE c 0 (cW (s.ids k) n).length 1)))):=⟨_,rfl⟩
   have eG:∀{a x},a≠b.i→H2[a]?=some x→H3[a]?=some x:=fun ha hx=>by rw[ME,bN (Ne.symm ha)];exact hx
   have s3:=eG (Ne.symm n2) s2
   have v3:=eG sa.vi v2
   have i3:H3[b.i]?=some (.map (bo T.str (cm im k (.aE c 0 (cW (s.ids k) n).length 1)))):=by rw[ME,cK (a6 i2)]
   have p3:=eG (Ne.symm sa.ip) p2
   have w3:=eG (Ne.symm sa.il) w2
   have c3:=eG bc.2.2.1 c2
   have d3:=eG bd.2.2.1 d2
   simp -implicitDefEqProofs only[op,ef,cl,sq,reduceIte,q4,q5,q6,q7,q8,j1,j2,j3,j4,S1,s2,i2,oc,←ME,s3,p3,gZ,py]
   refine af _ _ _ _ _ _ _ _ (Pv d (s.dz n) k H3 d3 (by have:=hi.bp n;omega)) ?_
   rintro u H4⟨hu,d4,th⟩
   cases hu
   have eH:∀{a x},a≠d→H3[a]?=some x→H4[a]?=some x:=fun ha hx=>th.get hx ha
   have s4:=eH (Ne.symm bd.1) s3
   have v4:=eH (Ne.symm bd.2.1) v3
   have i4:=eH (Ne.symm bd.2.2.1) i3
   have p4:=eH (Ne.symm bd.2.2.2.1) p3
   have w4:=eH (Ne.symm bd.2.2.2.2.1) w3
   have c4:=eH Ro c3
   obtain⟨H5,K1⟩:∃H5,H5=H4.set b.p (.map (bo kU (cm pm n (.aE d 0 (cW (s.dz n) k).length 1)))):=⟨_,rfl⟩
   have dV:∀{a x},a≠b.p→H4[a]?=some x→H5[a]?=some x:=fun ha hx=>by rw[K1,bN (Ne.symm ha)];exact hx
   have s5:=dV (Ne.symm n3) s4
   have p5:H5[b.p]?=some (.map (bo kU (cm pm n (.aE d 0 (cW (s.dz n) k).length 1)))):=by rw[K1,cK (a6 p4)]
   have l2:ah (cm pm n (.aE d 0 (cW (s.dz n) k).length 1)) n=some (.aE d 0 (cW (s.dz n) k).length 1):=by rw[a0,if_pos rfl]
   have Uu:H5.length=H4.length:=by rw[K1];simp
   have Px:H3.length=H2.length:=by rw[ME];simp
   have A1:∀{a x},a≠b.v→a≠c→a≠b.i→a≠d→a≠b.p→H[a]?=some x→H5[a]?=some x:=fun e1 e2 e3 e4 e5 hx=>dV e5 (eH e4 (eG e3 (ou e2 (e7 e1 hx))))
   have Rp:bO F H H5:=⟨by have:=vg.1;have:=th.1;omega,fun a ha hF=>by
    obtain⟨x,hx⟩:=cF ha
    have ne:∀{c'},F c'→a≠c':=fun h e=>hF (e▸h)
    rw[hx]
    exact A1 (ne sa.F0.2.1) (ne Rm) (ne sa.F0.2.2.1) (ne Rn) (ne sa.F0.2.2.2.1) hx⟩
   have uj:=fun Hx=>zT Gg Hx b.p (cm pm n (.aE d 0 (cW (s.dz n) k).length 1)) n l2
   simp -implicitDefEqProofs only[kU]at uj
   have fin:∀(Dz:List (Nat×T)) (H6:ae),(∀n',ah Dz n'=if n'=n then ah Dz n else ah pm n')→BI eS F H5 (ah Dz n) (cW (s.dz n) k)→(∀a,cu (ah Dz n)=some a→a=d)→(Dz.map (·.1)).Nodup→H6[b.p]?=some (.map (bo kU Dz))→(∀{a x},a≠b.p→H5[a]?=some x→H6[a]?=some x)→pW H6 b (cm im k (.aE c 0 (cW (s.ids k) n).length 1)) Dz (s.drop k n) F:=by
    intro Dz H6 hl ho hb jj hp hk
    have kI:∀{k' a x},k'≠k→cu (ah im k')=some a→H[a]?=some x→H6[a]?=some x:=fun {k' a x} cd ha hx=>by
     obtain⟨e1,e2,e3,e4,e5,_,e6⟩:=sa.gp ha
     exact hk e4 (A1 e2 (fun e=>cd (sa.si k' k c (e▸ha) (by rw[kK];rfl))) e3 (fun e=>sa.sx k' n d (e▸ha) (by rw[py];rfl)) e4 hx)
    have kP:∀{n' a x},n'≠n→cu (ah pm n')=some a→H[a]?=some x→H6[a]?=some x:=fun {n' a x} cd ha hx=>by
     obtain⟨e1,e2,e3,e4,e5,_,e6⟩:=sa.iu ha
     exact hk e4 (A1 e2 (fun e=>sa.sx k n' c (by rw[kK];rfl) (e▸ha)) e3 (fun e=>cd (sa.sp n' n d (e▸ha) (by rw[py];rfl))) e4 hx)
    have bI:∀k' a,cu (ah (cm im k (.aE c 0 (cW (s.ids k) n).length 1)) k')=some a→cu (ah im k')=some a:=fun k' a ha=>by
     rw[a0]at ha
     split at ha
     ·rename_i e;subst e;rw[kK];exact ha
     ·exact ha
    have bP:∀n' a,cu (ah Dz n')=some a→cu (ah pm n')=some a:=fun n' a ha=>by
     rw[hl]at ha
     split at ha
     ·rename_i e;subst e;rw[py,hb a ha];rfl
     ·exact ha
    refine⟨hk (Ne.symm n3) s5,hk sa.vp (dV sa.vp v4),hk sa.ip (dV sa.ip i4),hp,hk (Ne.symm sa.pl) (dV (Ne.symm sa.pl) w4),sa.vi,sa.vp,sa.vl,sa.ip,sa.il,sa.pl,sa.F0,fun k'=>?_,fun n'=>?_,fun k1 k2 a h1 h2=>sa.si k1 k2 a (bI _ _ h1) (bI _ _ h2),fun k1 k2 a h1 h2=>sa.sp k1 k2 a (bP _ _ h1) (bP _ _ h2),fun k1 k2 a h1 h2=>sa.sx k1 k2 a (bI _ _ h1) (bP _ _ h2),jj⟩
    ·simp -implicitDefEqProofs only[cB.drop,a0]
     by_cases e:k'=k
     ·simp -implicitDefEqProofs only[e,if_true]
      exact⟨c,rfl,hk bc.2.2.2.1 (dV bc.2.2.2.1 c4),Rm⟩
     ·simp -implicitDefEqProofs only[e,if_false]
      exact(sa.oi k').cP (fun a x ha hx=>kI e ha hx) fun _ _ h=>h
    ·rw[hl]
     simp -implicitDefEqProofs only[cB.drop]
     by_cases e:n'=n
     ·simp -implicitDefEqProofs only[e,if_true]
      refine ho.cP (fun a x ha hx=>hk ?_ hx) fun _ _ h=>h
      rw[hb a ha];exact bd.2.2.2.1
     ·simp -implicitDefEqProofs only[e,if_false]
      exact(sa.op n').cP (fun a x ha hx=>kP e ha hx) fun _ _ h=>h
   by_cases hz:(cW (s.dz n) k).length=0
   ·have mO:((cW (s.dz n) k).length=0)=True:=eq_true hz
    simp -implicitDefEqProofs only[op,ef,cl,sq,reduceIte,q4,q5,q6,q7,q8,j1,j2,j3,j4,S1,s4,p4,od,←K1,s5,p5,gZ,l2,mO,uj]
    refine .inr (.inr ⟨h,e,cn,rfl,⟨_,_,fin (mF (cm pm n (.aE d 0 (cW (s.dz n) k).length 1)) n) _ (fun n'=>?_) ?_ (fun a ha=>?_) (uo (cA sa.np _ _) _) (cK (a6 p5)) (fun ha hx=>by rw[bN (Ne.symm ha)];exact hx)⟩,Rp.set (.inl sa.F0.2.2.2.1) _⟩)
    ·simp -implicitDefEqProofs only[ju (cA sa.np _ _),a0];split<;>simp
    ·rw[ju (cA sa.np _ _),if_pos rfl];exact List.eq_nil_of_length_eq_zero hz
    ·rw[ju (cA sa.np _ _),if_pos rfl]at ha;cases ha
   ·simp -implicitDefEqProofs only[op,ef,cl,sq,reduceIte,q4,q5,q6,q7,q8,j1,j2,j3,j4,S1,s4,p4,od,←K1,s5,p5,gZ,l2,hz]
    refine .inr (.inr ⟨h,e,cn,rfl,⟨_,_,fin _ H5 (fun n'=>?_) ?_ (fun a ha=>?_) (cA sa.np _ _) p5 (fun _ h=>h)⟩,Rp⟩)
    ·simp -implicitDefEqProofs only[a0];split<;>simp
    ·rw[l2];exact⟨d,rfl,dV bd.2.2.2.1 d4,Rn⟩
    ·rw[l2]at ha;cases ha;rfl
abbrev BL (n:Nat)(R0:aj)(ps:List Nat)(bV body:C):B:=.loop .ready Option.none n R0 ps bV body
abbrev MF (n:Nat)(R0:aj)(ps:List Nat)(bV body:C):B:=.loop .busy Option.none n R0 ps bV body
theorem qN {H H':ae}(h:∀(c:Nat) x,H[c]?=some x→H'[c]?=some x):Ext H H':=by
 have hl:H.length≤H'.length:=by
  rcases Nat.eq_zero_or_pos H.length with h0|h0
  ·omega
  ·obtain⟨x,hx⟩:=cF (l:=H) (i:=H.length-1) (by omega)
   have:=a6 (h _ x hx)
   omega
 refine⟨H'.drop H.length,List.ext_getElem? fun i=>?_⟩
 by_cases hi:i<H.length
 ·obtain⟨x,hx⟩:=cF hi
  rw[List.getElem?_append_left hi,hx,h i x hx]
 ·rw[List.getElem?_append_right (by omega),List.getElem?_drop]
  congr 1;omega
structure RI {α β:Type}(es:List (α×β))(ix:List Nat)(dD:List α):Prop where
 len:ix.length+dD.length=es.length
 lt:∀i∈ix,i<es.length
 PO:ix.Nodup
 Hs:dD.Nodup
 mem:∀k,k∈dD↔∃i v,es[i]?=some (k,v)∧i∉ix
theorem RI.start {α β:Type}(es:List (α×β)):RI es (List.range es.length) []:=⟨by simp,fun i h=>List.mem_range.1 h,List.nodup_range,by simp,fun k=>by
 simp -implicitDefEqProofs only[List.not_mem_nil,false_iff,not_exists,not_and]
 intro i v h hn
 exact hn (List.mem_range.2 (List.getElem?_eq_some_iff.1 h).1)⟩
theorem RI.step {α β:Type}{es:List (α×β)}(hn:(es.map (·.1)).Nodup){ix:List Nat}{dD:List α}(h:RI es ix dD){i:Nat}{k:α}{v:β}(hi:i∈ix)(he:es[i]?=some (k,v)):RI es (ix.erase i) (dD++[k]):=by
 have inj:∀j w,es[j]?=some (k,w)→j=i:=fun j w hj=>by
  have h1:(es.map (·.1))[j]?=some k:=by rw[List.getElem?_map,hj];rfl
  have h2:(es.map (·.1))[i]?=some k:=by rw[List.getElem?_map,he];rfl
  exact(List.getElem?_inj (List.getElem?_eq_some_iff.1 h1).1 hn).1 (h1.trans h2.symm)
 have hk:k∉dD:=fun hk=>by
  obtain⟨j,w,hj,hn⟩:=(h.mem k).1 hk
  exact hn (inj j w hj▸hi)
 refine⟨?_,fun j hj=>h.lt j (List.mem_of_mem_erase hj),h.PO.erase _,?_,fun k'=>?_⟩
 ·have:=h.len
  have:=List.length_pos_of_mem hi
  rw[List.length_erase_of_mem hi,List.length_append,List.length_singleton];omega
 ·rw[List.nodup_append];exact⟨h.Hs,by simp,fun a ha c hc=>by simp at hc;subst hc;rintro rfl;exact hk ha⟩
 ·rw[List.mem_append,List.mem_singleton,h.mem]
  constructor
  ·rintro (⟨j,w,hj,PQ⟩|rfl)
   ·exact⟨j,w,hj,fun hm=>PQ (List.mem_of_mem_erase hm)⟩
   ·exact⟨i,v,he,fun hm=>(h.PO.mem_erase_iff.1 hm).1 rfl⟩
  ·rintro⟨j,w,hj,PQ⟩
   by_cases e:j=i
   ·subst e;rw[he]at hj;cases hj;exact .inr rfl
   ·exact .inl ⟨j,w,hj,fun hm=>PQ (h.PO.mem_erase_iff.2 ⟨e,hm⟩)⟩
theorem RI.Ds {α β:Type}{es:List (α×β)}{dD:List α}(h:RI es [] dD)(k:α):k∈dD↔k∈es.map (·.1):=by
 rw[h.mem]
 constructor
 ·rintro⟨i,v,he,_⟩;exact List.mem_map.2 ⟨_,List.mem_of_getElem? he,rfl⟩
 ·intro hk
  obtain⟨e,he,rfl⟩:=List.mem_map.1 hk
  obtain⟨i,hi,e2⟩:=List.getElem_of_mem he
  exact⟨i,e.2,by rw[List.getElem?_eq_getElem hi,e2],by simp⟩
theorem Ht {n:Nat}{R0:aj}{ps:List Nat}{bV body:C}(es:List (Nm×T))(c b mb:Nat)(H:ae)(I:List Nm→ae→Prop)(Uv:ps.length=1)(jj:(es.map (·.1)).Nodup)(h0:I [] H)(hb:H[b]?=some (BL n R0 ps bV body))(hc:H[c]?=some (.cells [.map mb]))(hm:H[mb]?=some (.map (bo kN es)))
  (nI:∀dD H' y,I dD H'→I dD (H'.set mb y)) (su:∀dD H' (l:ae),I dD H'→I dD (H'++l))
  (bZ:∀dD v H',dD.length<es.length→I dD H'→H'[b]?=some (BL n R0 ps bV body)→H.length<H'.length→ft env bV (iC R0 ps [(kN v)]) H' (fun o H1=>∃R1,o=.ex .normal R1∧H1[b]?=some (BL n R0 ps bV body) ∧
   ft env body R1 (H1.set b (MF n R0 ps bV body)) (fun o H2=>∃R2,o=.ex .normal R2∧H2[b]?=some (MF n R0 ps bV body)∧I (dD++[v]) (H2.set b (BL n R0 ps bV body))∧∀a y,H'[a]?=some y→a=mb∨a=H.length→H2[a]?=some y))) :
  W env (.call 52 [.lz b,.ptr c 0]) H (fun _ H'=>∃dD,I dD H'∧RI es [] dD∧H'[b]?=some (BL n R0 ps bV body)∧H'[mb]?=some (.map (bo kN es))):=by
 have lm:=a6 hm
 have lb:=a6 hb
 have MG:b≠mb:=by rintro rfl;rw[hm]at hb;cases hb
 have FB:(bo kN es).length=es.length:=by simp[bo]
 refine W.cJ rfl rfl rfl ?_
 simp -implicitDefEqProofs only[GM,op,ef,cl,sq,reduceIte,q4,q5,q6,q7,q8,j1,j2,j3,j4,S1,hc,hm]
 refine W.cZ (fun (dD:List Nm) R H'=>At H' (fun H'=>∃ix cur,I dD H'∧RI es ix dD∧H'[b]?=some (BL n R0 ps bV body)∧H'[mb]?=some (.da (bo kN es) ix H.length cur)∧H'[H.length]?=some (.uL mb))∧R 0=.lz b∧R 5=.ptr H.length 0) (fun dD=>es.length-dD.length) [] ?_ ?_
 ·refine⟨.i ⟨List.range (bo kN es).length,none,su _ _ _ (nI _ _ _ h0),by rw[FB];exact RI.start es,?_,?_,?_⟩,rfl,rfl⟩
  ·rw[aM (by simpa using lb),bN (Ne.symm MG)];exact hb
  ·rw[aM (by simpa using lm),cK lm]
  ·rw[aZ (by simp)]
 rintro dD R H1⟨⟨ix,cur,hI,vU,oP,I3,Du⟩,r0,r5⟩
 have VN:=a6 oP
 have Rq:=a6 I3
 have Uw:=a6 Du
 have Hu:b≠H.length:=by rintro rfl;rw[Du]at oP;cases oP
 have BD:mb≠H.length:=by omega
 simp -implicitDefEqProofs only[op,ef,cl,sq,reduceIte,q4,q5,q6,q7,q8,j1,j2,j3,j4,S1,r5]
 refine F5 _ _ _ _ _ _ _ r5 I3 ?_
 rintro t H2 (⟨rfl,rfl,rfl⟩|⟨i,e,hi,he,rfl,rfl⟩)
 ·simp -implicitDefEqProofs only[op,ef,cl,sq,reduceIte,q4,q5,q6,q7,q8,j1,j2,j3,j4,S1]
  exact⟨dD,nI _ _ _ hI,vU,by rw[bN (Ne.symm MG)];exact oP,cK Rq⟩
 obtain⟨⟨k,v0⟩,Rt⟩:=cF (vU.lt i hi)
 have D7:e=(kN k,v0):=by
  rw[bo,List.getElem?_map,Rt]at he;exact(Option.some.inj he).symm
 subst D7
 have b2:(H1.set mb (.da (bo kN es) (ix.erase i) H.length (some i)))[b]?=some (BL n R0 ps bV body):=by rw[bN (Ne.symm MG)];exact oP
 have m2:(H1.set mb (.da (bo kN es) (ix.erase i) H.length (some i)))[mb]?=some (.da (bo kN es) (ix.erase i) H.length (some i)):=cK Rq
 have i2:(H1.set mb (.da (bo kN es) (ix.erase i) H.length (some i)))[H.length]?=some (.uL mb):=by rw[bN BD];exact Du
 have Ux:(H1.set mb (.da (bo kN es) (ix.erase i) H.length (some i))).length=H1.length:=by simp
 have Ru:=nI dD H1 (.da (bo kN es) (ix.erase i) H.length (some i)) hI
 generalize H1.set mb (.da (bo kN es) (ix.erase i) H.length (some i))=H2 at *
 have me:dD.length<es.length:=by have:=vU.len;have:=List.length_pos_of_mem hi;omega
 have fin:∀H3,Ext H2 H3→I dD H3→ft env bV (iC R0 ps [kN k]) H3 (fun o H1=>∃R1,o=.ex .normal R1∧H1[b]?=some (BL n R0 ps bV body)∧ft env body R1 (H1.set b (MF n R0 ps bV body)) (fun o H2=>∃R2,o=.ex .normal R2∧H2[b]?=some (MF n R0 ps bV body) ∧
   ∃y:List Nm,es.length-y.length<es.length-dD.length∧At (H2.set b (BL n R0 ps bV body)) (fun H'=>∃ix cur,I y H'∧RI es ix y∧H'[b]?=some (BL n R0 ps bV body)∧H'[mb]?=some (.da (bo kN es) ix H.length cur)∧H'[H.length]?=some (.uL mb))∧R 0=.lz b∧R 5=.ptr H.length 0)):=by
  intro H3 hx h3
  have NB:=hx.len
  refine fL _ _ _ (fun o H4=>?_) (bZ dD k H3 me h3 (hx.get b2) (by omega))
  rintro⟨R1,rfl,hr,hw⟩
  refine⟨R1,rfl,hr,fL _ _ _ (fun o H5=>?_) hw⟩
  rintro⟨R2,rfl,FR,Uy,Rv⟩
  have FV:=a6 FR
  have Py:=Rv mb _ (hx.get m2) (.inl rfl)
  have Hm:=Rv H.length _ (hx.get i2) (.inr rfl)
  exact⟨R2,rfl,FR,dD++[k],by rw[List.length_append,List.length_singleton];omega,.i ⟨_,_,Uy,vU.step jj hi Rt,cK FV,by rw[bN MG];exact Py,by rw[bN Hu];exact Hm⟩,r0,r5⟩
 have Uz:=a6 b2
 simp -implicitDefEqProofs only[op,ef,cl,sq,reduceIte,q4,q5,q6,q7,q8,j1,j2,j3,j4,S1,r0,r5,i2,m2,he,kN,eN,S2]
 refine J9 (b:=b) (n:=n) (R0:=R0) (ps:=ps) (bV:=bV) (body:=body) (by simp -implicitDefEqProofs only[op,ef,cl,sq,reduceIte,q4,q5,q6,q7,q8,j1,j2,j3,j4,S1,r0]) (by first|exact b2|(rw[aM Uz];exact b2)) (by rw[Uv];rfl) ?_
 simp -implicitDefEqProofs only[op,ef,cl,sq,reduceIte,q4,q5,q6,q7,q8,j1,j2,j3,j4,S1]
 first
  | exact fin _ ⟨_,rfl⟩ (su _ _ _ Ru)
  | exact fin _ Ext.rfl' Ru
def K2 {α:Type}(enc:α→List T)(n:Nat)(es:List (α×T))(H:ae):Out→ae→Prop:=fun o H'=>Ext H H'∧∃t dD,o=.val t∧dM enc n H.length H' t dD∧RI es [] dD
def jS (H:ae):T→ae
 | .aE b _ _ _=>H.set b .dead
 | _=>H
theorem ov (H:ae)(t:T):(jS H t).length=H.length:=by cases t<;>simp[jS]
theorem sX {H:ae}{t:T}{a:Nat}(h:∀off len m,t≠.aE a off len m):(jS H t)[a]?=H[a]?:=by
 cases t with
 | aE b off len m=>exact bN (fun e=>h off len m (by rw[e]))
 | _=>rfl
theorem A2 {α:Type}{enc:α→List T}{n n0 bytes:Nat}(hn:∀x,(enc x).length=n){H:ae}{t:T}{l:List α}(h:dM enc n n0 H t l)(v:α)(hr:cr (l.length+1) bytes=true):mz H n bytes t [enc v]=some (.aE H.length 0 (l.length+1) n,jS H t++[.cells (aJ enc (l++[v]))]):=by
 have su:aJ enc l++enc v=aJ enc (l++[v]):=by simp[aJ]
 rcases h with⟨rfl,rfl⟩|⟨b,rfl,hb,_⟩
 ·simp -implicitDefEqProofs only[List.length_nil,Nat.zero_add]at hr
  simp[mz,hr,jS,aJ]
 ·have hc:l.length*n=(aJ enc l).length:=(cO hn l).symm
  simp[mz,hb,hc,hr,jS,su]
theorem K3 (es:List (Nm×T))(c mb:Nat)(H:ae)(jj:(es.map (·.1)).Nodup)(iz:es.length≤8000000)(hc:H[c]?=some (.cells [.map mb]))(hm:H[mb]?=some (.map (bo kN es))) :
  W env (.call 68 [.sl .nil [],.fn 52 [.ptr c 0]]) H (K2 eN 2 es H):=by
 have lm:=a6 hm
 have lc:=a6 hc
 refine W.NV rfl rfl ?_
 simp -implicitDefEqProofs only[GY,op,ef,cl,sq,reduceIte,q4,q5,q6,q7,q8,j1,j2,j3,j4,S1,S2]
 generalize hR:iq (iq (iq (fA [T.sl SK.nil [],T.fn 52 [T.ptr c 0]]) 2 (T.ptr H.length 0)) 4 (T.sl SK.nil [])) 6 (T.fn 52 [T.ptr c 0])=R0
 have r2:R0 2=.ptr H.length 0:=by rw[←hR];simp -implicitDefEqProofs only[op,ef,cl,sq,reduceIte,q4,q5,q6,q7,q8,j1,j2,j3,j4,S1]
 have r6:R0 6=.fn 52 [.ptr c 0]:=by rw[←hR];simp -implicitDefEqProofs only[op,ef,cl,sq,reduceIte,q4,q5,q6,q7,q8,j1,j2,j3,j4,S1]
 have PS:R0 13=.bE []:=by rw[←hR];rfl
 refine W.F6 (f:=52) (cs:=[.ptr c 0]) (by simp -implicitDefEqProofs only[op,ef,cl,sq,reduceIte,q4,q5,q6,q7,q8,j1,j2,j3,j4,S1,r6]) ?_
 have a1:(H++[B.cells [T.sl SK.nil []]]).length=H.length+1:=by simp
 rw[a1,PS,Kk]
 have e1:H.length+1+1=H.length+2:=rfl
 rw[e1]
 generalize qf:H.length=f at *
 have VO:¬(f=f+2):=by omega
 have VP:¬(f+1=f+2):=by omega
 have jX:∀x y:B,(H++[B.cells [T.sl SK.nil []]]++[y,x])[f+2]?=some x:=fun x y=>by
  rw[List.getElem?_append_right (by omega),a1]
  have:f+2-(f+1)=1:=by omega
  rw[this];rfl
 have Rw:∀x y:B,(H++[B.cells [T.sl SK.nil []]]++[y,x]).length=f+3:=fun x y=>by simp[qf]
 have PT:∀(x y:B) (a:Nat) z,H[a]?=some z→(H++[B.cells [T.sl SK.nil []]]++[y,x])[a]?=some z:=fun x y a z hz=>by
  have:=a6 hz
  rw[aM (by omega),aM (by omega)];exact hz
 refine W.use (Ht (hb:=jX _ _) es c (f+2) mb _ (fun dD H'=>At H' fun H'=>∃t,H'[f]?=some (.cells [t])∧dM eN 2 (f+4) H' t dD∧H'[f+1]?=some .wy∧∀(a:Nat) y,H[a]?=some y→a≠mb→H'[a]?=some y) rfl jj ?_ (PT _ _ _ _ hc) (PT _ _ _ _ hm) ?_ ?_ ?_) ?_
 ·refine .i ⟨.sl .nil [],?_,mS _ _ _ _,?_,fun a y hy _=>PT _ _ _ _ hy⟩
  ·rw[aM (by omega),aZ (by omega)]
  ·rw[aZ (by omega)]
 ·rintro dD H' y⟨t,h1,h2,h3,h4⟩
  refine .i ⟨t,by rw[bN (by omega)];exact h1,?_,by rw[bN (by omega)];exact h3,fun a z hz ha=>by rw[bN (Ne.symm ha)];exact h4 a z hz ha⟩
  rcases h2 with h2|⟨d,e1,e2,e3⟩
  ·exact .inl h2
  ·exact .inr ⟨d,e1,by rw[bN (by omega)];exact e2,e3⟩
 ·rintro dD H' l⟨t,h1,h2,h3,h4⟩
  exact .i ⟨t,by rw[aM (a6 h1)];exact h1,h2.ext ⟨_,rfl⟩,by rw[aM (a6 h3)];exact h3,fun a z hz ha=>by rw[aM (a6 (h4 a z hz ha))];exact h4 a z hz ha⟩
 ·rintro dD v H' me⟨t,h1,h2,h3,h4⟩ hb hlen
  rw[Rw]at hlen
  have mf:=a6 h1
  have m1:=a6 h3
  have m2:=a6 hb
  have ba:∀a,a<f+4→∀off len m,t≠.aE a off len m:=fun a ha off len m he=>by
   rcases h2 with⟨_,e⟩|⟨d,e,_,e3⟩
   ·rw[e]at he;cases he
   ·rw[e]at he;cases he;omega
  have Gl:wz t=t:=by rcases h2 with⟨_,rfl⟩|⟨d,rfl,_⟩<;>rfl
  have hL:∀y:B,(H'.set (f+2) y++[B.cells (eN v)]).length=H'.length+1:=fun y=>by simp
  have kp:∀y:B,mz (H'.set (f+2) y++[B.cells (eN v)]) 2 24 t [eN v]=some (.aE (H'.length+1) 0 (dD++[v]).length 2,jS (H'.set (f+2) y++[B.cells (eN v)]) t++[.cells (aJ eN (dD++[v]))]):=fun y=>by
   have:=A2 (enc:=eN) (n:=2) (bytes:=24) (n0:=f+4) (H:=H'.set (f+2) y++[B.cells (eN v)]) (t:=t) (l:=dD) (fun _=>rfl) (by
    rcases h2 with h2|⟨d,e1,e2,e3⟩
    ·exact .inl h2
    ·refine .inr ⟨d,e1,?_,e3⟩
     first
      | (rw[aM (by rw[List.length_set];exact a6 e2),bN (by omega)];exact e2)
      | (rw[bN (by omega)];exact e2)) v (ja (by omega) (by omega))
   rw[hL]at this
   rw[this,List.length_append];rfl
  simp -implicitDefEqProofs only[eN]at kp
  have tV:∀(y:B) (a:Nat) z,H'[a]?=some z→a≠f+2→a<f+4→(jS (H'.set (f+2) y++[B.cells (eN v)]) t++[.cells (aJ eN (dD++[v]))])[a]?=some z:=fun y a z hz h2 h4=>by
   have:=a6 hz
   rw[aM (by rw[ov];simp;omega),sX (ba a h4)]
   first
    | (rw[aM (by rw[List.length_set];exact this),bN (Ne.symm h2)];exact hz)
    | (rw[bN (Ne.symm h2)];exact hz)
  have UA:¬(f+2=H'.length):=by omega
  have UB:¬(f+2=f):=by omega
  have UC:¬(H'.length=f):=by omega
  simp -implicitDefEqProofs only[op,ef,cl,sq,reduceIte,q4,q5,q6,q7,q8,j1,j2,j3,j4,S1,S2,iC,kN,eN]
  refine⟨_,rfl,?_,?_⟩
  ·first
    | exact hb
    | (rw[aM m2];exact hb)
  have K4:=fun y=>tV y f _ h1 (by omega) (by omega)
  have Rx:∀y:B,(jS (H'.set (f+2) y++[B.cells (eN v)]) t++[.cells (aJ eN (dD++[v]))])[f+2]?=some y:=fun y=>by
   rw[aM (by rw[ov];simp;omega),sX (ba _ (by omega))]
   first
    | (rw[aM (by rw[List.length_set];exact m2),cK m2])
    | (rw[cK m2])
  have MH:∀y:B,(jS (H'.set (f+2) y++[B.cells (eN v)]) t++[.cells (aJ eN (dD++[v]))])[H'.length+1]?=some (.cells (aJ eN (dD++[v]))):=fun y=>by
   rw[aZ (by rw[ov,hL])]
  try simp -implicitDefEqProofs only[eN]at K4
  try simp -implicitDefEqProofs only[eN]at Rx
  try simp -implicitDefEqProofs only[eN]at MH
  try simp -implicitDefEqProofs only[eN]at tV
  simp -implicitDefEqProofs only[op,ef,cl,sq,reduceIte,q4,q5,q6,q7,q8,j1,j2,j3,j4,S1,S2,List.length_set,r2,mf,m2,UA,UB,UC,h1,Gl,kp,K4]
  refine⟨_,rfl,by rw[bN (by omega)];exact Rx _,.i ⟨_,by rw[bN (by omega),cK (a6 (K4 _))],.inr ⟨_,rfl,by rw[bN (by omega),bN (by omega)];exact MH _,by omega⟩,by rw[bN (by omega),bN (by omega)];exact tV _ _ _ h3 (by omega) (by omega),fun a y hy ha=>?_⟩,fun a y hy ha=>?_⟩
  ·have:=a6 hy
   rw[bN (by omega),bN (by omega)];exact tV _ _ _ (h4 a y hy ha) (by omega) (by omega)
  ·rw[Rw]at ha
   rw[bN (by omega)];exact tV _ _ _ hy (by omega) (by omega)
 ·rintro o H'⟨dD,⟨t,h1,h2,h3,h4⟩,vU,hb,Cc⟩
  refine⟨hb,?_⟩
  have k2:¬(f+2=f+1):=by omega
  have UD:¬(f+2=f):=by omega
  simp -implicitDefEqProofs only[op,ef,cl,sq,reduceIte,q4,q5,q6,q7,q8,j1,j2,j3,j4,S1,S2,r2,UD,h1]
  refine Gh (b:=f+1) (by simp -implicitDefEqProofs only[op,ef,cl,sq,reduceIte,q4,q5,q6,q7,q8,j1,j2,j3,j4,S1]) (by rw[bN (by omega)];exact h3) ?_
  simp -implicitDefEqProofs only[op,ef,cl,sq,reduceIte,q4,q5,q6,q7,q8,j1,j2,j3,j4,S1]
  refine⟨qN fun a y hy=>?_,t,dD,rfl,?_,vU⟩
  ·have:=a6 hy
   rw[bN (by omega),bN (by omega)]
   by_cases ha:a=mb
   ·subst ha;rw[hm]at hy;cases hy;exact Cc
   ·exact h4 a y hy ha
  ·rcases h2 with h2|⟨d,e1,e2,e3⟩
   ·exact .inl h2
   ·exact .inr ⟨d,e1,by rw[bN (by omega),bN (by omega)];exact e2,by omega⟩
end Go.Proofs.Ytodegnhallgnkaa.St
end
