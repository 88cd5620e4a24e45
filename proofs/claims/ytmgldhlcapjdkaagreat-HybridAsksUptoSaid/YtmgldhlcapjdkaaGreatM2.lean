/- Part of a proof of a law of this seat: the machine of plain values, its simulation, and the contracts of the functions that the law reaches. Conditions: none beyond the given row. -/
import Derived.Test.YtmgldhlcapjdkaaGreatM1
import Derived.Test.YtmgldhlcapjdkaaGreatProg
import Derived.KernelRfl
import Derived.Sort.AssemblyPlain
open Int renaming reduceLT → q8, reduceLE → q9, reduceBEq → j3, reduceBNe → j4, reduceEq → j5
open Nat renaming reduceAdd → j6, reduceLeDiff → j7, reduceLT → j8, reduceEqDiff → j9
set_option linter.unusedSimpArgs false
set_option linter.unusedVariables false
set_option linter.unnecessarySimpa false
set_option maxHeartbeats 4000000
section
namespace Go.Rmp
section
variable {α:Type} {enc:α→List T} {n:Nat}
def aK (enc:α→List T)(xs:List α):List T:=xs.flatMap enc
theorem cC (hn:∀x,(enc x).length=n):∀xs:List α,(aK enc xs).length=xs.length*n
 | []=>by simp[aK]
 | x :: xs=>by
  have:=cC hn xs
  simp only[aK,List.flatMap_cons,List.length_append,hn,List.length_cons]at this ⊢
  rw[this,Nat.add_mul];omega
theorem lK (hn:∀x,(enc x).length=n):∀(xs:List α) (i:Nat),(aK enc xs).drop (i*n)=aK enc (xs.drop i)
 | xs,0=>by simp
 | [],i+1=>by simp[aK]
 | x :: xs,i+1=>by
  have:=lK hn xs i
  simp only[aK,List.flatMap_cons,List.drop_succ_cons]at this ⊢
  rw[show(i+1)*n=(enc x).length+i*n by rw[hn,Nat.add_mul];omega,List.drop_append,List.drop_eq_nil_of_le (by omega)]
  simp[this]
theorem lL (hn:∀x,(enc x).length=n):∀(xs:List α) (i:Nat),(aK enc xs).take (i*n)=aK enc (xs.take i)
 | xs,0=>by simp[aK]
 | [],i+1=>by simp[aK]
 | x :: xs,i+1=>by
  have:=lL hn xs i
  simp only[aK,List.flatMap_cons,List.take_succ_cons]at this ⊢
  rw[show(i+1)*n=(enc x).length+i*n by rw[hn,Nat.add_mul];omega,List.take_append,List.take_of_length_le (by omega)]
  simp[this]
theorem cD (hn:∀x,(enc x).length=n){xs:List α}{i:Nat}{x:α}(hx:xs[i]?=some x)(off m:Nat)(h:off+m≤n):jT m (i*n+off) (some (.cells (aK enc xs)))=some (((enc x).drop off).take m):=by
 have hi:=(List.getElem?_eq_some_iff.1 hx).1
 have h1:i*n+n≤xs.length*n:=by rw[←Nat.succ_mul];exact Nat.mul_le_mul_right n hi
 have e:(aK enc xs).drop (i*n)=enc x++aK enc (xs.drop (i+1)):=by
  rw[lK hn,List.drop_eq_getElem_cons hi]
  have:xs[i]=x:=(List.getElem?_eq_some_iff.1 hx).2
  rw[this];rfl
 rw[mD,if_pos (by rw[cC hn];omega),←List.drop_drop,e,List.drop_append,List.take_append,hn]
 rw[show m-((enc x).drop off).length=0 by rw[List.length_drop,hn];omega]
 simp
theorem fx (hn:∀x,(enc x).length=n){xs:List α}{i:Nat}{x y:α}(hx:xs[i]?=some x)(H:ae)(b:Nat)(vs:List T)(off:Nat)(h:off+vs.length≤n)(hy:enc y=(enc x).take off++vs++(enc x).drop (off+vs.length)) :
  ou H b vs (i*n+off) (some (.cells (aK enc xs)))=some (H.set b (.cells (aK enc (xs.set i y)))):=by
 have hi:=(List.getElem?_eq_some_iff.1 hx).1
 have TL:xs[i]=x:=(List.getElem?_eq_some_iff.1 hx).2
 have h1:i*n+n≤xs.length*n:=by rw[←Nat.succ_mul];exact Nat.mul_le_mul_right n hi
 rw[kJ,if_pos (by rw[cC hn];omega)]
 have e:(aK enc xs).drop (i*n)=enc x++aK enc (xs.drop (i+1)):=by
  rw[lK hn,List.drop_eq_getElem_cons hi,TL];rfl
 have t:(aK enc xs).take (i*n+off)=aK enc (xs.take i)++(enc x).take off:=by
  rw[List.take_add,lL hn,e,List.take_append,hn,show off-n=0 by omega];simp
 have d:(aK enc xs).drop (i*n+off+vs.length)=(enc x).drop (off+vs.length)++aK enc (xs.drop (i+1)):=by
  rw[Nat.add_assoc,←List.drop_drop,e,List.drop_append,hn,show off+vs.length-n=0 by omega];simp
 rw[t,d]
 have:xs.set i y=xs.take i++y :: xs.drop (i+1):=by rw[List.set_eq_take_append_cons_drop,if_pos hi]
 rw[this]
 simp only[aK,List.flatMap_append,List.flatMap_cons,hy,List.append_assoc]
theorem wj (k:Nat)(z:α):(List.replicate k (enc z)).flatten=aK enc (List.replicate k z):=by
 induction k with
 | zero=>rfl
 | succ k ih=>simp only[List.replicate_succ,List.flatten_cons,ih,aK,List.flatMap_cons]
end
theorem fh (n i b off len:Nat):eW n i (.aB b off len n)=if i<len then if n=0 then none else some (.ptr b (off+i*n))else none:=by
 simp only[eW,true_and,ne_eq]
 by_cases h:i<len<;>by_cases h':n=0<;>simp[h,h']
def eU (n:Nat):List T:=[.int .u64 n]
def eI (n:Nat):List T:=[.int .i64 n]
def rO (n0:Nat)(H:ae)(k:SK):Prop:=k=.nil∨k=.full∨∃t e,k=.own t e∧n0≤t∧H[t]?=some (.tok e)
structure Ib (n0:Nat)(H:ae)(k:SK)(H':ae):Prop where
 len:H.length≤H'.length
 get:∀b x,H[b]?=some x→(∀e,k≠.own b e)→H'[b]?=some x
 ext:∀H0:ae,H0.length≤n0→Ext H0 H→Ext H0 H'
theorem Ib.cells {n0:Nat}{H H':ae}{k:SK}(h:Ib n0 H k H')(ha:rO n0 H k){b:Nat}{x:B}(hx:H[b]?=some x)(ht:∀e,x≠.tok e):H'[b]?=some x:=h.get b x hx fun e he=>by
 rcases ha with h|h|⟨t,e',h,_,h'⟩
 ·rw[he]at h;cases h
 ·rw[he]at h;cases h
 ·rw[he]at h;cases h;rw[hx]at h';cases h';exact ht _ rfl
theorem oE {n0:Nat}{H:ae}{k:SK}{bytes:Nat}(es new:List (List T))(hk:rO n0 H k)(xd:n0≤H.length)(ig:new≠[])(hr:dv (es.length+new.length) bytes=true) :
  ∃k' H',jP H bytes k es new=some (.sl k' (es++new.map (·.map T.erase)),H')∧rO n0 H' k'∧Ib n0 H k H':=by
 unfold jP
 cases new with
 | nil=>exact absurd rfl ig
 | cons c new =>
  simp only[hr,if_true]
  rcases hk with rfl|rfl|⟨t,e,rfl,ht,hg⟩
  ·exact⟨_,_,rfl,.inr (.inr ⟨_,_,rfl,xd,bT rfl⟩),⟨by simp,fun b x hx _=>by rw[gW (bo hx)];exact hx,fun H0 _ h=>h.app _⟩⟩
  ·exact⟨_,_,rfl,.inr (.inr ⟨_,_,rfl,xd,bT rfl⟩),⟨by simp,fun b x hx _=>by rw[gW (bo hx)];exact hx,fun H0 _ h=>h.app _⟩⟩
  ·simp only[hg,if_true]
   refine⟨_,_,rfl,.inr (.inr ⟨_,_,rfl,ht,gh (bo hg)⟩),⟨by simp,fun b x hx aY=>?_,fun H0 h0 h=>h.set (Nat.le_trans h0 ht) _⟩⟩
   have:t≠b:=fun h=>aY e (by rw[h])
   rw[jS this];exact hx
theorem jL (n0:Nat)(H:ae):rO n0 H .nil:=.inl rfl
theorem rO.ext {n0:Nat}{H H':ae}{k:SK}(h:rO n0 H k)(hx:Ext H H'):rO n0 H' k:=by
 rcases h with h|h|⟨t,e,h,h1,h2⟩
 ·exact .inl h
 ·exact .inr (.inl h)
 ·exact .inr (.inr ⟨t,e,h,h1,hx.get h2⟩)
theorem rO.set {n0:Nat}{H:ae}{k:SK}(h:rO n0 H k){c:Nat}{x:B}(hx:H[c]?=some x)(ht:∀e,x≠.tok e)(y:B):rO n0 (H.set c y) k:=by
 rcases h with h|h|⟨t,e,h,h1,h2⟩
 ·exact .inl h
 ·exact .inr (.inl h)
 ·refine .inr (.inr ⟨t,e,h,h1,?_⟩)
  have:c≠t:=fun he=>by subst he;rw[hx]at h2;cases h2;exact ht _ rfl
  rw[jS this];exact h2
theorem fS {n m:Nat}(h:(n+n/4+512)*m≤281474976710656):dv n m=true:=by simp[dv,h]
theorem all_map {α:Type}{enc:α→List T}{n:Nat}(hn:∀x,(enc x).length=n)(l:List α):(l.map enc).all (fun c=>c.length==n)=true:=by simp[hn]
def uO {α:Type}(enc:α→List T)(n n0:Nat)(H:ae)(t:T)(l:List α):Prop :=
 (l=[]∧t=.sl .nil [])∨∃b,t=.aB b 0 l.length n∧H[b]?=some (.cells (aK enc l))∧n0≤b
theorem nw {α:Type}(enc:α→List T)(n n0:Nat)(H:ae):uO enc n n0 H (.sl .nil []) []:=.inl ⟨rfl,rfl⟩
theorem uO.ext {α:Type}{enc:α→List T}{n n0:Nat}{H H':ae}{t:T}{l:List α}(h:uO enc n n0 H t l)(hx:Ext H H'):uO enc n n0 H' t l:=by
 rcases h with h|⟨b,h1,h2,h3⟩
 ·exact .inl h
 ·exact .inr ⟨b,h1,hx.get h2,h3⟩
theorem uO.len {α:Type}{enc:α→List T}{n n0:Nat}{H:ae}{t:T}{l:List α}(h:uO enc n n0 H t l):gb H .sl t=some l.length:=by
 rcases h with⟨rfl,rfl⟩|⟨b,rfl,_,_⟩<;>rfl
structure KG (n0:Nat)(H:ae)(t:T)(H':ae):Prop where
 len:H.length≤H'.length
 get:∀b x,H[b]?=some x→(∀off len n,t≠.aB b off len n)→H'[b]?=some x
 ext:∀H0:ae,H0.length≤n0→Ext H0 H→Ext H0 H'
theorem lM {α:Type}{enc:α→List T}{n n0:Nat}(hn:∀x,(enc x).length=n){H:ae}{t:T}{l:List α}{bytes:Nat}(new:List α)(h:uO enc n n0 H t l)(xd:n0≤H.length)(ig:new≠[])(hr:dv (l.length+new.length) bytes=true) :
  ∃t' H',ko H n bytes t (new.map enc)=some (t',H')∧uO enc n n0 H' t' (l++new)∧KG n0 H t H':=by
 have jQ:(new.map enc).flatten=aK enc new:=by simp[aK,List.flatMap]
 have HL:∀l:List α,aK enc l++aK enc new=aK enc (l++new):=fun l=>by simp[aK]
 unfold ko
 cases new with
 | nil=>exact absurd rfl ig
 | cons c new =>
  rcases h with⟨rfl,rfl⟩|⟨b,rfl,hb,JS⟩
  ·simp only[List.map_cons,List.length_cons,List.length_nil,List.length_map,Nat.zero_add]at hr jQ ⊢
   simp only[hr,and_true,if_true]
   refine⟨_,_,rfl,.inr ⟨H.length,by simp,?_,xd⟩,⟨by simp,fun b x hx _=>by rw[gW (bo hx)];exact hx,fun H0 _ h=>h.app _⟩⟩
   rw[bT rfl,jQ];rfl
  ·have hc:l.length*n=(aK enc l).length:=(cC hn l).symm
   simp only[List.map_cons,List.length_cons,List.length_map]at hr jQ ⊢
   simp only[hb,hc,hr,and_self,if_true]
   refine⟨_,_,rfl,.inr ⟨H.length,by simp,?_,xd⟩,⟨by simp,fun b' x hx aY=>?_,fun H0 h0 h=>(h.set (Nat.le_trans h0 JS) _).app _⟩⟩
   ·rw[bT (by simp),jQ,HL]
   ·have Gm:b≠b':=fun e=>aY 0 l.length n (by rw[e])
    rw[gW (by rw[List.length_set];exact bo hx),jS Gm];exact hx
theorem wk {α:Type}{enc:α→List T}{n:Nat}(hn:∀x,(enc x).length=n)(l:List α):eY (aK enc l) 0 l.length n=l.map enc:=by
 unfold eY
 refine List.ext_getElem? fun i=>?_
 by_cases hi:i<l.length
 ·have:=cD hn (List.getElem?_eq_getElem hi) 0 n (by omega)
  rw[mD]at this
  split at this
  ·simp only[Option.some.injEq,Nat.add_zero,List.drop_zero]at this
   simp only[List.getElem?_map,List.getElem?_range hi,Option.map_some,Nat.zero_add,this,List.getElem?_eq_getElem hi]
   rw[List.take_of_length_le (by rw[hn];omega)]
  ·cases this
 ·rw[List.getElem?_eq_none (by simp;omega),List.getElem?_eq_none (by simp;omega)]
end Go.Rmp
end

section
namespace Go.Rmp
set_option maxRecDepth 10000
abbrev o1 (d:Nat)(b:Bo):O:=⟨some d,.b b,none,[]⟩
section
variable {α:Type} {enc:α→List T} {n:Nat}
theorem xI (hn:∀x,(enc x).length=n){H:ae}{b:Nat}{xs:List α}(hb:H[b]?=some (.cells (aK enc xs)))(j k l c:Nat)(TM:j+k≤xs.length) :
  fI H n k (.aB b (j*n) l n)=some (((xs.drop j).take k).map enc)∧fI H n k (.dB b (j*n) l n c)=some (((xs.drop j).take k).map enc):=by
 have hm:j*n+k*n≤(aK enc xs).length:=by rw[cC hn,←Nat.add_mul];exact Nat.mul_le_mul_right n TM
 have e:(List.range k).map (fun i=>((aK enc xs).drop (j*n+i*n)).take n)=((xs.drop j).take k).map enc:=by
  have h1:=wk hn ((xs.drop j).take k)
  have hl:((xs.drop j).take k).length=k:=by simp;omega
  rw[hl]at h1
  rw[←h1]
  unfold eY
  refine List.map_congr_left fun i hi=>?_
  have hi:=List.mem_range.1 hi
  rw[Nat.zero_add,←lL hn,←lK hn,List.drop_take,List.drop_drop,List.take_take]
  congr 1
  have:i*n+n≤k*n:=by rw[←Nat.succ_mul];exact Nat.mul_le_mul_right n hi
  omega
 simp -implicitDefEqProofs only[fI,hb,hm,and_self,if_true,e]
theorem wm {H H':ae}{n bytes b off len m:Nat}{x:T}{new:List (List T)}(h:ko H n bytes x new=some (.aB b off len m,H'))(hn:new≠[]):H.length≤b:=by
 unfold ko at h
 split at h
 ·exact absurd rfl hn
 ·split at h
  ·split at h
   ·simp at h;omega
   ·cases h
  ·split at h
   ·simp at h;omega
   ·cases h
  ·split at h
   ·split at h
    ·simp at h;omega
    ·cases h
   ·cases h
  ·cases h
end
end Go.Rmp
end

section
namespace Go.Rmp
def Gn:List O→List Nat
 | []=>[]
 | o :: l=>match o.d with
  | some d=>d :: Gn l
  | none=>Gn l
def wr:C→List Nat
 | .skip=>[]
 | .ops l=>Gn l
 | .seq a b=>wr a++wr b
 | .cond _ a b=>wr a++wr b
 | .block _ a=>wr a
 | .loop a=>wr a
 | .exit _=>[]
 | .ret=>[]
 | .cg n _ _ _ _=>[n]
def KH:J→List Nat
 | .code c _=>wr c
 | .ops l _=>Gn l
 | .call _ _=>[]
def KI:J→ax
 | .code _ R=>R
 | .ops _ R=>R
 | .call _ _=>fun _=>aW
def Kp (j:J)(o:Out):Prop:=match j with
 | .call _ _=>True
 | j=>∀e R',o=.ex e R'→∀t,t∉KH j→R' t=KI j t
theorem EC {R:ax}{d:Option Nat}{v:T}{t:Nat}(h:∀x,d=some x→t≠x):a0 R d v t=R t:=by
 cases d with
 | none=>rfl
 | some x=>simp[a0,kQ,h x rfl]
theorem AZ {o:O}{l:List O}{t:Nat}(h:t∉Gn (o :: l)):(∀x,o.d=some x→t≠x)∧t∉Gn l:=by
 unfold Gn at h
 cases e:o.d with
 | none=>rw[e]at h;exact⟨fun x hx=>(by cases hx),h⟩
 | some d=>rw[e]at h;simp only[List.mem_cons,not_or]at h;exact⟨fun x hx=>(by cases hx;exact h.1),h.2⟩
theorem iG {o:O}{l:List O}{R:ax}{v:T}{x:Out}(h:Kp (.ops l (a0 R o.d v)) x):Kp (.ops (o :: l) R) x:=fun e R' he t ht=>by
 obtain⟨h1,h2⟩:=AZ ht
 rw[h e R' he t h2]
 exact EC h1
theorem A0 {c:C}{R:ax}{e:Ex}{R':ax}(h:∀t,t∉wr c→R' t=R t):Kp (.code c R) (.ex e R'):=fun e' R2 he t ht=>by
 injection he with h1 h2
 rw[←h2];exact h t ht
theorem OY {l:List O}{R:ax}{e:Ex}{R':ax}(h:∀t,t∉Gn l→R' t=R t):Kp (.ops l R) (.ex e R'):=fun e' R2 he t ht=>by
 injection he with h1 h2
 rw[←h2];exact h t ht
theorem W.jc {E:Env}{j:J}{H:ae}{Q:Out→ae→Prop}(h:W E j H Q):W E j H (fun o H'=>Q o H'∧Kp j o):=by
 induction h with
 | skip h=>exact .skip ⟨h,A0 fun _ _=>rfl⟩
 | exit h=>exact .exit ⟨h,A0 fun _ _=>rfl⟩
 | ret h=>exact .ret ⟨h,A0 fun _ _=>rfl⟩
 | G2 _ ih=>exact .G2 (ih.use fun o H' h=>⟨h.1,h.2⟩)
 | @seq a b R H Q M h1 h2 h3 rK kS =>
  refine .seq _ rK (fun R' H' hm=>(kS R' H' hm.1).use fun o H2 h=>⟨h.1,fun e R2 he t ht=>?_⟩) (fun o H' hm hn=>⟨h3 o H' hm.1 hn,fun e R2 he t ht=>?_⟩)
  ·have qL:t∉wr a∧t∉wr b:=by simpa[KH,wr]using ht
   rw[h.2 e R2 he t qL.2];exact hm.2 _ _ rfl t qL.1
  ·have qL:t∉wr a∧t∉wr b:=by simpa[KH,wr]using ht
   exact hm.2 e R2 he t qL.1
 | @cond x a b R H Q t hx h ih =>
  refine .cond t hx (ih.use fun o H' h=>⟨h.1,fun e R2 he t' ht=>?_⟩)
  have qL:t'∉wr a∧t'∉wr b:=by simpa[KH,wr]using ht
  refine h.2 e R2 he t' ?_
  cases t
  ·exact qL.2
  ·exact qL.1
 | block M h1 h2 h3 ih =>
  exact .block _ ih (fun R' H' hm=>⟨h2 R' H' hm.1,A0 fun t ht=>hm.2 _ _ rfl t ht⟩) (fun o H' hm hn=>⟨h3 o H' hm.1 hn,fun e R2 he t ht=>hm.2 e R2 he t ht⟩)
 | loop M h1 h2 h3 rK kS =>
  refine .loop _ rK (fun R' H' hm=>(kS R' H' hm.1).use fun o H2 h=>⟨h.1,fun e R2 he t ht=>?_⟩) (fun o H' hm hn=>⟨h3 o H' hm.1 hn,fun e R2 he t ht=>hm.2 e R2 he t ht⟩)
  rw[h.2 e R2 he t ht];exact hm.2 _ _ rfl t ht
 | nil h=>exact .nil ⟨h,OY fun _ _=>rfl⟩
 | no hg _ ih=>exact .no hg (ih.use fun o H' h=>⟨h.1,iG h.2⟩)
 | op hg he hs _ ih=>exact .op hg he hs (ih.use fun o H' h=>⟨h.1,iG (o:=⟨_,.b _,_,_⟩) h.2⟩)
 | Jk hg ht hb hlen h0 he hs _ ih=>exact .Jk hg ht hb hlen h0 he hs (ih.use fun o H' h=>⟨h.1,iG (o:=⟨_,.b _,_,_⟩) h.2⟩)
 | call M hg h1 hs _ _ kS=>exact .call M hg h1 hs (fun v H' hm=>(kS v H' hm).use fun o H' h=>⟨h.1,iG (o:=⟨_,.call _ _,_,_⟩) h.2⟩)
 | cq M hg hf h1 hs _ _ kS=>exact .cq M hg hf h1 hs (fun v H' hm=>(kS v H' hm).use fun o H' h=>⟨h.1,iG (o:=⟨_,.cq _ _,_,_⟩) h.2⟩)
 | mQ M1 M hg hf hb hn h1 pr h2 nG pt _ CV _ _ _ Jw Jx=>exact .mQ M1 M hg hf hb hn h1 pr h2 nG pt (fun R' H' hm=>(Jw R' H' hm).use fun o H' h=>⟨h.1,iG (o:=⟨_,.cq _ _,_,_⟩) h.2⟩) CV (fun e R' H' hm he=>(Jx e R' H' hm he).use fun o H' h=>⟨h.1,iG (o:=⟨_,.cq _ _,_,_⟩) h.2⟩)
 | ud hs h hx hy hc ih=>exact .ud hs (fun b=>(ih b).use fun o H' h=>⟨h.1,iG (o:=⟨_,.b _,_,_⟩) h.2⟩) hx hy hc
 | @cg n x ps cf body R H Q f cs M hx h1 h2 _ =>
  refine .cg M hx h1 (fun v H' hm=>let ⟨st,pe,a,b,c,d⟩:=h2 v H' hm;⟨st,pe,a,b,c,d,A0 fun t ht=>?_⟩)
  have ht:t≠n:=by simpa[KH,wr]using ht
  simp[kQ,ht,KI]
 | Ji M hf hn h1 h2 _=>exact .Ji M hf hn h1 (fun o H' hm=>let ⟨R',bs,a,b,c,d,v,e,f⟩:=h2 o H' hm;⟨R',bs,a,b,c,d,v,e,f,trivial⟩)
 | fn M hf hr hn h1 h2 _=>exact .fn M hf hr hn h1 (fun o H' hm=>let ⟨R',a,v,b,c⟩:=h2 o H' hm;⟨R',a,v,b,c,trivial⟩)
 | yz i M hi h1 h2 _=>exact .yz i M hi h1 (fun v H' hm=>⟨h2 v H' hm,trivial⟩)
 | m8 M h1 h2 _=>exact .m8 M h1 (fun o H' hm=>let ⟨v,b,cs,a,c,d,e⟩:=h2 o H' hm;⟨v,b,cs,a,c,d,e,trivial⟩)
 | ni hg hx hb hs _ ih=>exact .ni hg hx hb hs fun t H' hm=>(ih t H' hm).use fun o H' h=>⟨h.1,iG (o:=⟨_,.b _,_,_⟩) h.2⟩
 | shr M h1 h2 _=>exact .shr M h1 (fun o H' hm=>let ⟨v,b,cs,k,a,c,d,e⟩:=h2 o H' hm;⟨v,b,cs,k,a,c,d,e,trivial⟩)
 | yA i hi hb _ ih=>exact .yA i hi hb (ih.use fun o H' h=>⟨h.1,trivial⟩)
 | Jj hk hb _ ih=>exact .Jj hk hb (ih.use fun o H' h=>⟨h.1,trivial⟩)
 | vw hl hv _ ih=>exact .vw hl hv (ih.use fun o H' h=>⟨h.1,trivial⟩)
 | l8 h=>exact .l8 (E.mono _ _ _ _ _ h fun t H' hm=>⟨hm,trivial⟩)
def Gp:List (Nat×T)→ax→ax
 | [],R=>R
 | (t,v) :: l,R=>kQ (Gp l R) t v
theorem aA (R:ax):Gp [] R=R:=rfl
theorem aw (t:Nat)(v:T)(l:List (Nat×T))(R:ax):Gp ((t,v) :: l) R=kQ (Gp l R) t v:=rfl
def mX:List (Nat×T)→ax→Prop
 | [],_=>True
 | (t,v) :: l,R=>R t=v∧mX l R
def OZ (vs:List (Nat×T))(w:List Nat):Bool:=vs.all fun p=>!w.elem p.1
theorem Ic {R:ax}{t:Nat}{v:T}(h:R t=v):kQ R t v=R:=by
 funext x;by_cases e:x=t
 ·subst e;simp[kQ,h]
 ·simp[kQ,e]
theorem mF:∀(vs:List (Nat×T)) (R:ax),mX vs R→Gp vs R=R
 | [],_,_=>rfl
 | (t,v) :: l,R,h=>by rw[aw,mF l R h.2,Ic h.1]
theorem oF:∀(vs:List (Nat×T)) (R R':ax),mX vs R→(∀p∈vs,R' p.1=R p.1)→mX vs R'
 | [],_,_,_,_=>trivial
 | (t,v) :: l,R,R',h,k=>⟨(k (t,v) List.mem_cons_self).trans h.1,oF l R R' h.2 fun p hp=>k p (List.mem_cons_of_mem _ hp)⟩
theorem wo {vs:List (Nat×T)}{w:List Nat}(h:OZ vs w=true):∀p∈vs,p.1∉w:=fun p hp hw=>by
 have:=(List.all_eq_true.1 h) p hp
 simp[hw]at this
theorem W.ea {E:Env}{α:Type}{a:C}{R:ax}{H:ae}{Q:Out→ae→Prop}(vs:List (Nat×T))(I:α→ax→ae→Prop)(μ:α→Nat)(x:α)
  (h0:I x R H) (step:∀x R H,I x R H→fQ E a (Gp vs R) H (lH (fun R' H'=>∃y,μ y<μ x∧I y R' H') Q))
  (hv:mX vs R:=by repeat' (first|exact trivial|refine And.intro rfl ?_)) (hw:OZ vs (wr a)=true:=by rfl):W E (.code (.loop a) R) H Q:=by
 have key:∀(n:Nat) (x:α) (R:ax) (H:ae),μ x=n→I x R H→mX vs R→W E (.code (.loop a) R) H Q:=by
  intro n
  induction n using Nat.strongRecOn with
  | _ n ih =>
   intro x R H hn hI rU
   have hs:=step x R H hI
   rw[mF vs R rU]at hs
   refine .loop _ (jt a R H _ hs).jc (fun R' H' hm=>?_) (fun o H' hm jn=>?_)
   ·obtain⟨⟨y,hy,OX⟩,hk⟩:=hm
    exact ih (μ y) (hn▸hy) y R' H' rfl OX (oF vs R R' rU fun p hp=>hk _ _ rfl p.1 (wo hw p hp))
   ·cases o with
    | ex e R'=>cases e with
     | normal=>exact absurd rfl (jn R')
     | exit id=>exact hm.1
     | ret=>exact hm.1
    | val v=>exact hm.1
 exact key _ x R H rfl h0 hv
theorem W.tf {E:Env}{α:Type}{a:C}{R:ax}{H:ae}{Q:Out→ae→Prop}(id:Nat)(vs:List (Nat×T))(I:α→ax→ae→Prop)(μ:α→Nat)(x:α)(P:ax→ae→Prop)
  (h0:I x R H) (step:∀x R H,I x R H→fQ E a (Gp vs R) H (lH (fun R' H'=>∃y,μ y<μ x∧I y R' H') (lJ id P Q))) (rest:∀R H,P R H→Q (.ex (.exit id) (Gp vs R)) H)
  (hv:mX vs R:=by repeat' (first|exact trivial|refine And.intro rfl ?_)) (hw:OZ vs (wr a)=true:=by rfl):W E (.code (.loop a) R) H Q:=by
 have h:=(W.ea (Q:=lJ id P Q) vs I μ x h0 step hv hw).jc
 refine h.use fun o H' hm=>?_
 cases o with
 | ex e R'=>cases e with
  | exit i =>
   obtain⟨h1,hk⟩:=hm
   simp only[lJ]at h1
   split at h1
   ·rename_i e;subst e
    have rU:mX vs R':=oF vs R R' hv fun p hp=>hk _ _ rfl p.1 (wo hw p hp)
    have:=rest _ _ h1
    rwa[mF vs R' rU]at this
   ·exact h1
  | normal=>exact hm.1
  | ret=>exact hm.1
 | val v=>exact hm.1
def tb:T→Option Nat
 | .aB c _ _ _=>some c
 | _=>none
def cE (H H':ae):Prop:=∀(b:Nat) st p n R ps a c,H[b]?=some (B.loop st p n R ps a c)→∃oX p',H'[b]?=some (B.loop oX p' n R ps a c)
theorem cE.refl (H:ae):cE H H:=fun _ _ _ _ _ _ _ _ h=>⟨_,_,h⟩
theorem cE.trans {H H' H2:ae}(h:cE H H')(h':cE H' H2):cE H H2:=fun b st p n R ps a c hb=>by
 obtain⟨oX,p',h1⟩:=h b st p n R ps a c hb
 exact h' b oX p' n R ps a c h1
theorem cE.app (H l:ae):cE H (H++l):=fun _ _ _ _ _ _ _ _ h=>⟨_,_,iv h⟩
theorem cE.set {H:ae}{b:Nat}{x:B}(y:B)(hb:H[b]?=some x)(hx:∀st p n R ps a c,x≠.loop st p n R ps a c):cE H (H.set b y):=fun b' st p n R ps a c h=>by
 by_cases e:b'=b
 ·subst e;rw[hb]at h;cases h;exact absurd rfl (hx _ _ _ _ _ _ _)
 ·exact⟨st,p,by rw[List.getElem?_set_ne (fun h=>e h.symm)];exact h⟩
theorem cE.wq {H:ae}{b:Nat}{st:yo}{p:Option Ex}{n:Nat}{R:ax}{ps:List Nat}{a c:C}(oX:yo)(p':Option Ex)(hb:H[b]?=some (.loop st p n R ps a c)):cE H (H.set b (.loop oX p' n R ps a c)):=fun b' Sk p1 n1 R1 O0 a1 c1 h=>by
 by_cases e:b'=b
 ·subst e;rw[hb]at h;cases h
  exact⟨oX,p',by rw[List.getElem?_set_self (List.getElem?_eq_some_iff.1 hb).1]⟩
 ·exact⟨Sk,p1,by rw[List.getElem?_set_ne (fun h=>e h.symm)];exact h⟩
theorem ED {H H':ae}{vs:List T}{t:T}(h:Db H vs t=some H'):cE H H':=by
 unfold Db at h
 split at h
 ·split at h
  ·rename_i hb
   split at h
   ·cases h;exact cE.set _ hb (by intros;simp)
   ·cases h
  ·cases h
 ·cases h
theorem A1 {H H':ae}{bytes:Nat}{k:SK}{es new:List (List T)}{v:T}(h:jP H bytes k es new=some (v,H')):cE H H':=by
 unfold jP at h
 split at h
 ·cases h;exact cE.refl _
 ·split at h
  ·split at h
   ·cases h;exact cE.app _ _
   ·cases h;exact cE.app _ _
   ·split at h
    ·rename_i hb
     split at h
     ·cases h;exact cE.set _ hb (by intros;simp)
     ·cases h
    ·cases h
   ·cases h
  ·cases h
theorem A2 {H H':ae}{n bytes:Nat}{x:T}{new:List (List T)}{v:T}(h:ko H n bytes x new=some (v,H')):cE H H':=by
 unfold ko at h
 split at h
 ·split at h
  ·cases h;exact cE.refl _
  ·cases h
 ·split at h
  ·split at h
   ·cases h;exact cE.app _ _
   ·cases h
  ·split at h
   ·cases h;exact cE.app _ _
   ·cases h
  ·split at h
   ·rename_i hb
    split at h
    ·cases h;exact(cE.set .dead hb (by intros;simp)).trans (cE.app _ _)
    ·cases h
   ·cases h
  ·cases h
theorem EE {H H':ae}{n:Nat}{x y v:T}(h:yp H n x y=some (v,H')):cE H H':=by
 unfold yp at h
 split at h
 ·split at h
  ·rename_i hb _
   split at h
   ·cases h;exact cE.set _ hb (by intros;simp)
   ·cases h
  ·cases h
 ·split at h
  ·rename_i hb _
   split at h
   ·cases h;exact cE.set _ hb (by intros;simp)
   ·cases h
  ·cases h
 ·cases h
theorem wv {α:Type}{o:Option α}{f:α→T}{H H':ae}{v:T}(h:o.map (fun x=>(f x,H))=some (v,H')):cE H H':=by
 cases o with
 | none=>cases h
 | some x=>cases h;exact cE.refl _
theorem A3 {R : ax}{H H' : ae}{b : Bo}{v : T}(h : av R H b = some (v, H')) : cE H H' := by
  cases hk : mw b with
  | pure => rw[(jH hk h).1]; exact cE.refl _
  | read => rw[(jI hk h).1]; exact cE.refl _
  | make => cases b<;>simp only[mw]at hk<;>(try (cases hk; done))<;>simp only[av]at h
            · split at hk<;>cases hk
            · cases h; exact cE.app _ _
            · cases h; exact cE.app _ _
  | FO =>
    cases b<;>simp only[mw]at hk<;>(try (cases hk; done))<;>simp only[av]at h
    case l7 => exact wv h
    case N4 =>
      split at h
      · split at h
        · cases h; exact cE.refl _
        · split at h
          · cases h; exact cE.app _ _
          · cases h
      · cases h
    case box x =>
      cases hc : (x.ev R).cells? with
      | none => rw[hc]at h; cases h
      | some cs => rw[hc]at h; cases h; exact cE.app _ _
    case st =>
      split at h
      · split at h
        · rw[Option.map_eq_some_iff]at h
          obtain⟨H2, h1, h2⟩ := h
          cases h2; exact ED h1
        · cases h
      · cases h
    case x7 =>
      split at h
      · split at h
        · split at h
          · rename_i hb
            split at h
            · cases h; exact cE.set _ hb (by intros; simp)
            · cases h; exact cE.set _ hb (by intros; simp)
            · cases h
          · cases h
        · cases h
      · cases h
    case del =>
      split at h
      · split at h
        · split at h
          · rename_i hb
            split at h
            · cases h; exact cE.set _ hb (by intros; simp)
            · cases h; exact cE.refl _
            · cases h
          · cases h
        · cases h
      · cases h
    case app =>
      split at h
      · split at h
        · exact A2 h
        · split at h
          · split at h
            · exact A1 h
            · cases h
          · cases h
      · cases h
    case G0 =>
      split at h
      · split at h
        · split at h
          · cases h; exact cE.app _ _
          · split at h
            · cases h; exact cE.refl _
            · cases h; exact cE.app _ _
        · cases h
      · cases h
    case cap =>
      split at h
      · cases h; exact cE.refl _
      · cases h
    case C9 => exact EE h
    case JG x =>
      split at h
      · rename_i bb _
        simp only[eJ]at h
        split at h
        · rename_i hb; cases h; exact(cE.set _ hb (by intros; simp)).trans (cE.app _ _)
        · rename_i hb; cases h; exact(cE.set _ hb (by intros; simp)).trans (cE.app _ _)
        · cases h
      · cases h
    case ni => cases h
    case JH =>
      split at h
      · split at h
        · split at h
          · split at h
            · exact wv h
            · cases h
          · cases h
        · cases h
      · cases h
    case Je =>
      split at h
      · split at h
        · rename_i hb
          split at h
          · cases h; exact cE.set _ hb (by intros; simp)
          · cases h
        · cases h
      · cases h
    case Jd =>
      unfold yq at h
      split at h
      · split at h
        · split at h
          · cases h; exact cE.refl _
          · cases h
        · cases h
      · cases h
    case JI =>
      rw[Option.bind_eq_some_iff]at h
      obtain⟨k, _, h⟩ := h
      unfold Dd at h
      split at h
      · split at h
        · split at h
          · cases h; exact cE.app _ _
          · cases h
        · cases h
      · cases h
    case Jf =>
      rw[Option.bind_eq_some_iff]at h
      obtain⟨k, _, h⟩ := h
      split at h
      · cases h; exact cE.app _ _
      · cases h
    case Da =>
      split at h
      · split at h
        · cases h; exact cE.refl _
        · cases h
      · cases h
inductive fj where
 | lf
 | nd (v:T) (l r:fj)
 | ov (d:Nat) (v:T) (t:fj)
noncomputable def fj.get (t:fj):Nat→T :=
 fj.rec (motive:=fun _=>Nat→T) (fun _=>aW) (fun v _ _ gl gr n=>Nat.casesOn (motive:=fun _=>T) n v fun m=>bif Nat.beq (Nat.mod m 2) 0 then gl (Nat.div m 2)else gr (Nat.div m 2)) (fun d v _ g n=>bif Nat.beq n d then v else g n) t
noncomputable def fj.set (t:fj):Nat→T→fj :=
 fj.rec (motive:=fun _=>Nat→T→fj) (fun n v=>.ov n v .lf) (fun x l r gl gr n v=>Nat.casesOn (motive:=fun _=>fj) n (.nd v l r) fun m=>bif Nat.beq (Nat.mod m 2) 0 then .nd x (gl (Nat.div m 2) v) r else .nd x l (gr (Nat.div m 2) v)) (fun d x t g n v=>bif Nat.beq n d then .ov d v t else .ov d x (g n v)) t
def fj.full:Nat→fj
 | 0=>.lf
 | n+1=>.nd aW (fj.full n) (fj.full n)
noncomputable abbrev lk (t:fj):ax:=t.get
theorem fj.oG:∀(k n:Nat),(fj.full k).get n=aW
 | 0,n=>rfl
 | k+1,0=>rfl
 | k+1,n+1=>by
  show(bif Nat.beq (Nat.mod n 2) 0 then(fj.full k).get (Nat.div n 2)else(fj.full k).get (Nat.div n 2))=_
  cases Nat.beq (Nat.mod n 2) 0
  ·exact fj.oG k _
  ·exact fj.oG k _
theorem A4 (t:fj):∀(d:Nat) (v:T) (n:Nat),(t.set d v).get n=if n=d then v else t.get n:=by
 induction t with
 | lf =>
  intro d v n
  show(bif Nat.beq n d then v else aW)=if n=d then v else aW
  cases h:Nat.beq n d
  ·rw[if_neg (Nat.ne_of_beq_eq_false h)];rfl
  ·rw[if_pos (Nat.eq_of_beq_eq_true h)];rfl
 | nd x l r TN TO =>
  intro d v n
  cases d with
  | zero=>cases n with
   | zero=>rfl
   | succ n=>rw[if_neg (by omega)];rfl
  | succ d =>
   have hs:(fj.nd x l r).set (d+1) v=bif Nat.beq (Nat.mod d 2) 0 then .nd x (l.set (Nat.div d 2) v) r else .nd x l (r.set (Nat.div d 2) v):=rfl
   rw[hs]
   have hg:∀a b,(fj.nd x a b).get (n)=Nat.casesOn (motive:=fun _=>T) n x fun m=>bif Nat.beq (Nat.mod m 2) 0 then a.get (Nat.div m 2)else b.get (Nat.div m 2):=fun _ _=>rfl
   cases n with
   | zero=>rw[if_neg (by omega)];cases Nat.beq (Nat.mod d 2) 0<;>rfl
   | succ n =>
    have e1:Nat.mod d 2=d%2:=rfl
    have e2:Nat.mod n 2=n%2:=rfl
    have e3:Nat.div d 2=d/2:=rfl
    have e4:Nat.div n 2=n/2:=rfl
    cases hd:Nat.beq (Nat.mod d 2) 0
    ·have eZ:=Nat.ne_of_beq_eq_false hd
     simp only[cond_false]
     rw[hg,hg]
     cases hn:Nat.beq (Nat.mod n 2) 0
     ·have FF:=Nat.ne_of_beq_eq_false hn
      simp only[hn,cond_false]
      rw[TO]
      by_cases e:n=d
      ·subst e;simp
      ·rw[if_neg (by omega),if_neg (by omega)]
     ·have FF:=Nat.eq_of_beq_eq_true hn
      simp only[hn,cond_true]
      rw[if_neg (by omega)]
    ·have eZ:=Nat.eq_of_beq_eq_true hd
     simp only[cond_true]
     rw[hg,hg]
     cases hn:Nat.beq (Nat.mod n 2) 0
     ·have FF:=Nat.ne_of_beq_eq_false hn
      simp only[hn,cond_false]
      rw[if_neg (by omega)]
     ·have FF:=Nat.eq_of_beq_eq_true hn
      simp only[hn,cond_true]
      rw[TN]
      by_cases e:n=d
      ·subst e;simp
      ·rw[if_neg (by omega),if_neg (by omega)]
 | ov d0 x t ih =>
  intro d v n
  have hs:(fj.ov d0 x t).set d v=bif Nat.beq d d0 then .ov d0 v t else .ov d0 x (t.set d v):=rfl
  have hg:∀y a,(fj.ov d0 y a).get n=bif Nat.beq n d0 then y else a.get n:=fun _ _=>rfl
  rw[hs]
  cases h1:Nat.beq d d0
  ·have pr:=Nat.ne_of_beq_eq_false h1
   simp only[cond_false]
   rw[hg,hg]
   cases h2:Nat.beq n d0
   ·simp only[cond_false];rw[ih]
   ·have nG:=Nat.eq_of_beq_eq_true h2
    simp only[cond_true];rw[if_neg (by omega)]
  ·have pr:=Nat.eq_of_beq_eq_true h1
   simp only[cond_true]
   rw[hg,hg]
   cases h2:Nat.beq n d0
   ·have nG:=Nat.ne_of_beq_eq_false h2
    simp only[cond_false];rw[if_neg (by omega)]
   ·have nG:=Nat.eq_of_beq_eq_true h2
    simp only[cond_true];rw[if_pos (by omega)]
noncomputable def pk (L:fj)(d:Option Nat)(v:T):fj:=match d with|some d=>L.set d v|none=>L
theorem uP (L:fj)(d:Nat)(v:T):lk (L.set d v)=kQ (lk L) d v:=funext fun t=>A4 L d v t
theorem jM (L:fj)(d:Option Nat)(v:T):lk (pk L d v)=a0 (lk L) d v:=by
 cases d with
 | none=>rfl
 | some d=>exact uP L d v
noncomputable def xJ (L:fj):Nat→List T→fj
 | _,[]=>L
 | i,v :: vs=>xJ (L.set i v) (i+1) vs
theorem tg:∀(vs:List T) (L:fj) (i n:Nat),(xJ L i vs).get n=if i≤n∧n<i+vs.length then vs.getD (n-i) aW else L.get n
 | [],L,i,n=>by simp only[xJ,List.length_nil];rw[if_neg (by omega)]
 | v :: vs,L,i,n=>by
  simp only[xJ,List.length_cons]
  rw[tg vs,A4]
  by_cases h1:n=i
  ·subst h1
   rw[if_neg (by omega),if_pos rfl,if_pos (by omega)];simp
  ·by_cases h2:i+1≤n∧n<i+1+vs.length
   ·rw[if_pos h2,if_pos (by omega)]
    have:n-i=(n-(i+1))+1:=by omega
    rw[this];simp
   ·rw[if_neg h2,if_neg h1,if_neg (by omega)]
noncomputable def Ie (az:List T):fj:=xJ (fj.full 9) 0 az
theorem O1 (az:List T):lk (Ie az)=gq az:=by
 funext n
 show(xJ (fj.full 9) 0 az).get n=az.getD n aW
 rw[tg,fj.oG]
 by_cases h:n<az.length
 ·rw[if_pos (by omega)];simp
 ·rw[if_neg (by omega)];simp[List.getElem?_eq_none (Nat.le_of_not_lt h)]
noncomputable def th (L:fj):List Nat→List T→fj
 | p :: ps,v :: vs=>th (L.set p v) ps vs
 | _,_=>L
theorem Gq:∀(ps:List Nat) (L:fj) (vs:List T),lk (th L ps vs)=kV (lk L) ps vs
 | [],L,vs=>by cases vs<;>rfl
 | p :: ps,L,[]=>rfl
 | p :: ps,L,v :: vs=>by simp only[th,kV];rw[Gq ps,uP]
def ju (k:IntKind)(n:Int):Int:=match k,n with
 | .i64,.ofNat a=>bif Nat.ble a 9223372036854775807 then n else k.wrap n
 | .u64,.ofNat a=>.ofNat (Nat.mod a 18446744073709551616)
 | .u32,.ofNat a=>.ofNat (Nat.mod a 4294967296)
 | .u8,.ofNat a=>.ofNat (Nat.mod a 256)
 | k,n=>k.wrap n
theorem ti (k:IntKind)(n:Int):ju k n=k.wrap n:=by
 unfold ju
 split
 ·rename_i a
  cases h:Nat.ble a 9223372036854775807
  ·rfl
  ·have:=Nat.le_of_ble_eq_true h
   simp only[cond_true]
   rw[wrap64 (by have:(Int.ofNat a)=(a:Int):=rfl;omega)]
 ·simp[IntKind.wrap,IntKind.signed,IntKind.bits];rfl
 ·simp[IntKind.wrap,IntKind.signed,IntKind.bits];rfl
 ·simp[IntKind.wrap,IntKind.signed,IntKind.bits];rfl
 ·rfl
def KJ (k:IntKind)(x:Int)(k':IntKind)(y:Int):Option T:=if k=k' then some (.int k (ju k (x+y)))else none
def KK (k:IntKind)(x:Int)(k':IntKind)(y:Int):Option T:=if k=k' then some (.int k (ju k (x-y)))else none
def KL (k:IntKind)(x:Int)(k':IntKind)(y:Int):Option T:=if k=k' then some (.int k (ju k (x*y)))else none
def KM (k:IntKind)(x:Int)(k':IntKind)(y:Int):Option T:=if k=k' then some (.bool (x<y))else none
def KN (k:IntKind)(x:Int)(k':IntKind)(y:Int):Option T:=if k=k' then some (.bool (x≤y))else none
def KO (k:IntKind)(x:Int)(k':IntKind)(y:Int):Option T:=if k=k' then some (.bool (x>y))else none
def KP (k:IntKind)(x:Int)(k':IntKind)(y:Int):Option T:=if k=k' then some (.bool (x≥y))else none
def KQ (k:IntKind)(x:Int)(k':IntKind)(y:Int):Option T:=if k=k' then some (.bool (x==y))else none
def KR (k:IntKind)(x:Int)(k':IntKind)(y:Int):Option T:=if k=k' then some (.bool (x != y))else none
def KS (k:IntKind)(x:Int)(k':IntKind)(y:Int):Option T:=if k=k' then some (.int k (ju k (BitVec.ofInt k.bits x &&& BitVec.ofInt k.bits y).toNat))else none
def Sl (k:IntKind)(x:Int)(k':IntKind)(y:Int):Option T:=if k=k' then some (.int k (ju k (BitVec.ofInt k.bits x ||| BitVec.ofInt k.bits y).toNat))else none
def KU (k:IntKind)(x:Int)(k':IntKind)(y:Int):Option T:=if k=k' then some (.int k (ju k (BitVec.ofInt k.bits x ^^^ BitVec.ofInt k.bits y).toNat))else none
def KV (k:IntKind)(x:Int)(k':IntKind)(y:Int):Option T:=if k=k' then if y=0 then none else some (.int k (ju k (x.tdiv y)))else none
def KW (k:IntKind)(x:Int)(k':IntKind)(y:Int):Option T:=if k=k' then if y=0 then none else some (.int k (x.tmod y))else none
def KX (k:IntKind)(x:Int)(y:Int):Option T:=if y<0 then none else some (.int k (ju k (x*2^(min y.toNat k.bits))))
def KY (k:IntKind)(x:Int)(y:Int):Option T:=if y<0 then none else some (.int k (x.fdiv (2^(min y.toNat k.bits))))
def KZ (op:BinOp)(k:IntKind)(x:Int)(k':IntKind)(y:Int):Option T:=match op with
 | .add=>KJ k x k' y
 | .sub=>KK k x k' y
 | .mul=>KL k x k' y
 | .lss=>KM k x k' y
 | .leq=>KN k x k' y
 | .gtr=>KO k x k' y
 | .geq=>KP k x k' y
 | .eql=>KQ k x k' y
 | .neq=>KR k x k' y
 | .and=>KS k x k' y
 | .or=>Sl k x k' y
 | .xor=>KU k x k' y
 | .quo=>KV k x k' y
 | .rem=>KW k x k' y
 | .shl=>KX k x y
 | .shr=>KY k x y
 | op=>bD op (.int k x) (.int k' y)
def Ig (op:BinOp)(a b:T):Option T:=match a,b with
 | .int k x,.int k' y=>KZ op k x k' y
 | a,b=>bD op a b
theorem EF (op:BinOp)(a b:T):Ig op a b=bD op a b:=by
 unfold Ig
 split
 ·unfold KZ
  split<;>simp only[KJ,KK,KL,KM,KN,KO,KP,KQ,KR,KS,Sl,KU,KV,KW,KX,KY,ti,bD]
 ·rfl
def oH (o:Option T)(H:ae):Option (T×ae):=match o with
 | some v=>some (v,H)
 | none=>none
theorem gX (o:Option T)(H:ae):oH o H=o.map (·,H):=by cases o<;>rfl
def Sm (R:ax)(H:ae)(n:Nat)(ag:Bool)(x:X):Option (T×ae):=match iU H n (x.ev R)with
 | some cs=>oH (valOf ag cs) H
 | none=>none
def Sn (R:ax)(H:ae)(n:Nat)(a v:X):Option (T×ae):=match (v.ev R).cells? with
 | some vs=>if vs.length=n then(match Db H vs (a.ev R)with|some H'=>some (aW,H')|none=>none)else none
 | none=>none
def K0 (R:ax)(H:ae)(i:Nat)(x:X):Option (T×ae):=match x.ev R with
 | .bC vs=>oH vs[i]? H
 | _=>none
def Gr (R:ax)(H:ae)(c a b:X):Option (T×ae):=match c.ev R with
 | .bool t=>some (if t then a.ev R else b.ev R,H)
 | _=>none
def K1 (R:ax)(H:ae)(k:Lc)(x:X):Option (T×ae):=match gb H k (x.ev R)with
 | some n=>some (.int .i64 (n:Int),H)
 | none=>none
def K2 (R:ax)(H:ae)(n:Nat)(x i:X):Option (T×ae):=match bd (i.ev R)with
 | some i=>oH (eW n i (x.ev R)) H
 | none=>none
def K3 (R:ax)(H:ae)(k:IntKind)(x:X):Option (T×ae):=match x.ev R with
 | .int _ n=>some (.int k (ju k n),H)
 | _=>none
def A5 (R:ax)(H:ae)(b:Bo):Option (T×ae):=match b with
 | .aD x=>some (x.ev R,H)
 | .bin op x y=>oH (Ig op (x.ev R) (y.ev R)) H
 | .ld n ag x=>Sm R H n ag x
 | .st n a v=>Sn R H n a v
 | .gL off x=>oH (fH off (x.ev R)) H
 | .ext i x=>K0 R H i x
 | .pick c a b=>Gr R H c a b
 | .len k x=>K1 R H k x
 | .cK n x i=>K2 R H n x i
 | .un op x=>oH (Jg op (x.ev R)) H
 | .fB k x=>K3 R H k x
 | .alloc z=>some (.ptr H.length 0,H++[.cells z])
 | b=>av R H b
theorem A6 (R:ax)(H:ae)(b:Bo):A5 R H b=av R H b:=by
 unfold A5
 split
 ·rfl
 ·simp only[av,gX,EF]
 ·rename_i n ag x
  simp only[av,Sm,gX]
  cases iU H n (x.ev R)<;>rfl
 ·rename_i n a v
  simp only[av,Sn]
  cases(v.ev R).cells? with
  | none=>rfl
  | some vs =>
   simp only
   split
   ·cases Db H vs (a.ev R)<;>rfl
   ·rfl
 ·simp only[av,gX]
 ·rename_i i x
  simp only[av,K0,gX]
  cases x.ev R<;>rfl
 ·rename_i c a b
  simp only[av,Gr]
  cases c.ev R<;>rfl
 ·rename_i k x
  simp only[av,K1]
  cases gb H k (x.ev R)<;>rfl
 ·rename_i n x i
  simp only[av,K2,gX]
  cases bd (i.ev R)<;>rfl
 ·simp only[av,gX]
 ·rename_i k x
  simp only[av,K3,ti]
  cases x.ev R<;>rfl
 ·rfl
 ·rfl
def EG:T→T→Bool
 | .int k a,.int k' b=>decide (k=k')&&decide (a=b)
 | .bool a,.bool b=>a==b
 | .str a,.str b=>gn a b
 | .bI,.bI=>true
 | .eG,.eG=>true
 | .ptr a b,.ptr a' b'=>decide (a=a')&&decide (b=b')
 | .map b,.map b'=>decide (b=b')
 | .aB a b c d,.aB a' b' c' d'=>decide (a=a')&&decide (b=b')&&decide (c=c')&&decide (d=d')
 | _,_=>false
theorem wx {a b:T}(h:EG a b=true):a=b:=by
 unfold EG at h
 split at h<;>simp_all [eP]
def qV {α:Type}(p:α→α→Bool):List α→List α→Bool
 | [],[]=>true
 | a :: l,b :: m=>p a b&&qV p l m
 | _,_=>false
theorem qW {α:Type}{p:α→α→Bool}(hp:∀a b,p a b=true→a=b):∀(a b:List α),qV p a b=true→a=b
 | [],[],_=>rfl
 | a :: l,b :: m,h=>by
  simp only[qV,Bool.and_eq_true]at h
  rw[hp _ _ h.1,qW hp _ _ h.2]
def tj:Nat→T→T→Bool
 | 0,a,b=>EG a b
 | n+1,a,b=>match a,b with
  | .sl k es,.sl k' JR=>decide (k=k')&&qV (qV (tj n)) es JR
  | .agg a,.agg b=>qV (tj n) a b
  | .bC a,.bC b=>qV (tj n) a b
  | .bh a,.bh b=>qV (tj n) a b
  | .fn f a,.fn f' b=>decide (f=f')&&qV (tj n) a b
  | a,b=>EG a b
theorem wy:∀(n:Nat) (a b:T),tj n a b=true→a=b
 | 0,a,b,h=>wx h
 | n+1,a,b,h=>by
  have ih:=qW (wy n)
  unfold tj at h
  split at h
  ·simp only[Bool.and_eq_true,decide_eq_true_eq]at h;rw[h.1,qW ih _ _ h.2]
  ·rw[ih _ _ h]
  ·rw[ih _ _ h]
  ·rw[ih _ _ h]
  ·simp only[Bool.and_eq_true,decide_eq_true_eq]at h;rw[h.1,ih _ _ h.2]
  ·exact wx h
abbrev K4:T→T→Bool:=tj 6
theorem EH {a b:T}(h:K4 a b=true):a=b:=wy 6 a b h
def A7 (b:Bo):Bool:=match mw b with | .pure=>true | .read=>true|_=>false
noncomputable def lN (R:ax)(H:ae)(s:List Rd):Bool:=s.all fun r=>!aV R r.g||(A7 r.op&&match av R H r.op with|some (v,_)=>K4 v (R r.d)|none=>false)
theorem jv {R:ax}{H:ae}{s:List Rd}(h:lN R H s=true):eX R H s:=fun r hr hw=>by
 have:=List.all_eq_true.1 h r hr
 simp only[hw,Bool.not_true,Bool.false_or,Bool.and_eq_true]at this
 obtain⟨h1,h2⟩:=this
 cases he:av R H r.op with
 | none=>rw[he]at h2;cases h2
 | some x =>
  obtain⟨v,H'⟩:=x
  rw[he]at h2
  have hv:=EH h2
  have hh:H'=H:=by
   unfold A7 at h1
   split at h1
   ·rename_i hk;exact(jH hk he).1
   ·rename_i hk;exact(jI hk he).1
   ·cases h1
  rw[hv,hh]
inductive OE where
 | ex (e:Ex) (L:fj)
 | val (v:T)
noncomputable def OE.out:OE→Out
 | .ex e L=>.ex e (lk L)
 | .val v=>.val v
abbrev na:=Option (List (OE×ae))
inductive JE where
 | code (c:C) (L:fj)
 | call (f:Nat) (az:List T)
noncomputable def JE.j:JE→J
 | .code c L=>.code c (lk L)
 | .call f az=>.call f az
structure Yc where
 b:Nat
 n:Nat
 L:fj
 ps:List Nat
 cf:C
 body:C
def ke (ctx:List Yc)(H:ae):Prop:=∀y∈ctx,∃st p,H[y.b]?=some (B.loop st p y.n (lk y.L) y.ps y.cf y.body)
theorem ke.mono {ctx:List Yc}{H H':ae}(h:ke ctx H)(hp:cE H H'):ke ctx H':=fun y hy=>by
 obtain⟨st,p,h1⟩:=h y hy
 exact hp _ _ _ _ _ _ _ _ h1
def c9 (l:List (OE×ae)):Out→ae→Prop:=fun o H'=>∃x∈l,x.1.out=o∧x.2=H'
def kg {α:Type}:List α→(α→na)→na
 | [],_=>some []
 | x :: l,k=>match l with
  | []=>k x
  | _=>match k x with
   | none=>none
   | some a=>match kg l k with
    | none=>none
    | some b=>some (a++b)
theorem bj {α:Type}{k:α→na}:∀{l:List α} {res:List (OE×ae)},kg l k=some res→∀x∈l,∃r,k x=some r∧∀y∈r,y∈res
 | [],_,_,x,hx=>by cases hx
 | [a],res,h,x,hx=>by
  simp only[List.mem_singleton]at hx;subst hx
  exact⟨res,h,fun y hy=>hy⟩
 | a :: b :: l,res,h,x,hx=>by
  unfold kg at h
  simp only at h
  cases ha:k a with
  | none=>rw[ha]at h;cases h
  | some ra =>
   rw[ha]at h
   simp only at h
   cases hb:kg (b :: l) k with
   | none=>rw[hb]at h;cases h
   | some rb =>
    rw[hb]at h;cases h
    rcases List.mem_cons.1 hx with rfl|hx
    ·exact⟨ra,ha,fun y hy=>List.mem_append_left _ hy⟩
    ·obtain⟨r,h1,h2⟩:=bj hb x hx
     exact⟨r,h1,fun y hy=>List.mem_append_right _ (h2 y hy)⟩
theorem bR {α:Type}{k:α→na}:∀{l:List α} {res:List (OE×ae)},kg l k=some res→∀y∈res,∃x∈l,∃r,k x=some r∧y∈r
 | [],_,h,y,hy=>by cases h;cases hy
 | [a],res,h,y,hy=>⟨a,List.mem_singleton.2 rfl,res,h,hy⟩
 | a :: b :: l,res,h,y,hy=>by
  unfold kg at h
  simp only at h
  cases ha:k a with
  | none=>rw[ha]at h;cases h
  | some ra =>
   rw[ha]at h
   simp only at h
   cases hb:kg (b :: l) k with
   | none=>rw[hb]at h;cases h
   | some rb =>
    rw[hb]at h;cases h
    rcases List.mem_append.1 hy with hy|hy
    ·exact⟨a,List.mem_cons_self,ra,ha,hy⟩
    ·obtain⟨x,hx,r,h1,h2⟩:=bR hb y hy
     exact⟨x,List.mem_cons_of_mem _ hx,r,h1,h2⟩
def C4 (r:na)(k:OE→ae→na):na:=match r with
 | none=>none
 | some l=>kg l fun x=>k x.1 x.2
noncomputable def Ih (H:ae)(R:ax)(x:X):Option (List (T×ae)):=match x.ev R with
 | .ptr bi 0=>match H[bi]? with
  | some (.x8 b)=>match H[b]? with
   | some (.eH es ix FC _)=>if FC=bi then
     match ix with
     | []=>some [(.bC [.bool false],H.set b (.map es))]
     | _=>some (ix.filterMap fun i=>es[i]?.map fun e=>(.bC [.bool true,e.1,e.2],H.set b (.eH es (ix.erase i) bi (some i))))
    else none
   | _=>none
  | _=>none
 | _=>none
def K5:Bo→Option X
 | .ni x=>some x
 | _=>none
noncomputable def Ii (R:ax)(g:Gd)(s:List Rd):Bo→Bool
 | .l7 _ .slice x y=>match g,s,x.ev R,y.ev R with
  | none,[],.sl .arg [],.sl .nil []=>true
  | _,_,_,_=>false
 | _=>false
def qX (H:ae)(b:Nat):Bool:=match H[b]? with
 | some (.loop .ready none _ _ _ _ _)=>true
 | _=>false
def A8 (H:ae)(b:Nat):Bool:=match H[b]? with
 | some (.loop .busy none _ _ _ _ _)=>true
 | _=>false
noncomputable def K6 (rec:JE→List Yc→ae→na)(ctx:List Yc)(y:Yc)(vs:List T)(H:ae)(k:Bool→ae→na):na :=
 if qX H y.b&&decide (vs.length=y.ps.length)then
  C4 (rec (.code y.cf (th y.L y.ps vs)) ctx H) fun o H1=>match o with
   | .ex .normal L1=>if qX H1 y.b then
     C4 (rec (.code y.body L1) ctx (H1.set y.b (.loop .busy none y.n (lk y.L) y.ps y.cf y.body))) fun o2 H2=>if A8 H2 y.b then
      match o2 with
      | .ex .normal _=>k true (H2.set y.b (.loop .ready none y.n (lk y.L) y.ps y.cf y.body))
      | .ex e _=>k false (H2.set y.b (.loop .done (some e) y.n (lk y.L) y.ps y.cf y.body))
      | .val _=>none
      else none
    else none
   | _=>none
 else none
noncomputable def mG (rec:JE→List Yc→ae→na)(ctx:List Yc):List O→fj→ae→na
 | [],L,H=>some [(.ex .normal L,H)]
 | o :: l,L,H =>
  if aV (lk L) o.g then
   match o.op with
   | .b b=>match A5 (lk L) H b with
    | some (v,H')=>if lN (lk L) H' o.m7 then mG rec ctx l (pk L o.d v) H' else none
    | none=>match K5 b with
     | some x=>match Ih H (lk L) x with
      | some r=>kg r fun p=>if lN (lk L) p.2 o.m7 then mG rec ctx l (pk L o.d p.1) p.2 else none
      | none=>none
     | none=>if Ii (lk L) o.g o.m7 b then kg [true,false] fun t=>mG rec ctx l (pk L o.d (.bool t)) H else none
   | .call f az=>C4 (rec (.call f (az.map (X.ev (lk L)))) ctx H) fun r H'=>match r with
    | .val v=>if lN (lk L) H' o.m7 then mG rec ctx l (pk L o.d v) H' else none
    | _=>none
   | .cq x az=>match x.ev (lk L)with
    | .fn f cs=>C4 (rec (.call f (az.map (X.ev (lk L))++cs)) ctx H) fun r H'=>match r with
     | .val v=>if lN (lk L) H' o.m7 then mG rec ctx l (pk L o.d v) H' else none
     | _=>none
    | .mQ b=>match ctx.find? fun y=>y.b==b with
     | some y=>K6 rec ctx y (az.map (X.ev (lk L))) H fun t H'=>if lN (lk L) H' o.m7 then mG rec ctx l (pk L o.d (.bool t)) H' else none
     | none=>none
    | _=>none
  else mG rec ctx l (pk L o.d aW) H
def wz:Option Ex→Bool
 | some .normal=>true
 | _=>false
noncomputable def fk (rec:JE→List Yc→ae→na)(ctx:List Yc):C→fj→ae→na
 | .skip,L,H=>some [(.ex .normal L,H)]
 | .exit id,L,H=>some [(.ex (.exit id) L,H)]
 | .ret,L,H=>some [(.ex .ret L,H)]
 | .ops l,L,H=>mG rec ctx l L H
 | .seq a b,L,H=>C4 (fk rec ctx a L H) fun o H'=>match o with
  | .ex .normal L'=>fk rec ctx b L' H'
  | o=>some [(o,H')]
 | .cond x a b,L,H=>match x.ev (lk L)with
  | .bool true=>fk rec ctx a L H
  | .bool false=>fk rec ctx b L H
  | _=>none
 | .block id a,L,H=>C4 (fk rec ctx a L H) fun o H'=>match o with
  | .ex (.exit i) L'=>if i=id then some [(.ex .normal L',H')]else some [(.ex (.exit i) L',H')]
  | o=>some [(o,H')]
 | .loop a,L,H=>C4 (fk rec ctx a L H) fun o H'=>match o with
  | .ex .normal L'=>rec (.code (.loop a) L') ctx H'
  | o=>some [(o,H')]
 | .cg n x ps cf body,L,H=>match x.ev (lk L)with
  | .fn f cs=>C4 (rec (.call f (.mQ (H.length+1) :: cs)) (⟨H.length+1,n,L,ps,cf,body⟩ :: ctx) (H++[.rQ,.loop .ready none n (lk L) ps cf body])) fun o H'=>match o with
   | .val _=>match H'[H.length+1]? with
    | some (.loop st cL _ _ _ _ _)=>if st≠.busy∧wz cL=false then some [(.ex (qx cL) (L.set n (kW (L.get n) H.length)),H'.set (H.length+1) .dead)]else none
    | _=>none
   | _=>none
  | _=>none
def Ij (H:ae)(b:Nat):Bool:=match H[b]? with
 | some .rQ=>true
 | _=>false
def Ik:T→Option Nat
 | .aB b _ _ _=>some b
 | .bC vs=>vs.findSome? fun v=>match v with | .aB b _ _ _=>some b|_=>none
 | _=>none
def K7 (x:OE×ae):Option (OE×ae):=match x.1 with
 | .val v=>match Ik v with
  | some b=>match x.2[b]? with
   | some (.cells cs)=>some (.val (rS b cs v),x.2.set b .dead)
   | _=>none
  | none=>none
 | _=>none
def qY:List (OE×ae)→Option (List (OE×ae))
 | []=>some []
 | x :: l=>match K7 x,qY l with
  | some y,some m=>some (y :: m)
  | _,_=>none
def EI:Nat→List (OE×ae)→List (OE×ae)
 | 0,r=>r
 | n+1,r=>match qY r with
  | some r'=>EI n r'
  | none=>r
noncomputable def A9 (fns:Nat→Option Fn)(rec:JE→List Yc→ae→na)(ctx:List Yc)(f:Nat)(az:List T)(H:ae):na:=match fns f with
 | some fn=>if az.length=fn.np then
   C4 (rec (.code fn.body (Ie az)) ctx H) fun o H'=>match o with
    | .val _=>none
    | .ex (.exit _) _=>none
    | .ex _ L'=>if fn.body.iR then
      match marks (L'.get fn.n)with
      | some bs=>if decide bs.Nodup&&bs.all (Ij H')then match kX (lk L') (kill H' bs) fn.res with
        | some v=>some [(.val v,kill H' bs)]
        | none=>none
       else none
      | none=>none
     else match kX (lk L') H' fn.res with
      | some v=>some [(.val v,H')]
      | none=>none
  else none
 | none=>none
noncomputable def Ba (fns:Nat→Option Fn)(uQ:Nat→Nat)(rec:JE→List Yc→ae→na)(ctx:List Yc)(f:Nat)(az:List T)(H:ae):na:=match A9 fns rec ctx f az H with
 | some r=>some (EI (uQ f) r)
 | none=>none
noncomputable def Gs (fns:Nat→Option Fn)(uQ:Nat→Nat)(rec:JE→List Yc→ae→na):JE→List Yc→ae→na
 | .code c L,ctx,H=>fk rec ctx c L H
 | .call f az,ctx,H=>Ba fns uQ rec ctx f az H
noncomputable def run (fns:Nat→Option Fn)(uQ:Nat→Nat)(n:Nat):JE→List Yc→ae→na :=
 Nat.rec (motive:=fun _=>JE→List Yc→ae→na) (fun _ _ _=>none) (fun _ ih=>Gs fns uQ ih) n
def Bb:na→Bool
 | some r=>r.all fun x=>match x.1 with | .val (.bool true)=>true|_=>false
 | none=>false
section
variable {E:Env} {rec:JE→List Yc→ae→na}
def Good (E:Env)(j:J)(H:ae)(res:List (OE×ae)):Prop:=W E j H (c9 res)∧∀x∈res,cE H x.2
def oI (E:Env)(rec:JE→List Yc→ae→na):Prop:=∀j ctx H res,ke ctx H→rec j ctx H=some res→Good E j.j H res
theorem c9.sub {a b:List (OE×ae)}(h:∀y∈a,y∈b):∀o H,c9 a o H→c9 b o H:=fun o H ⟨x,hx,h1,h2⟩=>⟨x,h x hx,h1,h2⟩
theorem qZ {x:OE}{v:T}(h:x.out=.val v):x=.val v:=by
 cases x with
 | ex e L=>cases h
 | val v'=>cases h;rfl
theorem re {x:OE}{e:Ex}{R:ax}(h:x.out=.ex e R):∃L,x=.ex e L∧lk L=R:=by
 cases x with
 | ex e' L=>cases h;exact⟨L,rfl,rfl⟩
 | val v'=>cases h
theorem EJ {R:ax}{g:Gd}{s:List Rd}{b:Bo}(h:Ii R g s b=true):∃neg x y,b=.l7 neg .slice x y∧g=none∧s=[]∧x.ev R=.sl .arg []∧y.ev R=.sl .nil []:=by
 unfold Ii at h
 split at h
 ·rename_i neg x y
  split at h
  ·rename_i h1 h2
   exact⟨neg,x,y,rfl,rfl,rfl,h1,h2⟩
  ·cases h
 ·cases h
theorem Bc {ctx:List Yc}{b:Nat}{y:Yc}(h:ctx.find? (fun y=>y.b==b)=some y):y∈ctx∧y.b=b:=⟨List.mem_of_find?_eq_some h,by simpa using List.find?_some h⟩
theorem tn {H:ae}{b:Nat}(h:qX H b=true):∃n R ps a c,H[b]?=some (.loop .ready none n R ps a c):=by
 unfold qX at h
 split at h
 ·rename_i hb;exact⟨_,_,_,_,_,hb⟩
 ·cases h
theorem EK {H:ae}{b:Nat}(h:A8 H b=true):∃n R ps a c,H[b]?=some (.loop .busy none n R ps a c):=by
 unfold A8 at h
 split at h
 ·rename_i hb;exact⟨_,_,_,_,_,hb⟩
 ·cases h
theorem EL {H:ae}{R:ax}{x:X}{r:List (T×ae)}(h:Ih H R x=some r):∃bi b es ix cur,x.ev R=.ptr bi 0∧H[b]?=some (.eH es ix bi cur)∧(∀t H',kY H b bi es ix t H'→(t,H')∈r)∧∀p∈r,cE H p.2:=by
 unfold Ih at h
 split at h
 ·rename_i bi hx
  split at h
  ·rename_i b VP
   split at h
   ·rename_i es ix FC cur hb
    split at h
    ·rename_i he
     subst he
     refine⟨_,b,es,ix,cur,hx,hb,?_⟩
     split at h
     ·cases h
      refine⟨fun t H' hn=>?_,fun p hp=>?_⟩
      ·rcases hn with⟨_,rfl,rfl⟩|⟨i,e,hi,_⟩
       ·exact List.mem_singleton.2 rfl
       ·cases hi
      ·cases List.mem_singleton.1 hp
       exact cE.set _ hb (by intros;simp)
     ·rename_i aY
      cases h
      refine⟨fun t H' hn=>?_,fun p hp=>?_⟩
      ·rcases hn with⟨e,_⟩|⟨i,e,hi,he,rfl,rfl⟩
       ·exact absurd e aY
       ·exact List.mem_filterMap.2 ⟨i,hi,by rw[he];rfl⟩
      ·obtain⟨i,_,hi⟩:=List.mem_filterMap.1 hp
       rw[Option.map_eq_some_iff]at hi
       obtain⟨e,_,rfl⟩:=hi
       exact cE.set _ hb (by intros;simp)
    ·cases h
   ·cases h
  ·cases h
 ·cases h
theorem qg {f:Nat}{az:List T}{ctx:List Yc}{H:ae}{l:List O}{L:fj}{d:Option Nat}{s:List Rd}{res:List (OE×ae)}(hr:oI E rec)(hc:ke ctx H)
  (ih:∀L' H' res,ke ctx H'→mG rec ctx l L' H'=some res→Good E (.ops l (lk L')) H' res)
  (h:C4 (rec (.call f az) ctx H) (fun r H'=>match r with
    | .val v=>if lN (lk L) H' s then mG rec ctx l (pk L d v) H' else none
    | _=>none)=some res) :
  ∃M:Out→ae→Prop,W E (.call f az) H M∧(∀v H',M (.val v) H'→eX (lk L) H' s)∧(∀v H',M (.val v) H'→W E (.ops l (a0 (lk L) d v)) H' (c9 res))∧∀x∈res,cE H x.2:=by
 cases h1:rec (.call f az) ctx H with
 | none=>rw[h1]at h;cases h
 | some r =>
  rw[h1]at h
  obtain⟨g1,g2⟩:=hr _ _ _ _ hc h1
  refine⟨c9 r,g1,fun v H' hp=>?_,fun v H' hp=>?_,fun x hx=>?_⟩
  ·obtain⟨⟨o,H2⟩,hx,ho,rfl⟩:=hp
   cases qZ ho
   obtain⟨r2,h2,_⟩:=bj h _ hx
   simp only at h2
   split at h2
   ·rename_i hs;exact jv hs
   ·cases h2
  ·obtain⟨⟨o,H2⟩,hx,ho,rfl⟩:=hp
   cases qZ ho
   obtain⟨r2,h2,h3⟩:=bj h _ hx
   simp only at h2
   split at h2
   ·rw[←jM]
    exact(ih _ _ _ (hc.mono (g2 _ hx)) h2).1.use (c9.sub h3)
   ·cases h2
  ·obtain⟨⟨o,H2⟩,hy,r2,h2,h3⟩:=bR h x hx
   simp only at h2
   split at h2
   ·split at h2
    ·exact(g2 _ hy).trans ((ih _ _ _ (hc.mono (g2 _ hy)) h2).2 x h3)
    ·cases h2
   ·cases h2
theorem EM (hr:oI E rec)(ctx:List Yc):∀(l:List O) (L:fj) (H:ae) (res:List (OE×ae)),ke ctx H→mG rec ctx l L H=some res→Good E (.ops l (lk L)) H res:=by
 intro l
 induction l with
 | nil =>
  intro L H res hc h
  cases h
  exact⟨.nil ⟨_,List.mem_singleton.2 rfl,rfl,rfl⟩,fun x hx=>by cases List.mem_singleton.1 hx;exact cE.refl _⟩
 | cons o l ih =>
  intro L H res hc h
  obtain⟨d,op,g,s⟩:=o
  unfold mG at h
  simp only at h
  split at h
  ·rename_i hw
   split at h
   ·rename_i b
    split at h
    ·rename_i v H' he
     rw[A6]at he
     split at h
     ·rename_i hs
      have hp:=A3 he
      obtain⟨g1,g2⟩:=ih _ _ _ (hc.mono hp) h
      rw[jM]at g1
      exact⟨.op hw he (jv hs) g1,fun x hx=>hp.trans (g2 x hx)⟩
     ·cases h
    ·split at h
     ·rename_i x hx
      have hb:b=.ni x:=by
       unfold K5 at hx;split at hx<;>cases hx;rfl
      subst hb
      split at h
      ·rename_i r hn
       obtain⟨bi,bb,es,ix,cur,h1,h2,h3,h4⟩:=EL hn
       refine⟨.ni hw h1 h2 (fun t H' ht=>?_) (fun t H' ht=>?_),fun y hy=>?_⟩
       ·obtain⟨r2,k1,_⟩:=bj h _ (h3 t H' ht)
        simp only at k1
        split at k1
        ·rename_i hs;exact jv hs
        ·cases k1
       ·obtain⟨r2,k1,k2⟩:=bj h _ (h3 t H' ht)
        simp only at k1
        split at k1
        ·have:=(ih _ _ _ (hc.mono (h4 _ (h3 t H' ht))) k1).1
         rw[jM]at this
         exact this.use (c9.sub k2)
        ·cases k1
       ·obtain⟨p,hp,r2,k1,k2⟩:=bR h y hy
        split at k1
        ·exact(h4 p hp).trans ((ih _ _ _ (hc.mono (h4 p hp)) k1).2 y k2)
        ·cases k1
      ·cases h
     ·split at h
      ·rename_i hn
       obtain⟨neg,x,y,rfl,rfl,rfl,h1,h2⟩:=EJ hn
       refine⟨.ud rfl (fun t=>?_) h1 h2 rfl,fun z hz=>?_⟩
       ·obtain⟨r2,k1,k2⟩:=bj h t (by cases t<;>simp)
        have:=(ih _ _ _ hc k1).1
        rw[jM]at this
        exact this.use (c9.sub k2)
       ·obtain⟨t,_,r2,k1,k2⟩:=bR h z hz
        exact(ih _ _ _ hc k1).2 z k2
      ·cases h
   ·obtain⟨M,m1,m2,m3,m4⟩:=qg hr hc ih h
    exact⟨.call M hw m1 m2 m3,m4⟩
   ·rename_i x az
    split at h
    ·rename_i hf
     obtain⟨M,m1,m2,m3,m4⟩:=qg hr hc ih h
     exact⟨.cq M hw hf m1 m2 m3,m4⟩
    ·rename_i b hf
     split at h
     ·rename_i y hy
      obtain⟨TP,rfl⟩:=Bc hy
      unfold K6 at h
      split at h
      ·rename_i a9
       simp only[Bool.and_eq_true,decide_eq_true_eq]at a9
       obtain⟨NQ,hlen⟩:=a9
       obtain⟨st,pp,hb⟩:=hc y TP
       obtain⟨n1,R1,O0,a1,c1,lZ⟩:=tn NQ
       rw[hb]at lZ;cases lZ
       cases h1:rec (.code y.cf (th y.L y.ps (az.map (X.ev (lk L))))) ctx H with
       | none=>rw[h1]at h;cases h
       | some r1 =>
        rw[h1]at h
        obtain⟨g1,g2⟩:=hr _ _ _ _ hc h1
        simp only[JE.j,Gq]at g1
        have mid:∀L1 H1,(OE.ex .normal L1,H1)∈r1→H1[y.b]?=some (.loop .ready none y.n (lk y.L) y.ps y.cf y.body)∧∃r2,rec (.code y.body L1) ctx (H1.set y.b (.loop .busy none y.n (lk y.L) y.ps y.cf y.body))=some r2∧Good E (.code y.body (lk L1)) (H1.set y.b (.loop .busy none y.n (lk y.L) y.ps y.cf y.body)) r2:=by
         intro L1 H1 hm
         obtain⟨rk,k1,_⟩:=bj h _ hm
         simp only at k1
         split at k1
         ·rename_i O2
          obtain⟨Sk,VQ,e1⟩:=g2 _ hm _ _ _ _ _ _ _ _ hb
          obtain⟨n1,R1,O0,a1,c1,lZ⟩:=tn O2
          rw[e1]at lZ;cases lZ
          refine⟨e1,?_⟩
          cases h2:rec (.code y.body L1) ctx (H1.set y.b (.loop .busy none y.n (lk y.L) y.ps y.cf y.body))with
          | none=>rw[h2]at k1;cases k1
          | some r2=>exact⟨r2,rfl,hr _ _ _ _ ((hc.mono (g2 _ hm)).mono (cE.wq _ _ e1)) h2⟩
         ·cases k1
        have norm:∀x∈r1,∃L1,x.1=.ex .normal L1:=by
         rintro⟨o1,H1⟩ hx
         obtain⟨rk,k1,_⟩:=bj h _ hx
         simp only at k1
         split at k1
         ·exact⟨_,rfl⟩
         ·cases k1
        have last:∀L1 H1 r2,(OE.ex .normal L1,H1)∈r1→rec (.code y.body L1) ctx (H1.set y.b (.loop .busy none y.n (lk y.L) y.ps y.cf y.body))=some r2→∀o2 H2,(o2,H2)∈r2→H2[y.b]?=some (.loop .busy none y.n (lk y.L) y.ps y.cf y.body)∧cE H H2∧∃(e:Ex) (L2:fj),o2=.ex e L2 ∧
          ∃(t:Bool) (st:yo) (pe:Option Ex),((e=.normal∧t=true∧st=.ready∧pe=none)∨(e≠.normal∧t=false∧st=.done∧pe=some e))∧lN (lk L) (H2.set y.b (.loop st pe y.n (lk y.L) y.ps y.cf y.body)) s=true∧∃r3,mG rec ctx l (pk L d (.bool t)) (H2.set y.b (.loop st pe y.n (lk y.L) y.ps y.cf y.body))=some r3∧∀z∈r3,z∈res:=by
         intro L1 H1 r2 hm h2 o2 H2 qQ
         obtain⟨e1,VS,nG,g3,g4⟩:=mid L1 H1 hm
         rw[h2]at nG;cases nG
         obtain⟨rk,k1,k2⟩:=bj h _ hm
         simp only at k1
         split at k1
         ·rw[h2]at k1
          obtain⟨rj,j1,j2⟩:=bj k1 _ qQ
          simp only at j1
          have Bd:=g4 _ qQ
          have TQ:(H1.set y.b (.loop .busy none y.n (lk y.L) y.ps y.cf y.body))[y.b]?=some (.loop .busy none y.n (lk y.L) y.ps y.cf y.body):=by rw[List.getElem?_set_self (List.getElem?_eq_some_iff.1 e1).1]
          obtain⟨VT,VU,e2⟩:=Bd _ _ _ _ _ _ _ _ TQ
          split at j1
          ·rename_i rH
           obtain⟨n1,R1,O0,a1,c1,lZ⟩:=EK rH
           rw[e2]at lZ;cases lZ
           refine⟨e2,((g2 _ hm).trans (cE.wq _ _ e1)).trans Bd,?_⟩
           split at j1
           ·rename_i L2
            split at j1
            ·rename_i hs
             exact⟨.normal,L2,rfl,true,.ready,none,.inl ⟨rfl,rfl,rfl,rfl⟩,hs,rj,j1,fun z hz=>k2 z (j2 z hz)⟩
            ·cases j1
           ·rename_i e L2 aY
            split at j1
            ·rename_i hs
             exact⟨e,L2,rfl,false,.done,some e,.inr ⟨fun hh=>aY hh,rfl,rfl,rfl⟩,hs,rj,j1,fun z hz=>k2 z (j2 z hz)⟩
            ·cases j1
           ·cases j1
          ·cases j1
         ·cases k1
        let M:Out→ae→Prop:=fun o H2=>∃L1 H1 r2,(OE.ex .normal L1,H1)∈r1∧rec (.code y.body L1) ctx (H1.set y.b (.loop .busy none y.n (lk y.L) y.ps y.cf y.body))=some r2∧c9 r2 o H2
        have fin:∀o H2,M o H2→∃e R2,o=.ex e R2∧H2[y.b]?=some (.loop .busy none y.n (lk y.L) y.ps y.cf y.body)∧cE H H2 ∧
          ∃(t:Bool) (st:yo) (pe:Option Ex),((e=.normal∧t=true∧st=.ready∧pe=none)∨(e≠.normal∧t=false∧st=.done∧pe=some e))∧lN (lk L) (H2.set y.b (.loop st pe y.n (lk y.L) y.ps y.cf y.body)) s=true∧W E (.ops l (a0 (lk L) d (.bool t))) (H2.set y.b (.loop st pe y.n (lk y.L) y.ps y.cf y.body)) (c9 res):=by
         rintro o H2⟨L1,H1,r2,hm,h2,⟨o2,TR⟩,qQ,ho,rfl⟩
         obtain⟨e2,Bd,e,L2,rfl,t,st,pe,gU,hs,r3,h3,h4⟩:=last L1 H1 r2 hm h2 o2 TR qQ
         cases ho
         refine⟨e,lk L2,rfl,e2,Bd,t,st,pe,gU,hs,?_⟩
         have:=(ih _ _ _ ((hc.mono Bd).mono (cE.wq st pe e2)) h3).1
         rw[jM]at this
         exact this.use (c9.sub h4)
        refine⟨.mQ (c9 r1) M hw hf hb (by simpa using hlen) g1 ?_ ?_ ?_ ?_ ?_ ?_ ?_,fun x hx=>?_⟩
        ·rintro o H'⟨⟨o1,H1⟩,hm,ho,rfl⟩
         obtain⟨L1,rfl⟩:=norm _ hm
         cases ho
         exact⟨⟨_,rfl⟩,(mid _ _ hm).1⟩
        ·rintro R1 H1⟨⟨o1,TS⟩,hm,ho,rfl⟩
         obtain⟨L1,rfl,rfl⟩:=re ho
         obtain⟨e1,r2,h2,g3,g4⟩:=mid _ _ hm
         exact g3.use fun o H2 hp=>⟨L1,TS,r2,hm,h2,hp⟩
        ·intro o H2 hM
         obtain⟨e,R2,_,e2,_⟩:=fin o H2 hM
         exact e2
        ·intro R2 H2 hM
         obtain⟨e,O3,ho,e2,Bd,t,st,pe,gU,hs,hW⟩:=fin _ H2 hM
         cases ho
         rcases gU with⟨_,rfl,rfl,rfl⟩|⟨aY,_⟩
         ·exact jv hs
         ·exact absurd rfl aY
        ·intro R2 H2 hM
         obtain⟨e,O3,ho,e2,Bd,t,st,pe,gU,hs,hW⟩:=fin _ H2 hM
         cases ho
         rcases gU with⟨_,rfl,rfl,rfl⟩|⟨aY,_⟩
         ·exact hW
         ·exact absurd rfl aY
        ·intro e R2 H2 hM aY
         obtain⟨e',O3,ho,e2,Bd,t,st,pe,gU,hs,hW⟩:=fin _ H2 hM
         cases ho
         rcases gU with⟨he,_⟩|⟨_,rfl,rfl,rfl⟩
         ·exact absurd he aY
         ·exact jv hs
        ·intro e R2 H2 hM aY
         obtain⟨e',O3,ho,e2,Bd,t,st,pe,gU,hs,hW⟩:=fin _ H2 hM
         cases ho
         rcases gU with⟨he,_⟩|⟨_,rfl,rfl,rfl⟩
         ·exact absurd he aY
         ·exact hW
        ·obtain⟨⟨o1,H1⟩,hm,rk,k1,k2⟩:=bR h x hx
         obtain⟨L1,he⟩:=norm _ hm
         cases he
         obtain⟨e1,r2,h2,g3,g4⟩:=mid _ _ hm
         simp only at k1
         split at k1
         ·rw[h2]at k1
          obtain⟨⟨o2,H2⟩,qQ,rj,j1,j2⟩:=bR k1 x k2
          obtain⟨e2,Bd,e,L2,rfl,t,st,pe,gU,hs,r3,h3,h4⟩:=last L1 H1 r2 hm h2 o2 H2 qQ
          have NC:=Bd.trans (cE.wq st pe e2)
          refine NC.trans ((ih _ _ _ (hc.mono NC) h3).2 x ?_)
          simp only at j1
          split at j1
          ·rcases gU with⟨rfl,rfl,rfl,rfl⟩|⟨aY,rfl,rfl,rfl⟩
           ·simp only[hs,if_true]at j1
            rw[h3]at j1;cases j1;exact j2
           ·cases e with
            | normal=>exact absurd rfl aY
            | _ =>
             simp only[hs,if_true]at j1
             rw[h3]at j1;cases j1;exact j2
          ·cases j1
         ·cases k1
      ·cases h
     ·cases h
    ·cases h
  ·rename_i hw
   obtain⟨g1,g2⟩:=ih _ _ _ hc h
   rw[jM]at g1
   exact⟨.no (by simpa using hw) g1,g2⟩
theorem Be (hr:oI E rec)(ctx:List Yc):∀(c:C) (L:fj) (H:ae) (res:List (OE×ae)),ke ctx H→fk rec ctx c L H=some res→Good E (.code c (lk L)) H res:=by
 intro c
 induction c with
 | skip=>intro L H res hc h;cases h;exact⟨.skip ⟨_,List.mem_singleton.2 rfl,rfl,rfl⟩,fun x hx=>by cases List.mem_singleton.1 hx;exact cE.refl _⟩
 | exit id=>intro L H res hc h;cases h;exact⟨.exit ⟨_,List.mem_singleton.2 rfl,rfl,rfl⟩,fun x hx=>by cases List.mem_singleton.1 hx;exact cE.refl _⟩
 | ret=>intro L H res hc h;cases h;exact⟨.ret ⟨_,List.mem_singleton.2 rfl,rfl,rfl⟩,fun x hx=>by cases List.mem_singleton.1 hx;exact cE.refl _⟩
 | ops l =>
  intro L H res hc h
  obtain⟨g1,g2⟩:=EM hr ctx l L H res hc h
  exact⟨.G2 g1,g2⟩
 | seq a b Gt K8 =>
  intro L H res hc h
  unfold fk at h
  cases h1:fk rec ctx a L H with
  | none=>rw[h1]at h;cases h
  | some r1 =>
   rw[h1]at h
   obtain⟨g1,g2⟩:=Gt _ _ _ hc h1
   refine⟨.seq (c9 r1) g1 ?_ ?_,fun x hx=>?_⟩
   ·rintro R' H'⟨⟨o,H2⟩,hm,ho,rfl⟩
    obtain⟨L',rfl,rfl⟩:=re ho
    obtain⟨r2,k1,k2⟩:=bj h _ hm
    exact(K8 _ _ _ (hc.mono (g2 _ hm)) k1).1.use (c9.sub k2)
   ·rintro o H'⟨⟨o1,H2⟩,hm,rfl,rfl⟩ aY
    obtain⟨r2,k1,k2⟩:=bj h _ hm
    simp only at k1
    split at k1
    ·exact absurd rfl (aY _)
    ·cases k1;exact⟨_,k2 _ (List.mem_singleton.2 rfl),rfl,rfl⟩
   ·obtain⟨⟨o1,H2⟩,hm,r2,k1,k2⟩:=bR h x hx
    simp only at k1
    split at k1
    ·exact(g2 _ hm).trans ((K8 _ _ _ (hc.mono (g2 _ hm)) k1).2 x k2)
    ·cases k1;cases List.mem_singleton.1 k2;exact g2 _ hm
 | cond x a b Gt K8 =>
  intro L H res hc h
  unfold fk at h
  split at h
  ·rename_i hx
   obtain⟨g1,g2⟩:=Gt _ _ _ hc h
   exact⟨.cond true hx (by rw[if_pos rfl];exact g1),g2⟩
  ·rename_i hx
   obtain⟨g1,g2⟩:=K8 _ _ _ hc h
   exact⟨.cond false hx (by rw[if_neg (by simp)];exact g1),g2⟩
  ·cases h
 | block id a Gt =>
  intro L H res hc h
  unfold fk at h
  cases h1:fk rec ctx a L H with
  | none=>rw[h1]at h;cases h
  | some r1 =>
   rw[h1]at h
   obtain⟨g1,g2⟩:=Gt _ _ _ hc h1
   refine⟨.block (c9 r1) g1 ?_ ?_,fun x hx=>?_⟩
   ·rintro R' H'⟨⟨o,H2⟩,hm,ho,rfl⟩
    obtain⟨L',rfl,rfl⟩:=re ho
    obtain⟨r2,k1,k2⟩:=bj h _ hm
    simp only[if_true]at k1
    cases k1
    exact⟨_,k2 _ (List.mem_singleton.2 rfl),rfl,rfl⟩
   ·rintro o H'⟨⟨o1,H2⟩,hm,rfl,rfl⟩ aY
    obtain⟨r2,k1,k2⟩:=bj h _ hm
    simp only at k1
    split at k1
    ·split at k1
     ·rename_i e;subst e;exact absurd rfl (aY _)
     ·cases k1;exact⟨_,k2 _ (List.mem_singleton.2 rfl),rfl,rfl⟩
    ·cases k1;exact⟨_,k2 _ (List.mem_singleton.2 rfl),rfl,rfl⟩
   ·obtain⟨⟨o1,H2⟩,hm,r2,k1,k2⟩:=bR h x hx
    simp only at k1
    have hp:=g2 _ hm
    split at k1
    ·split at k1
     ·cases k1;cases List.mem_singleton.1 k2;exact hp
     ·cases k1;cases List.mem_singleton.1 k2;exact hp
    ·cases k1;cases List.mem_singleton.1 k2;exact hp
 | loop a Gt =>
  intro L H res hc h
  unfold fk at h
  cases h1:fk rec ctx a L H with
  | none=>rw[h1]at h;cases h
  | some r1 =>
   rw[h1]at h
   obtain⟨g1,g2⟩:=Gt _ _ _ hc h1
   refine⟨.loop (c9 r1) g1 ?_ ?_,fun x hx=>?_⟩
   ·rintro R' H'⟨⟨o,H2⟩,hm,ho,rfl⟩
    obtain⟨L',rfl,rfl⟩:=re ho
    obtain⟨r2,k1,k2⟩:=bj h _ hm
    exact(hr _ _ _ _ (hc.mono (g2 _ hm)) k1).1.use (c9.sub k2)
   ·rintro o H'⟨⟨o1,H2⟩,hm,rfl,rfl⟩ aY
    obtain⟨r2,k1,k2⟩:=bj h _ hm
    simp only at k1
    split at k1
    ·exact absurd rfl (aY _)
    ·cases k1;exact⟨_,k2 _ (List.mem_singleton.2 rfl),rfl,rfl⟩
   ·obtain⟨⟨o1,H2⟩,hm,r2,k1,k2⟩:=bR h x hx
    simp only at k1
    split at k1
    ·exact(g2 _ hm).trans ((hr _ _ _ _ (hc.mono (g2 _ hm)) k1).2 x k2)
    ·cases k1;cases List.mem_singleton.1 k2;exact g2 _ hm
 | cg n x ps cf body Gt K8 =>
  intro L H res hc h
  unfold fk at h
  split at h
  ·rename_i f cs hf
   have hg:(H++[B.rQ,.loop .ready none n (lk L) ps cf body])[H.length+1]?=some (.loop .ready none n (lk L) ps cf body):=by
    rw[List.getElem?_append_right (by omega)]
    have:H.length+1-H.length=1:=by omega
    rw[this];rfl
   have o8:ke (⟨H.length+1,n,L,ps,cf,body⟩ :: ctx) (H++[B.rQ,.loop .ready none n (lk L) ps cf body]):=fun y hy=>by
    rcases List.mem_cons.1 hy with rfl|hy
    ·exact⟨_,_,hg⟩
    ·exact hc.mono (cE.app _ _) y hy
   cases h1:rec (.call f (.mQ (H.length+1) :: cs)) (⟨H.length+1,n,L,ps,cf,body⟩ :: ctx) (H++[.rQ,.loop .ready none n (lk L) ps cf body])with
   | none=>rw[h1]at h;cases h
   | some r1 =>
    rw[h1]at h
    obtain⟨g1,g2⟩:=hr _ _ _ _ o8 h1
    have key:∀v H',(OE.val v,H')∈r1→∃st cL,st≠.busy∧cL≠some .normal∧H'[H.length+1]?=some (.loop st cL n (lk L) ps cf body)∧(OE.ex (qx cL) (L.set n (kW (L.get n) H.length)),H'.set (H.length+1) .dead)∈res:=by
     intro v H' hm
     obtain⟨r2,k1,k2⟩:=bj h _ hm
     simp only at k1
     obtain⟨oX,TT,e1⟩:=g2 _ hm _ _ _ _ _ _ _ _ hg
     rw[e1]at k1
     simp only at k1
     split at k1
     ·rename_i a9
      cases k1
      refine⟨oX,TT,a9.1,fun e=>?_,e1,k2 _ (List.mem_singleton.2 rfl)⟩
      rw[e]at a9;exact absurd a9.2 (by simp[wz])
     ·cases k1
    refine⟨.cg (c9 r1) hf g1 ?_,fun y hy=>?_⟩
    ·rintro v H'⟨⟨o,H2⟩,hm,ho,rfl⟩
     cases qZ ho
     obtain⟨st,cL,k1,k2,k3,k4⟩:=key v H2 hm
     refine⟨st,cL,k1,k2,k3,_,k4,?_,rfl⟩
     simp only[OE.out]
     rw[uP]
    ·obtain⟨⟨o,H2⟩,hm,r2,k1,k2⟩:=bR h y hy
     simp only at k1
     split at k1
     ·split at k1
      ·split at k1
       ·cases k1;cases List.mem_singleton.1 k2
        intro b st p n R ps a c hb
        have aE:=(List.getElem?_eq_some_iff.1 hb).1
        obtain⟨oX,p',eR⟩:=((cE.app _ _).trans (g2 _ hm)) b st p n R ps a c hb
        exact⟨oX,p',by rw[List.getElem?_set_ne (by omega)];exact eR⟩
       ·cases k1
      ·cases k1
     ·cases k1
  ·cases h
theorem tp:∀(bs:List Nat) (H:ae),(∀b∈bs,H[b]?=some .rQ)→bs.Nodup→cE H (kill H bs)
 | [],H,_,_=>cE.refl _
 | b :: bs,H,h,hn=>by
  have hb:=h b List.mem_cons_self
  have FF:=List.nodup_cons.1 hn
  refine(cE.set .dead hb (by intros;simp)).trans (tp bs _ (fun b' eR=>?_) FF.2)
  rw[List.getElem?_set_ne (by rintro rfl;exact FF.1 eR)]
  exact h b' (List.mem_cons_of_mem _ eR)
theorem Il {H:ae}{b:Nat}(h:Ij H b=true):H[b]?=some .rQ:=by
 unfold Ij at h
 split at h
 ·rename_i hb;exact hb
 ·cases h
theorem Bf (hr:oI E rec){ctx:List Yc}{f:Nat}{az:List T}{H:ae}{res:List (OE×ae)}(hc:ke ctx H)(h:A9 E.fn rec ctx f az H=some res):Good E (.call f az) H res∧∀x∈res,∃v,x.1=.val v:=by
 unfold A9 at h
 split at h
 ·rename_i fn hf
  split at h
  ·rename_i hn
   cases h1:rec (.code fn.body (Ie az)) ctx H with
   | none=>rw[h1]at h;cases h
   | some r1 =>
    rw[h1]at h
    obtain⟨g1,g2⟩:=hr _ _ _ _ hc h1
    simp only[JE.j,O1]at g1
    have nv:∀o H',(o,H')∈r1→∃e L',o=.ex e L'∧(e=.normal∨e=.ret):=by
     intro o H' hm
     obtain⟨r2,k1,_⟩:=bj h _ hm
     simp only at k1
     split at k1
     ·cases k1
     ·cases k1
     ·rename_i e L' aY
      refine⟨e,L',rfl,?_⟩
      cases e with
      | normal=>exact .inl rfl
      | ret=>exact .inr rfl
      | exit id=>exact absurd rfl (aY id)
    cases hR:fn.body.iR with
    | false =>
     have key:∀e L' H',(OE.ex e L',H')∈r1→∃v,kX (lk L') H' fn.res=some v∧(OE.val v,H')∈res:=by
      intro e L' H' hm
      obtain⟨r2,k1,k2⟩:=bj h _ hm
      simp only at k1
      split at k1
      ·cases k1
      ·cases k1
      ·rename_i e' L2 aY he
       cases he
       rw[hR]at k1
       simp only[Bool.false_eq_true,if_false]at k1
       split at k1
       ·rename_i v hv
        cases k1
        exact⟨v,hv,k2 _ (List.mem_singleton.2 rfl)⟩
       ·cases k1
     refine⟨⟨.fn (c9 r1) hf hR hn g1 ?_,fun x hx=>?_⟩,fun x hx=>?_⟩
     ·rintro o H'⟨⟨o1,H2⟩,hm,rfl,rfl⟩
      obtain⟨e,L',rfl,he⟩:=nv _ _ hm
      obtain⟨v,k1,k2⟩:=key _ _ _ hm
      refine⟨lk L',?_,v,k1,_,k2,rfl,rfl⟩
      rcases he with rfl|rfl
      ·exact .inl rfl
      ·exact .inr rfl
     ·obtain⟨⟨o1,H2⟩,hm,r2,k1,k2⟩:=bR h x hx
      obtain⟨e,L',rfl,he⟩:=nv _ _ hm
      have hp:=g2 _ hm
      simp only at k1
      split at k1
      ·cases k1
      ·cases k1
      ·rw[hR]at k1
       simp only[Bool.false_eq_true,if_false]at k1
       split at k1
       ·cases k1;cases List.mem_singleton.1 k2;exact hp
       ·cases k1
     ·obtain⟨⟨o1,H2⟩,hm,r2,k1,k2⟩:=bR h x hx
      obtain⟨e,L',rfl,he⟩:=nv _ _ hm
      simp only at k1
      split at k1
      ·cases k1
      ·cases k1
      ·rw[hR]at k1
       simp only[Bool.false_eq_true,if_false]at k1
       split at k1
       ·cases k1;cases List.mem_singleton.1 k2;exact⟨_,rfl⟩
       ·cases k1
    | true =>
     have key:∀e L' H',(OE.ex e L',H')∈r1→∃bs v,marks (L'.get fn.n)=some bs∧bs.Nodup∧(∀b∈bs,H'[b]?=some .rQ)∧kX (lk L') (kill H' bs) fn.res=some v∧(OE.val v,kill H' bs)∈res:=by
      intro e L' H' hm
      obtain⟨r2,k1,k2⟩:=bj h _ hm
      simp only at k1
      split at k1
      ·cases k1
      ·cases k1
      ·rename_i e' L2 aY he
       cases he
       rw[hR]at k1
       simp only[if_true]at k1
       split at k1
       ·rename_i bs rH
        split at k1
        ·rename_i a9
         simp only[Bool.and_eq_true,decide_eq_true_eq]at a9
         split at k1
         ·rename_i v hv
          cases k1
          exact⟨bs,v,rH,a9.1,fun b hb=>Il (List.all_eq_true.1 a9.2 b hb),hv,k2 _ (List.mem_singleton.2 rfl)⟩
         ·cases k1
        ·cases k1
       ·cases k1
     have rest:∀x∈res,cE H x.2∧∃v,x.1=.val v:=by
      intro x hx
      obtain⟨⟨o1,H2⟩,hm,r2,k1,k2⟩:=bR h x hx
      obtain⟨e,L',rfl,he⟩:=nv _ _ hm
      obtain⟨bs,v,q1,q2,q3,q4,q5⟩:=key _ _ _ hm
      simp only at k1
      split at k1
      ·cases k1
      ·cases k1
      ·rename_i e' L2 aY FG
       cases FG
       rw[hR,q1]at k1
       simp only[if_true]at k1
       split at k1
       ·rw[q4]at k1
        cases k1;cases List.mem_singleton.1 k2
        exact⟨(g2 _ hm).trans (tp bs H2 q3 q2),v,rfl⟩
       ·cases k1
     refine⟨⟨.Ji (c9 r1) hf hn g1 ?_,fun x hx=>(rest x hx).1⟩,fun x hx=>(rest x hx).2⟩
     rintro o H'⟨⟨o1,H2⟩,hm,rfl,rfl⟩
     obtain⟨e,L',rfl,he⟩:=nv _ _ hm
     obtain⟨bs,v,q1,q2,q3,q4,q5⟩:=key _ _ _ hm
     refine⟨lk L',bs,?_,q1,q2,q3,v,q4,_,q5,rfl,rfl⟩
     rcases he with rfl|rfl
     ·exact .inl rfl
     ·exact .inr rfl
  ·cases h
 ·cases h
theorem EN {v:T}{b:Nat}(h:Ik v=some b):nF b v:=by
 unfold Ik at h
 split at h
 ·cases h;rfl
 ·rename_i vs
  obtain⟨x,hx,h1⟩:=List.exists_of_findSome?_eq_some h
  split at h1
  ·cases h1;exact⟨_,_,_,hx⟩
  ·cases h1
 ·cases h
theorem qh:∀{r r':List (OE×ae)},qY r=some r'→(∀x∈r,∃v b cs,x.1=.val v∧nF b v∧x.2[b]?=some (.cells cs)∧(OE.val (rS b cs v),x.2.set b .dead)∈r')∧∀y∈r',∃x∈r,∃v,y.1=.val v∧cE x.2 y.2
 | [],_,h=>by cases h;exact⟨fun x hx=>absurd hx List.not_mem_nil,fun x hx=>absurd hx List.not_mem_nil⟩
 | x :: l,r',h=>by
  unfold qY at h
  split at h
  ·rename_i y m h1 h2
   cases h
   obtain⟨i1,i2⟩:=qh h2
   have cX:∃v b cs,x.1=.val v∧nF b v∧x.2[b]?=some (.cells cs)∧(OE.val (rS b cs v),x.2.set b .dead)=y:=by
    unfold K7 at h1
    split at h1
    ·rename_i v hv
     split at h1
     ·rename_i b hb
      split at h1
      ·rename_i cs r7
       cases h1
       exact⟨v,b,cs,hv,EN hb,r7,rfl⟩
      ·cases h1
     ·cases h1
    ·cases h1
   obtain⟨v,b,cs,k1,k2,k3,k4⟩:=cX
   refine⟨fun z hz=>?_,fun z hz=>?_⟩
   ·rcases List.mem_cons.1 hz with rfl|hz
    ·exact⟨v,b,cs,k1,k2,k3,by rw[k4];exact List.mem_cons_self⟩
    ·obtain⟨v,b,cs,a1,a2,a3,a4⟩:=i1 z hz
     exact⟨v,b,cs,a1,a2,a3,List.mem_cons_of_mem _ a4⟩
   ·rcases List.mem_cons.1 hz with rfl|hz
    ·rw[←k4];exact⟨x,List.mem_cons_self,_,rfl,cE.set _ k3 (by intros;simp)⟩
    ·obtain⟨w,hw,a⟩:=i2 z hz
     exact⟨w,List.mem_cons_of_mem _ hw,a⟩
  ·cases h
theorem wB {f:Nat}{az:List T}{H:ae}:∀(n:Nat) {r:List (OE×ae)},Good E (.call f az) H r→Good E (.call f az) H (EI n r)
 | 0,r,h=>h
 | n+1,r,h=>by
  unfold EI
  split
  ·rename_i r' hr
   obtain⟨i1,i2⟩:=qh hr
   refine wB n ⟨.m8 (c9 r) h.1 ?_,fun y hy=>?_⟩
   ·rintro o H'⟨x,hx,rfl,rfl⟩
    obtain⟨v,b,cs,a1,a2,a3,a4⟩:=i1 x hx
    exact⟨v,b,cs,by rw[a1];rfl,a2,a3,_,a4,rfl,rfl⟩
   ·obtain⟨x,hx,_,_,hp⟩:=i2 y hy
    exact(h.2 x hx).trans hp
  ·exact h
theorem Bg {uQ:Nat→Nat}(hr:oI E rec):oI E (Gs E.fn uQ rec):=fun j ctx H res hc h=>by
 cases j with
 | code c L=>exact Be hr ctx c L H res hc h
 | call f az =>
  have h:Ba E.fn uQ rec ctx f az H=some res:=h
  unfold Ba at h
  split at h
  ·rename_i r jE
   cases h
   exact wB _ (Bf hr hc jE).1
  ·cases h
end
theorem Bh (E:Env)(uQ:Nat→Nat):∀n,oI E (run E.fn uQ n)
 | 0=>fun j ctx H res hc h=>by cases h
 | n+1=>Bg (Bh E uQ n)
theorem W.closed {E:Env}{f:Nat}(uQ:Nat→Nat)(n:Nat)(az:List T)(H:ae)(h:Bb (run E.fn uQ n (.call f az) [] H)=true):W E (.call f az) H (fun o _=>o=.val (.bool true)):=by
 cases h1:run E.fn uQ n (.call f az) [] H with
 | none=>rw[h1]at h;cases h
 | some r =>
  rw[h1]at h
  refine(Bh E uQ n _ _ _ _ (fun y hy=>by cases hy) h1).1.use fun o H' ⟨x,hx,ho,_⟩=>?_
  have:=List.all_eq_true.1 h x hx
  split at this
  ·rename_i hv;rw[←ho,hv];rfl
  ·cases this
def gY (f:Nat→Bool):Nat→Nat
 | 0=>0
 | w+1=>gY f w ||| (if f w then 2^w else 0)
theorem ew (f:Nat→Bool)(w i:Nat):(gY f w).testBit i=(decide (i<w)&&f i):=by
 induction w with
 | zero=>simp[gY]
 | succ w ih =>
  have e:(if f w then 2^w else 0:Nat).testBit i=(decide (w=i)&&f i):=by
   by_cases h:w=i
   ·subst h;cases f w<;>simp[Nat.testBit_two_pow]
   ·cases f w<;>simp[Nat.testBit_two_pow,h]
  rw[gY,Nat.testBit_or,ih,e]
  by_cases h1:i<w
  ·have:i<w+1:=by omega
   have h2:¬w=i:=by omega
   simp[h1,this,h2]
  ·by_cases h2:w=i
   ·subst h2;simp
   ·have:¬i<w+1:=by omega
    simp[h1,h2,this]
theorem tq (f:Nat→Bool)(w:Nat):gY f w<2^w:=by
 induction w with
 | zero=>simp[gY]
 | succ w ih =>
  rw[gY]
  refine Nat.or_lt_two_pow (Nat.lt_trans ih (Nat.pow_lt_pow_right (by decide) (by omega))) ?_
  split
  ·exact Nat.pow_lt_pow_right (by decide) (by omega)
  ·exact Nat.two_pow_pos _
theorem qj {f g:Nat→Bool}{w:Nat}(h:∀i,i<w→f i=g i):gY f w=gY g w:=by
 refine Nat.eq_of_testBit_eq fun i=>?_
 rw[ew,ew]
 by_cases hi:i<w
 ·rw[h i hi]
 ·simp[hi]
theorem Bi {f:Nat→Bool}{w p:Nat}(hp:p<w):gY f w ||| 2^p=gY (fun i=>f i||decide (i=p)) w:=by
 refine Nat.eq_of_testBit_eq fun i=>?_
 rw[Nat.testBit_or,ew,ew,Nat.testBit_two_pow]
 by_cases h:p=i
 ·subst h;simp[hp]
 ·have:¬i=p:=fun e=>h e.symm
  simp[h,this]
end Go.Rmp
end

section
namespace Go.Proofs.YtmgldhlcapjdkaaGreat.Ir
open Go.Rmp
set_option maxRecDepth 100000
set_option maxHeartbeats 0
abbrev op (d:Nat)(b:Bo):O:=⟨some d,.b b,none,[]⟩
abbrev ef (b:Bo):O:=⟨none,.b b,none,[]⟩
abbrev cl (d f:Nat)(az:List X):O:=⟨some d,.call f az,none,[]⟩
abbrev sq (a b:C):C:=.seq a b
abbrev mv (d t:Nat):O:=⟨some d,.b (.aD (.r t)),none,[]⟩
abbrev mt (d t g:Nat):O:=⟨some d,.b (.aD (.r t)),some (g,true),[]⟩
abbrev mf (d t g:Nat):O:=⟨some d,.b (.aD (.r t)),some (g,false),[]⟩
abbrev gt (d g:Nat)(b:Bo):O:=⟨some d,.b b,some (g,true),[]⟩
abbrev gf (d g:Nat)(b:Bo):O:=⟨some d,.b b,some (g,false),[]⟩
abbrev l1 (d a:Nat):O:=⟨some d,.b (.ld 1 false (.r a)),none,[]⟩
abbrev ln (d n a:Nat):O:=⟨some d,.b (.ld n true (.r a)),none,[]⟩
abbrev ia (d n a b:Nat):O:=⟨some d,.b (.cK n (.r a) (.r b)),none,[]⟩
abbrev fa (d n a:Nat):O:=⟨some d,.b (.gL n (.r a)),none,[]⟩
abbrev se (n a b:Nat):O:=⟨none,.b (.st n (.r a) (.r b)),none,[]⟩
abbrev nc (d a:Nat):O:=⟨some d,.b (.wU (.r a)),none,[]⟩
abbrev b2 (d:Nat)(o:BinOp)(a b:Nat):O:=⟨some d,.b (.bin o (.r a) (.r b)),none,[]⟩
abbrev xt (d n a:Nat):O:=⟨some d,.b (.ext n (.r a)),none,[]⟩
abbrev cO (d a:Nat):O:=⟨some d,.b (.len .sl (.r a)),none,[]⟩
abbrev so (l:List O)(c:C):C:=.seq (.ops l) c
abbrev cx (t i:Nat):C:=.cond (.r t) .skip (.exit i)
def TU:An:=⟨[],[(12,[(0,true),(1,true),(2,true),(3,true),(4,true),(5,true),(6,true),(7,true),(8,true),(9,true),(10,true),(11,true),(12,true),(13,true),(14,true),(15,true),(16,true),(17,true),(18,true),(19,true),(20,true),(21,true),(22,false),(23,true),(24,true)])]⟩
def O4:Go.Rmp.Fn:=⟨79,1,[.t 2],so [op 2 (.aD (.c (.bool false)))]<|sq (so [cl 10 10 [],op 11 (.un .not (.r 10))]<|.cond (.r 11) (so [op 2 (.aD (.c (.bool false)))]<|.ret) (.skip))<|so [mv 12 0,cl 13 15 [.r 12],mv 3 13]<|so [mv 14 3,cl 15 16 [.r 14],mv 4 15]<|so [mv 17 3,cl 18 17 [.r 17],mv 16 18,xt 19 0 16,xt 20 1 16,mv 5 19,mv 6 20]<|so [mv 22 0,cl 23 18 [.r 22],mv 21 23,xt 24 0 21,xt 25 1 21,mv 7 24,mv 8 25]<|sq (so [mv 26 4,mv 27 0,cl 28 19 [.r 27],op 29 (.beq true (.r 26) (.r 28)),mv 30 29,mf 31 6 30,mf 32 8 30,gf 33 30 (.bin .neq (.r 31) (.r 32)),op 34 (.pick (.r 30) (.c (.bool true)) (.r 33)),mv 35 34,mf 36 5 35,gf 37 35 (.len .sl (.r 36)),mf 38 7 35,gf 39 35 (.len .sl (.r 38)),gf 40 35 (.bin .neq (.r 37) (.r 39)),op 41 (.pick (.r 35) (.c (.bool true)) (.r 40)),mv 42 41,mf 43 3 42,mf 44 0 42,⟨(some 45),.call 20 [.r 43,.r 44],(some (42,false)),[]⟩,gf 46 42 (.un .not (.r 45)),op 47 (.pick (.r 42) (.c (.bool true)) (.r 46))]<|.cond (.r 47) (so [op 2 (.aD (.c (.bool false)))]<|.ret) (.skip))<|sq (so [op 9 (.aD (.c (.int .i64 0)))]<|.block 0 (.loop (sq (so [mv 48 9,mv 49 5,cO 50 49,b2 51 .lss 48 50]<|cx 51 0)<|sq (.block 1 (so [mv 54 5,mv 55 9,ia 56 2 54 55,fa 57 0 56,l1 58 57,mv 59 7,mv 60 9,ia 61 2 59 60,fa 62 0 61,l1 63 62,b2 64 .neq 58 63,mv 65 64,mf 66 5 65,mf 67 9 65,gf 68 65 (.cK 2 (.r 66) (.r 67)),gf 69 65 (.gL 1 (.r 68)),gf 70 65 (.ld 1 false (.r 69)),mf 71 7 65,mf 72 9 65,gf 73 65 (.cK 2 (.r 71) (.r 72)),gf 74 65 (.gL 1 (.r 73)),gf 75 65 (.ld 1 false (.r 74)),⟨(some 76),.call 21 [.r 70,.r 75],(some (65,false)),[]⟩,gf 77 65 (.un .not (.r 76)),op 78 (.pick (.r 65) (.c (.bool true)) (.r 77))]<|.cond (.r 78) (so [op 2 (.aD (.c (.bool false)))]<|.ret) (.skip)))<|.ops [mv 52 9,op 53 (.bin .add (.r 52) (.c (.int .i64 1))),mv 9 53])))<|so [op 2 (.aD (.c (.bool true)))]<|.ret⟩
def O5:An:=⟨[],[]⟩
def K9:Go.Rmp.Fn:=⟨81,0,[.t 0],so [op 0 (.aD (.c (.bool false)))]<|so [cl 6 22 [],mv 1 6]<|sq (so [mv 7 1,op 8 (.l7 false .ptr (.r 7) (.c .bI))]<|.cond (.r 8) (so [op 0 (.aD (.c (.bool false)))]<|.ret) (.skip))<|so [mv 9 1,op 10 (.build [.str ⟨#[]⟩,.str ⟨#[]⟩] [(0,1,(.c (.str ⟨#[97]⟩))),(1,1,(.c (.str ⟨#[49]⟩)))]),op 11 (.lX 1 [.str ⟨#[]⟩,.str ⟨#[]⟩] [(0,(.r 10))]),op 12 (.lX 1 [.str ⟨#[]⟩] [(0,(.c (.str ⟨#[97]⟩)))]),cl 13 42 [.r 9,(.c (.int .u64 65536)),.r 11,.r 12,(.c (.int .i64 0))]]<|so [mv 14 1,cl 15 43 [.r 14,(.c (.int .u64 65536)),(.c (.int .i64 0))]]<|so [mv 17 1,op 18 (.lX 1 [.bI] [(0,(.r 17))]),op 19 (.lX 1 [.str ⟨#[]⟩] [(0,(.c (.str ⟨#[97]⟩)))]),op 20 (.build [.int .i64 0,.int .i64 0] [(0,1,(.c (.int .i64 8))),(1,1,(.c (.int .i64 2)))]),cl 21 23 [.r 18,.r 19,.r 20],mv 16 21,xt 22 0 16,xt 23 1 16,mv 2 22,mv 3 23]<|so [mv 25 1,op 26 (.lX 1 [.bI] [(0,(.r 25))]),mv 27 2,op 28 (.build [.int .i64 0,.int .i64 0] [(0,1,(.c (.int .i64 8))),(1,1,(.c (.int .i64 2)))]),cl 29 24 [.r 26,.r 27,.r 28],mv 24 29,xt 30 0 24,xt 31 1 24,mv 4 30,mv 5 31]<|so [mv 32 3,op 33 (.bin .eql (.r 32) (.c (.int .i64 0))),mv 34 33,mt 35 5 34,gt 36 34 (.bin .eql (.r 35) (.c (.int .i64 0))),op 37 (.pick (.r 34) (.r 36) (.c (.bool false))),mv 38 37,mt 39 2 38,gt 40 38 (.len .sl (.r 39)),gt 41 38 (.bin .eql (.r 40) (.c (.int .i64 1))),op 42 (.pick (.r 38) (.r 41) (.c (.bool false))),mv 43 42,mt 44 4 43,gt 45 43 (.len .sl (.r 44)),gt 46 43 (.bin .eql (.r 45) (.c (.int .i64 1))),op 47 (.pick (.r 43) (.r 46) (.c (.bool false))),mv 48 47,mt 49 2 48,gt 50 48 (.cK 4 (.r 49) (.c (.int .i64 0))),gt 51 48 (.gL 1 (.r 50)),gt 52 48 (.ld 1 false (.r 51)),gt 53 48 (.bin .eql (.r 52) (.c (.int .u64 65536))),op 54 (.pick (.r 48) (.r 53) (.c (.bool false))),mv 55 54,mt 56 4 55,gt 57 55 (.cK 4 (.r 56) (.c (.int .i64 0))),gt 58 55 (.gL 1 (.r 57)),gt 59 55 (.ld 1 false (.r 58)),gt 60 55 (.bin .eql (.r 59) (.c (.int .u64 65536))),op 61 (.pick (.r 55) (.r 60) (.c (.bool false))),mv 62 61,mt 63 4 62,gt 64 62 (.cK 4 (.r 63) (.c (.int .i64 0))),gt 65 62 (.gL 2 (.r 64)),gt 66 62 (.ld 1 false (.r 65)),gt 67 62 (.bin .eql (.r 66) (.c (.str ⟨#[49]⟩))),op 68 (.pick (.r 62) (.r 67) (.c (.bool false))),mv 69 68,mt 70 2 69,gt 71 69 (.cK 4 (.r 70) (.c (.int .i64 0))),gt 72 69 (.gL 3 (.r 71)),gt 73 69 (.ld 1 false (.r 72)),gt 74 69 (.len .sl (.r 73)),gt 75 69 (.bin .eql (.r 74) (.c (.int .i64 6))),op 76 (.pick (.r 69) (.r 75) (.c (.bool false))),mv 77 76,mt 78 2 77,⟨(some 79),.call 16 [.r 78],(some (77,true)),[]⟩,op 80 (.pick (.r 77) (.r 79) (.c (.bool false))),mv 0 80]<|.ret⟩
def O6:An:=⟨[],[(15,[(0,true),(1,true),(2,true),(3,true),(4,true),(5,true),(6,true),(7,false),(8,true),(9,false),(10,true)])]⟩
def La:Go.Rmp.Fn:=⟨75,2,[.cl 4 4 true,.t 5],so [op 2 (.box (.r 0)),op 3 (.box (.r 1)),op 4 (.alloc [.str ⟨#[]⟩,.int .u64 0,.str ⟨#[]⟩,.sl .nil []]),op 5 (.aD (.c (.int .i64 0)))]<|so [fa 11 0 3,l1 12 11,fa 13 1 3,l1 14 13,cl 15 44 [.r 12,.r 14],mv 10 15,xt 16 0 10,xt 17 1 10,mv 6 16,mv 7 17]<|sq (so [mv 18 7,op 19 (.bin .neq (.r 18) (.c (.int .i64 0)))]<|.cond (.r 19) (so [op 20 (.build [.str ⟨#[]⟩,.int .u64 0,.str ⟨#[]⟩,.sl .nil []] []),se 4 4 20,op 5 (.aD (.c (.int .i64 1)))]<|.ret) (.skip))<|sq (so [fa 21 1 2,l1 22 21,op 23 (.bin .eql (.r 22) (.c (.int .u64 0)))]<|.cond (.r 23) (sq (so [fa 24 2 2,l1 25 24,op 26 (.bin .neq (.r 25) (.c (.str ⟨#[]⟩))),mv 27 26,gf 28 27 (.gL 3 (.r 2)),gf 29 27 (.ld 1 false (.r 28)),gf 30 27 (.len .sl (.r 29)),gf 31 27 (.bin .gtr (.r 30) (.c (.int .i64 0))),op 32 (.pick (.r 27) (.c (.bool true)) (.r 31))]<|.cond (.r 32) (so [op 33 (.build [.str ⟨#[]⟩,.int .u64 0,.str ⟨#[]⟩,.sl .nil []] []),se 4 4 33,op 5 (.aD (.c (.int .i64 1)))]<|.ret) (.skip))<|so [fa 34 0 2,l1 35 34,op 36 (.build [.str ⟨#[]⟩,.int .u64 0,.str ⟨#[]⟩,.sl .nil []] [(0,1,(.r 35))]),se 4 4 36,op 5 (.aD (.c (.int .i64 0)))]<|.ret) (.skip))<|sq (so [fa 37 1 2,l1 38 37,op 39 (.bin .lss (.r 38) (.c (.int .u64 65536))),mv 40 39,gf 41 40 (.gL 3 (.r 2)),gf 42 40 (.ld 1 false (.r 41)),⟨(some 43),.call 45 [.r 42],(some (40,false)),[]⟩,gf 44 40 (.un .not (.r 43)),op 45 (.pick (.r 40) (.c (.bool true)) (.r 44)),mv 46 45,gf 47 46 (.gL 3 (.r 2)),gf 48 46 (.ld 1 false (.r 47)),gf 49 46 (.gL 0 (.r 2)),gf 50 46 (.ld 1 false (.r 49)),⟨(some 51),.call 46 [.r 48,.r 50],(some (46,false)),[]⟩,gf 52 46 (.un .not (.r 51)),op 53 (.pick (.r 46) (.c (.bool true)) (.r 52))]<|.cond (.r 53) (so [op 54 (.build [.str ⟨#[]⟩,.int .u64 0,.str ⟨#[]⟩,.sl .nil []] []),se 4 4 54,op 5 (.aD (.c (.int .i64 1)))]<|.ret) (.skip))<|sq (so [fa 55 3 2,l1 56 55,cO 57 56,op 58 (.aD (.c (.int .i64 0)))]<|.block 0 (.loop (so [b2 59 .lss 58 57]<|sq (cx 59 0)<|sq (.block 1 (so [ia 60 1 56 58,l1 61 60,mv 9 61]<|.ops [mv 62 6,mv 63 9,cl 64 47 [.r 62,.r 63]]))<|.ops [op 65 (.bin .add (.r 58) (.c (.int .i64 1))),mv 58 65])))<|so [fa 66 0 2,l1 67 66,fa 68 1 2,l1 69 68,fa 70 2 2,l1 71 70,mv 72 6,⟨(some 73),.call 48 [.r 72],none,[⟨67,.ld 1 false (.r 66),none⟩,⟨69,.ld 1 false (.r 68),none⟩,⟨71,.ld 1 false (.r 70),none⟩]⟩,op 74 (.build [.str ⟨#[]⟩,.int .u64 0,.str ⟨#[]⟩,.sl .nil []] [(0,1,(.r 67)),(1,1,(.r 69)),(2,1,(.r 71)),(3,1,(.r 73))]),se 4 4 74,op 5 (.aD (.c (.int .i64 0)))]<|.ret⟩
def O7:An:=⟨[],[]⟩
def xK:Go.Rmp.Fn:=⟨31,2,[.t 4],so [op 2 (.box (.r 0)),op 3 (.box (.r 1)),op 4 (.aD (.c (.bool false)))]<|so [fa 5 0 2,l1 6 5,fa 7 0 3,l1 8 7,b2 9 .eql 6 8,mv 10 9,gt 11 10 (.gL 1 (.r 2)),gt 12 10 (.ld 1 false (.r 11)),gt 13 10 (.gL 1 (.r 3)),gt 14 10 (.ld 1 false (.r 13)),gt 15 10 (.bin .eql (.r 12) (.r 14)),op 16 (.pick (.r 10) (.r 15) (.c (.bool false))),mv 17 16,gt 18 17 (.gL 2 (.r 2)),gt 19 17 (.ld 1 false (.r 18)),gt 20 17 (.gL 2 (.r 3)),gt 21 17 (.ld 1 false (.r 20)),gt 22 17 (.bin .eql (.r 19) (.r 21)),op 23 (.pick (.r 17) (.r 22) (.c (.bool false))),mv 24 23,gt 25 24 (.gL 3 (.r 2)),gt 26 24 (.ld 1 false (.r 25)),gt 27 24 (.gL 3 (.r 3)),gt 28 24 (.ld 1 false (.r 27)),⟨(some 29),.call 30 [.r 26,.r 28],(some (24,true)),[]⟩,op 30 (.pick (.r 24) (.r 29) (.c (.bool false))),mv 4 30]<|.ret⟩
def O8:An:=⟨[(5,7),(6,26),(7,3)],[(6,[(0,true),(1,true),(2,true),(3,true),(4,true),(5,true),(6,true),(7,true),(8,true),(9,true),(10,true),(11,true),(12,true),(13,true),(14,true),(15,true),(16,true),(17,true),(18,true),(19,true),(20,true),(21,true),(22,true),(23,true),(24,true),(25,true),(26,false),(27,false)])]⟩
def Im:Go.Rmp.Fn:=⟨55,1,[.t 2],so [op 2 (.aD (.c (.sl .nil [])))]<|so [op 3 (.aD (.c (.sl .nil [])))]<|sq (so [op 4 (.aD (.c (.int .i64 0)))]<|.block 0 (.loop (sq (so [mv 6 4,mv 7 0,cO 8 7,b2 9 .lss 6 8]<|cx 9 0)<|sq (.block 1 (so [mv 12 0,mv 13 4,ia 14 4 12 13,fa 15 3 14,l1 16 15,cl 17 29 [.r 16],op 18 (.lX 1 [.int .u8 0] [(0,(.c (.int .u8 165)))]),op 19 (.app 1 1 true (.r 17) (.r 18)),mv 5 19]<|.ops [mv 20 3,mv 21 0,mv 22 4,ia 23 4 21 22,fa 24 0 23,l1 25 24,mv 26 0,mv 27 4,ia 28 4 26 27,fa 29 1 28,l1 30 29,mv 31 0,mv 32 4,ia 33 4 31 32,fa 34 2 33,l1 35 34,mv 36 5,mv 37 0,mv 38 4,ia 39 4 37 38,fa 40 3 39,l1 41 40,cO 42 41,op 43 (.kR 1 (.r 36) none (some (.r 42)) none),op 44 (.build [.str ⟨#[]⟩,.int .u64 0,.str ⟨#[]⟩,.sl .nil []] [(0,1,(.r 25)),(1,1,(.r 30)),(2,1,(.r 35)),(3,1,(.r 43))]),op 45 (.lX 1 [.str ⟨#[]⟩,.int .u64 0,.str ⟨#[]⟩,.sl .nil []] [(0,(.r 44))]),op 46 (.app 4 64 true (.r 20) (.r 45)),mv 3 46]))<|.ops [mv 10 4,op 11 (.bin .add (.r 10) (.c (.int .i64 1))),mv 4 11])))<|so [mv 47 3,op 48 (.build [.str ⟨#[]⟩,.int .u64 0,.str ⟨#[]⟩,.sl .nil []] [(0,1,(.c (.str ⟨#[115,112,97,114,101]⟩)))]),op 49 (.lX 1 [.str ⟨#[]⟩,.int .u64 0,.str ⟨#[]⟩,.sl .nil []] [(0,(.r 48))]),op 50 (.app 4 64 true (.r 47) (.r 49)),mv 3 50]<|so [mv 51 3,mv 52 0,cO 53 52,op 54 (.kR 4 (.r 51) none (some (.r 53)) none),mv 2 54]<|.ret⟩
def O9:An:=⟨[],[]⟩
def Ip:Go.Rmp.Fn:=⟨11,1,[.t 2],so [op 2 (.aD (.c (.bool false)))]<|so [mv 6 0,cl 7 54 [.r 6],mv 5 7,xt 8 0 5,xt 9 1 5,mv 3 8,mv 4 9]<|so [mv 10 4,mv 2 10]<|.ret⟩
def Pa:An:=⟨[(13,7)],[(12,[(0,true),(1,true),(2,true),(3,true),(4,true),(5,true),(6,true),(7,true),(8,true),(9,true),(10,true),(11,true),(12,true),(13,true),(14,true),(15,true),(16,false),(17,true)]),(17,[(0,true),(1,true),(2,true),(3,true),(4,false),(5,true),(6,true),(7,false),(8,false)])]⟩
def Iq:Go.Rmp.Fn:=⟨74,1,[.t 2,.t 3],so [op 2 (.aD (.c (.sl .nil []))),op 3 (.aD (.c (.int .i64 0)))]<|so [mv 13 0,cl 14 54 [.r 13],mv 12 14,xt 15 0 12,xt 16 1 12,mv 4 15,mv 5 16]<|sq (so [mv 17 5,op 18 (.un .not (.r 17))]<|.cond (.r 18) (so [op 2 (.aD (.c (.sl .nil []))),op 3 (.aD (.c (.int .i64 1)))]<|.ret) (.skip))<|so [op 6 (.aD (.c (.sl .nil [])))]<|sq (so [mv 19 0,cO 20 19,op 21 (.aD (.c (.int .i64 0)))]<|.block 0 (.loop (so [b2 22 .lss 21 20]<|sq (cx 22 0)<|sq (.block 1 (so [ia 23 4 19 21,ln 24 4 23,op 8 (.alloc [.str ⟨#[]⟩,.int .u64 0,.str ⟨#[]⟩,.sl .nil []]),se 4 8 24]<|so [op 9 (.aD (.c (.sl .nil [])))]<|sq (so [mv 25 4,cO 26 25,op 27 (.aD (.c (.int .i64 0)))]<|.block 2 (.loop (so [b2 28 .lss 27 26]<|sq (cx 28 2)<|sq (.block 3 (so [mv 29 27,ia 30 1 25 27,l1 31 30,mv 10 29,mv 11 31]<|so [mv 32 11,op 33 (.l7 true .ptr (.r 32) (.c .bI)),mv 34 33,mt 35 0 34,mt 36 10 34,gt 37 34 (.cK 4 (.r 35) (.r 36)),gt 38 34 (.gL 1 (.r 37)),gt 39 34 (.ld 1 false (.r 38)),gt 40 34 (.gL 1 (.r 8)),gt 41 34 (.ld 1 false (.r 40)),gt 42 34 (.bin .gtr (.r 39) (.r 41)),op 43 (.pick (.r 34) (.r 42) (.c (.bool false))),mv 44 43,mt 45 11 44,gt 46 44 (.gL 0 (.r 8)),gt 47 44 (.ld 1 false (.r 46)),⟨(some 48),.call 55 [.r 45,.r 47],(some (44,true)),[]⟩,op 49 (.pick (.r 44) (.r 48) (.c (.bool false)))]<|.cond (.r 49) (.ops [mv 50 9,mv 51 0,mv 52 10,ia 53 4 51 52,fa 54 1 53,l1 55 54,op 56 (.lX 1 [.int .u64 0] [(0,(.r 55))]),op 57 (.app 1 8 true (.r 50) (.r 56)),mv 9 57]) (.skip)))<|.ops [op 58 (.bin .add (.r 27) (.c (.int .i64 1))),mv 27 58])))<|so [mv 59 9,cO 60 59,op 61 (.bin .gtr (.r 60) (.c (.int .i64 0)))]<|.cond (.r 61) (so [mv 62 9,cl 63 56 [.r 62]]<|.ops [mv 64 6,fa 65 0 8,l1 66 65,mv 67 9,⟨(some 68),.call 57 [.r 67],none,[⟨66,.ld 1 false (.r 65),none⟩]⟩,op 69 (.build [.str ⟨#[]⟩,.sl .nil []] [(0,1,(.r 66)),(1,1,(.r 68))]),op 70 (.lX 1 [.str ⟨#[]⟩,.sl .nil []] [(0,(.r 69))]),op 71 (.app 2 40 false (.r 64) (.r 70)),mv 6 71]) (.skip)))<|.ops [op 72 (.bin .add (.r 21) (.c (.int .i64 1))),mv 21 72])))<|so [mv 73 6,mv 2 73,op 3 (.aD (.c (.int .i64 0)))]<|.ret⟩
def Pb:An:=⟨[],[(11,[(0,true),(1,true),(2,true),(3,true),(4,true),(5,true),(6,true),(7,true),(8,true),(9,true),(10,true)])]⟩
def Is:Go.Rmp.Fn:=⟨73,1,[.t 2,.t 3],so [op 2 (.aD (.c (.sl .nil []))),op 3 (.aD (.c (.int .i64 0)))]<|sq (so [mv 10 0,cl 11 19 [.r 10],op 12 (.un .not (.r 11))]<|.cond (.r 12) (so [op 2 (.aD (.c (.sl .nil []))),op 3 (.aD (.c (.int .i64 1)))]<|.ret) (.skip))<|so [op 4 (.aD (.c (.sl .nil [])))]<|sq (so [op 5 (.aD (.c (.int .i64 0)))]<|.block 0 (.loop (sq (so [mv 13 5,mv 14 0,cO 15 14,b2 16 .lss 13 15]<|cx 16 0)<|sq (.block 1 (so [op 6 (.aD (.c (.sl .nil [])))]<|sq (so [op 7 (.aD (.c (.int .i64 0)))]<|.block 2 (.loop (sq (so [mv 19 7,mv 20 0,cO 21 20,b2 22 .lss 19 21]<|cx 22 2)<|sq (.block 3 (so [mv 25 0,mv 26 7,ia 27 4 25 26,fa 28 1 27,l1 29 28,mv 30 0,mv 31 5,ia 32 4 30 31,fa 33 1 32,l1 34 33,b2 35 .gtr 29 34]<|.cond (.r 35) (so [mv 37 0,mv 38 7,ia 39 4 37 38,fa 40 3 39,l1 41 40,cl 42 58 [.r 41],mv 36 42,xt 43 0 36,xt 44 1 36,mv 8 43,mv 9 44]<|so [mv 45 8,mv 46 0,mv 47 5,ia 48 4 46 47,fa 49 0 48,l1 50 49,cl 51 59 [.r 45,.r 50]]<|.cond (.r 51) (.ops [mv 52 6,mv 53 0,mv 54 7,ia 55 4 53 54,fa 56 1 55,l1 57 56,cl 58 60 [.r 52,.r 57],mv 6 58]) (.skip)) (.skip)))<|.ops [mv 23 7,op 24 (.bin .add (.r 23) (.c (.int .i64 1))),mv 7 24])))<|so [mv 59 6,cO 60 59,op 61 (.bin .gtr (.r 60) (.c (.int .i64 0)))]<|.cond (.r 61) (.ops [mv 62 4,mv 63 0,mv 64 5,ia 65 4 63 64,fa 66 0 65,l1 67 66,mv 68 6,op 69 (.build [.str ⟨#[]⟩,.sl .nil []] [(0,1,(.r 67)),(1,1,(.r 68))]),op 70 (.lX 1 [.str ⟨#[]⟩,.sl .nil []] [(0,(.r 69))]),op 71 (.app 2 40 false (.r 62) (.r 70)),mv 4 71]) (.skip)))<|.ops [mv 17 5,op 18 (.bin .add (.r 17) (.c (.int .i64 1))),mv 5 18])))<|so [mv 72 4,mv 2 72,op 3 (.aD (.c (.int .i64 0)))]<|.ret⟩
def Pc:An:=⟨[],[(11,[(0,true),(1,true),(2,true),(3,true),(4,true),(5,true),(6,true),(7,true),(8,true),(9,true),(10,true)])]⟩
def Bj:Go.Rmp.Fn:=⟨41,1,[.t 2],so [op 2 (.aD (.c (.bool false)))]<|sq (so [mv 5 0,cO 6 5,op 7 (.bin .lss (.r 6) (.c (.int .i64 1))),mv 8 7,mf 9 0 8,gf 10 8 (.len .sl (.r 9)),gf 11 8 (.bin .gtr (.r 10) (.c (.int .i64 1024))),op 12 (.pick (.r 8) (.c (.bool true)) (.r 11))]<|.cond (.r 12) (so [op 2 (.aD (.c (.bool false)))]<|.ret) (.skip))<|sq (so [op 3 (.aD (.c (.int .i64 0)))]<|.block 0 (.loop (sq (so [mv 13 3,mv 14 0,cO 15 14,b2 16 .lss 13 15]<|cx 16 0)<|sq (.block 1 (sq (so [mv 19 0,mv 20 3,ia 21 4 19 20,ln 22 4 21,cl 23 61 [.r 22],op 24 (.un .not (.r 23))]<|.cond (.r 24) (so [op 2 (.aD (.c (.bool false)))]<|.ret) (.skip))<|so [op 4 (.aD (.c (.int .i64 0)))]<|.block 2 (.loop (sq (so [mv 25 4,mv 26 3,b2 27 .lss 25 26]<|cx 27 2)<|sq (.block 3 (so [mv 30 0,mv 31 4,ia 32 4 30 31,fa 33 0 32,l1 34 33,mv 35 0,mv 36 3,ia 37 4 35 36,fa 38 0 37,l1 39 38,b2 40 .eql 34 39]<|.cond (.r 40) (so [op 2 (.aD (.c (.bool false)))]<|.ret) (.skip)))<|.ops [mv 28 4,op 29 (.bin .add (.r 28) (.c (.int .i64 1))),mv 4 29]))))<|.ops [mv 17 3,op 18 (.bin .add (.r 17) (.c (.int .i64 1))),mv 3 18])))<|so [op 2 (.aD (.c (.bool true)))]<|.ret⟩
def Pd:An:=⟨[(1,9),(6,12)],[(6,[(0,true),(1,true),(2,true),(3,true),(4,true),(5,true),(6,true),(7,true),(8,true),(9,true),(10,true),(11,true),(13,true),(14,true),(15,true),(16,true),(17,true),(18,true),(12,false),(19,true),(20,true),(21,true)])]⟩
def Iu:Go.Rmp.Fn:=⟨51,2,[.t 4],so [op 4 (.aD (.c (.bool false)))]<|sq (so [mv 6 0,mv 7 1,cl 8 38 [.r 6,.r 7],op 9 (.un .not (.r 8)),mv 10 9,mf 11 0 10,mf 12 1 10,gf 13 10 (.len .sl (.r 12)),gf 14 10 (.bin .add (.r 13) (.c (.int .i64 1))),gf 15 10 (.Da 4 (.r 11) (.r 14)),mf 16 1 10,gf 17 10 (.len .sl (.r 16)),gf 18 10 (.cK 4 (.r 15) (.r 17)),gf 19 10 (.gL 0 (.r 18)),gf 20 10 (.ld 1 false (.r 19)),gf 21 10 (.bin .neq (.r 20) (.c (.str ⟨#[115,112,97,114,101]⟩))),op 22 (.pick (.r 10) (.c (.bool true)) (.r 21))]<|.cond (.r 22) (so [op 4 (.aD (.c (.bool false)))]<|.ret) (.skip))<|sq (so [op 5 (.aD (.c (.int .i64 0)))]<|.block 0 (.loop (sq (so [mv 23 5,mv 24 0,cO 25 24,b2 26 .lss 23 25]<|cx 26 0)<|sq (.block 1 (so [mv 29 0,mv 30 5,ia 31 4 29 30,fa 32 3 31,l1 33 32,mv 34 1,mv 35 5,ia 36 4 34 35,fa 37 3 36,l1 38 37,cO 39 38,op 40 (.bin .add (.r 39) (.c (.int .i64 1))),mv 42 1,mv 43 5,ia 44 4 42 43,fa 45 3 44,l1 46 45,cO 47 46,⟨(some 41),.b (.Da 1 (.r 33) (.r 40)),none,[⟨46,.ld 1 false (.r 45),none⟩,⟨47,.len .sl (.r 46),none⟩]⟩,ia 48 1 41 47,l1 49 48,op 50 (.bin .neq (.r 49) (.c (.int .u8 165)))]<|.cond (.r 50) (so [op 4 (.aD (.c (.bool false)))]<|.ret) (.skip)))<|.ops [mv 27 5,op 28 (.bin .add (.r 27) (.c (.int .i64 1))),mv 5 28])))<|so [op 4 (.aD (.c (.bool true)))]<|.ret⟩
def Pe:An:=⟨[],[(6,[(0,true),(1,true),(2,true),(3,true),(4,true),(5,true),(6,true),(7,true),(8,true)])]⟩
def Iv:Go.Rmp.Fn:=⟨26,2,[.t 4],so [op 4 (.aD (.c (.bool false)))]<|sq (so [mv 6 0,cO 7 6,mv 8 1,cO 9 8,b2 10 .neq 7 9]<|.cond (.r 10) (so [op 4 (.aD (.c (.bool false)))]<|.ret) (.skip))<|sq (so [op 5 (.aD (.c (.int .i64 0)))]<|.block 0 (.loop (sq (so [mv 11 5,mv 12 0,cO 13 12,b2 14 .lss 11 13]<|cx 14 0)<|sq (.block 1 (so [mv 17 0,mv 18 5,ia 19 1 17 18,l1 20 19,mv 21 1,mv 22 5,ia 23 1 21 22,l1 24 23,b2 25 .neq 20 24]<|.cond (.r 25) (so [op 4 (.aD (.c (.bool false)))]<|.ret) (.skip)))<|.ops [mv 15 5,op 16 (.bin .add (.r 15) (.c (.int .i64 1))),mv 5 16])))<|so [op 4 (.aD (.c (.bool true)))]<|.ret⟩
def Pf:An:=⟨[],[]⟩
def Lb:Go.Rmp.Fn:=⟨7,0,[.t 0],so [op 0 (.aD (.c .bI))]<|so [op 1 (.vg),op 2 (.vg),op 3 (.vg),op 4 (.vg),op 5 (.build [.eG,.eG,.eG,.eG] [(0,1,(.r 1)),(1,1,(.r 2)),(2,1,(.r 3)),(3,1,(.r 4))]),op 6 (.box (.r 5)),mv 0 6]<|.ret⟩
def Pg:An:=⟨[],[(9,[(0,true),(1,true),(3,true),(5,true),(10,true),(2,false),(4,false),(6,false),(7,true),(8,true),(9,true),(11,false),(12,true)])]⟩
def Ld:Go.Rmp.Fn:=⟨49,3,[.t 6,.t 7],so [op 5 (.box (.r 2)),op 6 (.aD (.c (.sl .nil []))),op 7 (.aD (.c (.int .i64 0)))]<|sq (so [mv 13 0,cl 14 62 [.r 13],op 15 (.un .not (.r 14)),mv 16 15,gf 17 16 (.ld 2 true (.r 5)),⟨(some 18),.call 63 [.r 17],(some (16,false)),[]⟩,gf 19 16 (.un .not (.r 18)),op 20 (.pick (.r 16) (.c (.bool true)) (.r 19))]<|.cond (.r 20) (so [op 6 (.aD (.c (.sl .nil []))),op 7 (.aD (.c (.int .i64 1)))]<|.ret) (.skip))<|sq (so [mv 21 1,cl 22 64 [.r 21],op 23 (.un .not (.r 22))]<|.cond (.r 23) (so [op 6 (.aD (.c (.sl .nil []))),op 7 (.aD (.c (.int .i64 40)))]<|.ret) (.skip))<|so [op 8 (.aD (.c (.sl .nil [])))]<|sq (so [mv 24 1,cO 25 24,op 26 (.aD (.c (.int .i64 0)))]<|.block 0 (.loop (so [b2 27 .lss 26 25]<|sq (cx 27 0)<|sq (.block 1 (so [ia 28 1 24 26,l1 29 28,mv 10 29]<|so [mv 31 0,mv 32 10,mv 34 10,ln 36 2 5,op 11 (.alloc [.str ⟨#[]⟩,.int .u64 0,.str ⟨#[]⟩,.sl .nil []]),⟨(some 33),.call 65 [.r 31,.r 32],none,[⟨36,.ld 2 true (.r 5),none⟩]⟩,⟨(some 35),.call 66 [.r 33,.r 34],none,[⟨36,.ld 2 true (.r 5),none⟩]⟩,cl 37 11 [.r 35,.r 36],mv 30 37,xt 38 0 30,xt 39 1 30,se 4 11 38,mv 12 39]<|sq (so [mv 40 12,op 41 (.bin .neq (.r 40) (.c (.int .i64 0)))]<|.cond (.r 41) (so [mv 42 12,op 6 (.aD (.c (.sl .nil []))),mv 7 42]<|.ret) (.skip))<|.ops [mv 43 8,ln 44 4 11,op 45 (.lX 1 [.str ⟨#[]⟩,.int .u64 0,.str ⟨#[]⟩,.sl .nil []] [(0,(.r 44))]),op 46 (.app 4 64 false (.r 43) (.r 45)),mv 8 46]))<|.ops [op 47 (.bin .add (.r 26) (.c (.int .i64 1))),mv 26 47])))<|so [mv 48 8,mv 6 48,op 7 (.aD (.c (.int .i64 0)))]<|.ret⟩
def Ph:An:=⟨[],[(11,[(0,true),(1,true),(2,true),(3,true),(4,true),(5,true),(6,true),(7,true),(8,true),(9,true),(10,true),(11,true)]),(12,[(0,true),(1,true),(2,true),(4,true),(5,true),(6,true),(7,true),(8,true),(9,true),(14,true),(3,false),(10,false),(11,true),(12,true),(13,true),(15,false),(16,true)])]⟩
def Lf:Go.Rmp.Fn:=⟨91,3,[.t 6,.t 7],so [op 5 (.box (.r 2)),op 6 (.aD (.c (.sl .nil []))),op 7 (.aD (.c (.int .i64 0)))]<|sq (so [mv 15 0,cl 16 62 [.r 15],op 17 (.un .not (.r 16)),mv 18 17,gf 19 18 (.ld 2 true (.r 5)),⟨(some 20),.call 63 [.r 19],(some (18,false)),[]⟩,gf 21 18 (.un .not (.r 20)),op 22 (.pick (.r 18) (.c (.bool true)) (.r 21))]<|.cond (.r 22) (so [op 6 (.aD (.c (.sl .nil []))),op 7 (.aD (.c (.int .i64 1)))]<|.ret) (.skip))<|so [mv 24 1,cl 25 17 [.r 24],mv 23 25,xt 26 0 23,xt 27 1 23,mv 8 26,mv 9 27]<|sq (so [mv 28 9,op 29 (.bin .neq (.r 28) (.c (.int .i64 0)))]<|.cond (.r 29) (so [mv 30 9,op 6 (.aD (.c (.sl .nil []))),mv 7 30]<|.ret) (.skip))<|so [op 10 (.aD (.c (.sl .nil [])))]<|sq (so [mv 31 1,cO 32 31,op 33 (.aD (.c (.int .i64 0)))]<|.block 0 (.loop (so [b2 34 .lss 33 32]<|sq (cx 34 0)<|sq (.block 1 (so [ia 35 4 31 33,ln 36 4 35,op 12 (.alloc [.str ⟨#[]⟩,.int .u64 0,.str ⟨#[]⟩,.sl .nil []]),se 4 12 36]<|so [fa 37 3 12,l1 38 37,cl 39 67 [.r 38],fa 40 3 12,se 1 40 39]<|sq (so [mv 41 8,cO 42 41,op 43 (.bin .gtr (.r 42) (.c (.int .i64 0))),mv 44 43,mt 45 8 44,gt 46 44 (.cK 2 (.r 45) (.c (.int .i64 0))),gt 47 44 (.gL 0 (.r 46)),gt 48 44 (.ld 1 false (.r 47)),gt 49 44 (.gL 0 (.r 12)),gt 50 44 (.ld 1 false (.r 49)),gt 51 44 (.bin .eql (.r 48) (.r 50)),op 52 (.pick (.r 44) (.r 51) (.c (.bool false)))]<|.cond (.r 52) (so [mv 54 0,fa 55 0 12,l1 56 55,fa 58 0 12,l1 59 58,mv 60 8,op 61 (.cK 2 (.r 60) (.c (.int .i64 0))),fa 62 1 61,l1 63 62,op 13 (.alloc [.str ⟨#[]⟩,.int .u64 0,.str ⟨#[]⟩,.sl .nil []]),⟨(some 57),.call 65 [.r 54,.r 56],none,[⟨59,.ld 1 false (.r 58),none⟩,⟨63,.ld 1 false (.r 62),none⟩]⟩,cl 64 68 [.r 57,.r 59,.r 63],mv 53 64,xt 65 0 53,xt 66 1 53,se 4 13 65,mv 14 66]<|sq (so [mv 67 14,op 68 (.bin .eql (.r 67) (.c (.int .i64 0))),mv 69 68,gt 70 69 (.gL 1 (.r 13)),gt 71 69 (.ld 1 false (.r 70)),gt 72 69 (.bin .neq (.r 71) (.c (.int .u64 0))),op 73 (.pick (.r 69) (.r 72) (.c (.bool false)))]<|.cond (.r 73) (.ops [ln 75 4 13,ln 76 2 5,cl 77 11 [.r 75,.r 76],mv 74 77,xt 78 0 74,xt 79 1 74,se 4 12 78,mv 14 79]) (.skip))<|sq (so [mv 80 14,op 81 (.bin .neq (.r 80) (.c (.int .i64 0)))]<|.cond (.r 81) (so [mv 82 14,op 6 (.aD (.c (.sl .nil []))),mv 7 82]<|.ret) (.skip))<|.ops [mv 83 8,op 84 (.kR 2 (.r 83) (some (.c (.int .i64 1))) none none),mv 8 84]) (.skip))<|.ops [mv 85 10,ln 86 4 12,op 87 (.lX 1 [.str ⟨#[]⟩,.int .u64 0,.str ⟨#[]⟩,.sl .nil []] [(0,(.r 86))]),op 88 (.app 4 64 false (.r 85) (.r 87)),mv 10 88]))<|.ops [op 89 (.bin .add (.r 33) (.c (.int .i64 1))),mv 33 89])))<|so [mv 90 10,mv 6 90,op 7 (.aD (.c (.int .i64 0)))]<|.ret⟩
def Pj:An:=⟨[],[]⟩
def Lg:Go.Rmp.Fn:=⟨12,2,[.t 4,.t 5],so [op 4 (.aD (.c (.int .i64 0))),op 5 (.aD (.c (.int .i64 0)))]<|sq (so [mv 6 1,cl 7 69 [.r 6],op 8 (.un .not (.r 7))]<|.cond (.r 8) (so [op 4 (.aD (.c (.int .i64 0))),op 5 (.aD (.c (.int .i64 1)))]<|.ret) (.skip))<|so [mv 9 0,mv 10 1,cl 11 70 [.r 9,.r 10],mv 4 11,op 5 (.aD (.c (.int .i64 0)))]<|.ret⟩
def Pk:An:=⟨[(2,2)],[]⟩
def EO:Go.Rmp.Fn:=⟨7,1,[.t 2],so [op 2 (.aD (.c (.sl .nil [])))]<|so [op 3 (.aD (.c (.sl .nil [])))]<|so [mv 4 3,mv 5 0,op 6 (.app 1 1 true (.r 4) (.r 5)),mv 2 6]<|.ret⟩
def Pl:An:=⟨[],[]⟩
def Iw:Go.Rmp.Fn:=⟨10,2,[.t 4],so [op 4 (.aD (.c (.bool false)))]<|so [mv 5 0,op 6 (.yn (.r 5)),mv 7 1,op 8 (.yn (.r 7)),b2 9 .eql 6 8,mv 4 9]<|.ret⟩
def Pm:An:=⟨[],[(6,[(0,true),(1,true),(2,true),(3,true),(4,true),(5,true),(6,true),(7,true),(8,false),(9,true)])]⟩
def Ix:Go.Rmp.Fn:=⟨27,2,[.t 4],so [op 4 (.aD (.c (.bool false)))]<|sq (so [mv 6 0,cO 7 6,mv 8 1,cO 9 8,b2 10 .neq 7 9]<|.cond (.r 10) (so [op 4 (.aD (.c (.bool false)))]<|.ret) (.skip))<|sq (so [op 5 (.aD (.c (.int .i64 0)))]<|.block 0 (.loop (sq (so [mv 11 5,mv 12 0,cO 13 12,b2 14 .lss 11 13]<|cx 14 0)<|sq (.block 1 (so [mv 17 0,mv 18 5,ia 19 4 17 18,ln 20 4 19,mv 21 1,mv 22 5,ia 23 4 21 22,ln 24 4 23,cl 25 13 [.r 20,.r 24],op 26 (.un .not (.r 25))]<|.cond (.r 26) (so [op 4 (.aD (.c (.bool false)))]<|.ret) (.skip)))<|.ops [mv 15 5,op 16 (.bin .add (.r 15) (.c (.int .i64 1))),mv 5 16])))<|so [op 4 (.aD (.c (.bool true)))]<|.ret⟩
def Pn:An:=⟨[],[(8,[(0,true),(1,true),(2,true),(3,true),(4,true),(5,true),(6,true),(7,true),(8,true),(9,true),(10,false),(11,true)]),(12,[(0,true),(1,true),(2,true),(3,true),(4,true),(5,true),(6,true),(7,true),(8,true)]),(14,[(0,true),(1,true),(2,true),(3,true),(4,true),(6,true),(5,false),(7,true),(8,false)])]⟩
def Lh:Go.Rmp.Fn:=⟨70,5,[.t 10,.t 11],so [op 10 (.aD (.c (.bool false))),op 11 (.aD (.c (.int .i64 0)))]<|sq (so [mv 19 1,mv 20 2,mv 21 3,cl 22 93 [.r 19,.r 20,.r 21],op 23 (.un .not (.r 22)),mv 24 23,mf 25 4 24,⟨(some 26),.call 94 [.r 25],(some (24,false)),[]⟩,gf 27 24 (.un .not (.r 26)),op 28 (.pick (.r 24) (.c (.bool true)) (.r 27))]<|.cond (.r 28) (so [op 10 (.aD (.c (.bool false))),op 11 (.aD (.c (.int .i64 1)))]<|.ret) (.skip))<|so [op 12 (.aD (.c (.bool false)))]<|sq (so [mv 29 2,cO 30 29,op 31 (.aD (.c (.int .i64 0)))]<|.block 0 (.loop (so [b2 32 .lss 31 30]<|sq (cx 32 0)<|sq (.block 1 (so [ia 33 2 29 31,ln 34 2 33,op 14 (.alloc [.str ⟨#[]⟩,.str ⟨#[]⟩]),se 2 14 34]<|so [fa 35 0 14,l1 36 35,mv 37 1,op 38 (.build [.str ⟨#[]⟩,.int .u64 0] [(0,1,(.r 36)),(1,1,(.r 37))]),op 15 (.alloc [.str ⟨#[]⟩,.int .u64 0]),se 2 15 38]<|sq (so [mv 40 0,nc 41 40,fa 42 0 41,l1 43 42,ln 44 2 15,op 45 (.oU (.st [.str,.int]) (.agg [.str ⟨#[]⟩,.sl .nil [],.int .i64 0]) true (.r 43) (.r 44)),mv 39 45,xt 46 0 39,xt 47 1 39,op 16 (.alloc [.str ⟨#[]⟩,.sl .nil [],.int .i64 0]),se 3 16 46,mv 17 47]<|so [mv 48 17]<|.cond (.r 48) (.exit 1) (.skip))<|so [op 12 (.aD (.c (.bool true)))]<|so [op 18 (.aD (.c (.int .i64 (-1))))]<|sq (so [mv 49 1,mv 50 0,nc 51 50,fa 52 3 51,l1 53 52,fa 54 0 14,l1 55 54,op 56 (.oU (.sc .str) (.int .u64 0) false (.r 53) (.r 55)),b2 57 .lss 49 56]<|.cond (.r 57) (.ops [mv 58 4,mv 18 58]) (.skip))<|.ops [mv 59 0,ln 60 2 15,fa 61 1 14,l1 62 61,mv 63 3,mv 65 18,⟨(some 64),.call 82 [.r 63],none,[⟨60,.ld 2 true (.r 15),none⟩,⟨62,.ld 1 false (.r 61),none⟩]⟩,op 66 (.build [.str ⟨#[]⟩,.sl .nil [],.int .i64 0] [(0,1,(.r 62)),(1,1,(.r 64)),(2,1,(.r 65))]),cl 67 95 [.r 59,.r 60,.r 66]]))<|.ops [op 68 (.bin .add (.r 31) (.c (.int .i64 1))),mv 31 68])))<|so [mv 69 12,mv 10 69,op 11 (.aD (.c (.int .i64 0)))]<|.ret⟩
def Po:An:=⟨[],[(15,[(0,true),(1,true),(2,true),(3,true),(4,true),(5,true),(6,true),(7,true),(8,false)])]⟩
def Li:Go.Rmp.Fn:=⟨89,3,[.t 6,.t 7],so [op 6 (.aD (.c (.int .i64 0))),op 7 (.aD (.c (.int .i64 0)))]<|sq (so [mv 13 1,op 14 (.bin .lss (.r 13) (.c (.int .u64 65536))),mv 15 14,mf 16 2 15,⟨(some 17),.call 94 [.r 16],(some (15,false)),[]⟩,gf 18 15 (.un .not (.r 17)),op 19 (.pick (.r 15) (.c (.bool true)) (.r 18))]<|.cond (.r 19) (so [op 6 (.aD (.c (.int .i64 0))),op 7 (.aD (.c (.int .i64 1)))]<|.ret) (.skip))<|sq (so [mv 20 0,nc 21 20,fa 22 2 21,l1 23 22,mv 24 1,op 25 (.oU (.sc .int) (.sl .nil []) false (.r 23) (.r 24)),cO 26 25,op 27 (.aD (.c (.int .i64 0)))]<|.block 0 (.loop (so [b2 28 .lss 27 26]<|sq (cx 28 0)<|sq (.block 1 (so [ia 29 1 25 27,l1 30 29,mv 9 30]<|sq (so [mv 31 0,nc 32 31,fa 33 3 32,l1 34 33,mv 35 9,op 36 (.oU (.sc .str) (.int .u64 0) false (.r 34) (.r 35)),mv 37 1,b2 38 .geq 36 37]<|.cond (.r 38) (.exit 1) (.skip))<|so [mv 39 0,nc 40 39,fa 41 3 40,l1 42 41,mv 43 9,mv 44 1,ef (.x7 (.sc .str) (.r 42) (.r 43) (.r 44))]<|so [mv 45 0,nc 46 45,fa 47 1 46,l1 48 47,mv 49 9,op 50 (.oU (.sc .str) (.sl .nil []) false (.r 48) (.r 49)),cO 51 50,op 52 (.aD (.c (.int .i64 0)))]<|.block 2 (.loop (so [b2 53 .lss 52 51]<|sq (cx 53 2)<|sq (.block 3 (so [ia 54 1 50 52,l1 55 54,mv 11 55]<|sq (so [mv 56 11,mv 57 1,b2 58 .geq 56 57]<|.cond (.r 58) (.exit 2) (.skip))<|so [mv 59 0,nc 60 59,fa 61 0 60,l1 62 61,mv 63 9,mv 64 11,op 65 (.build [.str ⟨#[]⟩,.int .u64 0] [(0,1,(.r 63)),(1,1,(.r 64))]),op 66 (.oU (.st [.str,.int]) (.agg [.str ⟨#[]⟩,.sl .nil [],.int .i64 0]) false (.r 62) (.r 65)),op 12 (.alloc [.str ⟨#[]⟩,.sl .nil [],.int .i64 0]),se 3 12 66]<|so [fa 67 2 12,l1 68 67,op 69 (.bin .eql (.r 68) (.c (.int .i64 (-1))))]<|.cond (.r 69) (so [mv 70 2,fa 71 2 12,se 1 71 70]<|.ops [mv 72 0,nc 73 72,fa 74 0 73,l1 75 74,mv 76 9,mv 77 11,op 78 (.build [.str ⟨#[]⟩,.int .u64 0] [(0,1,(.r 76)),(1,1,(.r 77))]),ln 79 3 12,ef (.x7 (.st [.str,.int]) (.r 75) (.r 78) (.r 79))]) (.skip)))<|.ops [op 80 (.bin .add (.r 52) (.c (.int .i64 1))),mv 52 80]))))<|.ops [op 81 (.bin .add (.r 27) (.c (.int .i64 1))),mv 27 81])))<|so [mv 82 0,nc 83 82,fa 84 2 83,l1 85 84,mv 86 1,op 87 (.oU (.sc .int) (.sl .nil []) false (.r 85) (.r 86)),cO 88 87,mv 6 88,op 7 (.aD (.c (.int .i64 0)))]<|.ret⟩
def Pp:An:=⟨[(4,3)],[(4,[(0,true),(1,true),(2,false),(3,false),(4,true),(5,false),(6,true),(7,true)])]⟩
def Lj:Go.Rmp.Fn:=⟨19,2,[.t 4,.t 5],so [op 4 (.aD (.c .bI)),op 5 (.aD (.c (.int .i64 0)))]<|so [mv 7 0,mv 8 1,op 9 (.build [.int .i64 0,.int .i64 0] [(0,1,(.r 7)),(1,1,(.r 8))]),op 6 (.alloc [.int .i64 0,.int .i64 0]),se 2 6 9]<|sq (so [ln 10 2 6,cl 11 96 [.r 10],op 12 (.un .not (.r 11))]<|.cond (.r 12) (so [op 4 (.aD (.c .bI)),op 5 (.aD (.c (.int .i64 1)))]<|.ret) (.skip))<|so [ln 13 2 6,ln 14 2 6,⟨(some 15),.call 97 [.r 14],none,[⟨13,.ld 2 true (.r 6),none⟩]⟩,⟨(some 16),.b (.G0 true 1 [.int .u8 0] (.r 15) (.r 15)),none,[⟨13,.ld 2 true (.r 6),none⟩]⟩,op 17 (.build [.int .i64 0,.int .i64 0,.sl .nil []] [(0,2,(.r 13)),(2,1,(.r 16))]),op 18 (.box (.r 17)),mv 4 18,op 5 (.aD (.c (.int .i64 0)))]<|.ret⟩
def Pq:An:=⟨[],[(4,[(0,true),(1,true),(2,true),(3,true),(4,true),(5,true),(6,true),(7,true),(8,true),(9,true)])]⟩
def Lk:Go.Rmp.Fn:=⟨28,1,[.t 2],so [op 2 (.aD (.c (.bool false)))]<|sq (so [op 3 (.aD (.c (.int .i64 1)))]<|.block 0 (.loop (sq (so [mv 4 3,mv 5 0,cO 6 5,b2 7 .lss 4 6]<|cx 7 0)<|sq (.block 1 (so [mv 10 0,mv 11 3,ia 12 1 10 11,l1 13 12,mv 14 0,mv 15 3,op 16 (.bin .sub (.r 15) (.c (.int .i64 1))),ia 17 1 14 16,l1 18 17,b2 19 .leq 13 18]<|.cond (.r 19) (so [op 2 (.aD (.c (.bool false)))]<|.ret) (.skip)))<|.ops [mv 8 3,op 9 (.bin .add (.r 8) (.c (.int .i64 1))),mv 3 9])))<|so [mv 20 0,cO 21 20,op 22 (.bin .geq (.r 21) (.c (.int .i64 1))),mv 23 22,mt 24 0 23,gt 25 23 (.len .sl (.r 24)),gt 26 23 (.bin .leq (.r 25) (.c (.int .i64 1024))),op 27 (.pick (.r 23) (.r 26) (.c (.bool false))),mv 2 27]<|.ret⟩
def Pr:An:=⟨[],[]⟩
def Ll:Go.Rmp.Fn:=⟨9,2,[.t 4],so [op 4 (.aD (.c (.bool false)))]<|so [mv 5 0,mv 6 1,cl 7 98 [.r 5,.r 6],op 8 (.bin .geq (.r 7) (.c (.int .i64 0))),mv 4 8]<|.ret⟩
def Ps:An:=⟨[],[(3,[(0,true),(1,true),(2,true),(3,true),(4,true),(5,true),(6,true),(7,true),(8,true),(9,true),(10,true),(11,true),(12,true),(13,false)])]⟩
def Lm:Go.Rmp.Fn:=⟨31,2,[],so [mv 6 0,nc 7 6,fa 8 0 7,ln 9 2 8,mv 10 1,cl 11 99 [.r 9,.r 10],cO 12 11,op 13 (.aD (.c (.int .i64 0)))]<|.block 0 (.loop (so [b2 14 .lss 13 12]<|sq (cx 14 0)<|sq (.block 1 (so [ia 15 1 11 13,l1 16 15,mv 5 16]<|.ops [mv 17 0,nc 18 17,fa 19 2 18,l1 20 19,mv 21 5,op 22 (.bin .quo (.r 21) (.c (.int .i64 8))),ia 23 1 20 22,l1 24 23,mv 25 5,op 26 (.bin .rem (.r 25) (.c (.int .i64 8))),op 27 (.bin .shl (.c (.int .u8 1)) (.r 26)),b2 28 .or 24 27,ia 29 1 20 22,se 1 29 28]))<|.ops [op 30 (.bin .add (.r 13) (.c (.int .i64 1))),mv 13 30]))⟩
def Pt:An:=⟨[],[(2,[(0,true),(1,true),(2,true),(3,true),(4,true),(5,true),(6,true),(7,true),(8,true),(9,true),(10,true),(11,true),(12,true),(13,true),(14,true),(15,true),(16,true),(17,true),(18,true),(19,true),(20,true),(21,true),(22,false),(23,true)])]⟩
def Lo:Go.Rmp.Fn:=⟨32,1,[.t 2],so [op 2 (.aD (.c (.sl .nil [])))]<|so [mv 4 0,nc 5 4,fa 6 0 5,fa 7 0 6,l1 8 7,mv 3 8]<|so [mv 9 3,op 10 (.bin .shr (.r 9) (.c (.int .u64 24))),op 11 (.fB .u8 (.r 10)),mv 12 3,op 13 (.bin .shr (.r 12) (.c (.int .u64 16))),op 14 (.fB .u8 (.r 13)),mv 15 3,op 16 (.bin .shr (.r 15) (.c (.int .u64 8))),op 17 (.fB .u8 (.r 16)),mv 18 3,op 19 (.fB .u8 (.r 18)),mv 20 0,nc 21 20,fa 22 0 21,fa 23 1 22,l1 24 23,op 25 (.fB .u8 (.r 24)),op 26 (.lX 5 [.int .u8 0] [(0,(.r 11)),(1,(.r 14)),(2,(.r 17)),(3,(.r 19)),(4,(.r 25))]),mv 27 0,nc 28 27,fa 29 2 28,l1 30 29,op 31 (.app 1 1 false (.r 26) (.r 30)),mv 2 31]<|.ret⟩
def Pu:An:=⟨[(3,3)],[]⟩
def Iy:Go.Rmp.Fn:=⟨16,2,[.t 4,.t 5],so [op 4 (.aD (.c .bI)),op 5 (.aD (.c (.int .i64 0)))]<|sq (so [mv 6 0,mv 7 1,cl 8 100 [.r 6,.r 7],op 9 (.un .not (.r 8))]<|.cond (.r 9) (so [op 4 (.aD (.c .bI)),op 5 (.aD (.c (.int .i64 1)))]<|.ret) (.skip))<|so [mv 10 0,mv 11 1,mv 12 0,op 13 (.G0 true 1 [.bool false] (.r 12) (.r 12)),op 14 (.build [.int .i64 0,.int .i64 0,.sl .nil []] [(0,1,(.r 10)),(1,1,(.r 11)),(2,1,(.r 13))]),op 15 (.box (.r 14)),mv 4 15,op 5 (.aD (.c (.int .i64 0)))]<|.ret⟩
def Pv:An:=⟨[(2,6)],[(1,[(0,true),(1,true),(2,true),(3,true),(4,true),(5,true),(6,true),(7,true),(8,true),(9,true),(10,true),(11,true),(12,true),(13,true),(14,true),(15,true),(16,true),(17,true),(18,true),(19,true),(20,true),(21,true),(22,true),(23,true),(24,true),(25,true),(26,true),(27,true),(28,true),(29,true)]),(7,[(0,true),(1,true),(2,true),(3,true),(4,true),(5,true),(6,true),(7,true),(8,true),(9,true),(10,true),(11,true),(12,true),(13,false)])]⟩
def Iz:Go.Rmp.Fn:=⟨73,1,[.t 2],so [op 2 (.aD (.c (.sl .nil [])))]<|so [mv 6 0,nc 7 6,fa 8 0 7,l1 9 8,op 10 (.bin .shr (.r 9) (.c (.int .u64 24))),op 11 (.fB .u8 (.r 10)),mv 12 0,nc 13 12,fa 14 0 13,l1 15 14,op 16 (.bin .shr (.r 15) (.c (.int .u64 16))),op 17 (.fB .u8 (.r 16)),mv 18 0,nc 19 18,fa 20 0 19,l1 21 20,op 22 (.bin .shr (.r 21) (.c (.int .u64 8))),op 23 (.fB .u8 (.r 22)),mv 24 0,nc 25 24,fa 26 0 25,l1 27 26,op 28 (.fB .u8 (.r 27)),mv 29 0,nc 30 29,fa 31 1 30,l1 32 31,op 33 (.fB .u8 (.r 32)),op 34 (.lX 5 [.int .u8 0] [(0,(.r 11)),(1,(.r 17)),(2,(.r 23)),(3,(.r 28)),(4,(.r 33))]),mv 3 34]<|so [mv 35 0,nc 36 35,fa 37 0 36,l1 38 37,op 39 (.bin .add (.r 38) (.c (.int .i64 7))),op 40 (.bin .quo (.r 39) (.c (.int .i64 8))),op 41 (.G0 true 1 [.int .u8 0] (.r 40) (.r 40)),mv 4 41]<|sq (so [op 5 (.aD (.c (.int .i64 0)))]<|.block 0 (.loop (sq (so [mv 42 5,mv 43 0,nc 44 43,fa 45 0 44,l1 46 45,b2 47 .lss 42 46]<|cx 47 0)<|sq (.block 1 (so [mv 50 0,nc 51 50,fa 52 2 51,l1 53 52,mv 54 5,ia 55 1 53 54,l1 56 55]<|.cond (.r 56) (.ops [mv 57 4,mv 58 5,op 59 (.bin .quo (.r 58) (.c (.int .i64 8))),mv 60 4,mv 61 5,op 62 (.bin .quo (.r 61) (.c (.int .i64 8))),ia 63 1 60 62,l1 64 63,mv 65 5,op 66 (.bin .rem (.r 65) (.c (.int .i64 8))),op 67 (.bin .shl (.c (.int .u8 1)) (.r 66)),b2 68 .or 64 67,ia 69 1 57 59,se 1 69 68]) (.skip)))<|.ops [mv 48 5,op 49 (.bin .add (.r 48) (.c (.int .i64 1))),mv 5 49])))<|so [mv 70 3,mv 71 4,op 72 (.app 1 1 false (.r 70) (.r 71)),mv 2 72]<|.ret⟩
def Pw:An:=⟨[],[]⟩
def Bk:Go.Rmp.Fn:=⟨50,1,[.t 2,.t 3],so [op 2 (.aD (.c (.sl .nil []))),op 3 (.aD (.c (.bool false)))]<|sq (so [mv 10 0,cO 11 10,op 12 (.bin .lss (.r 11) (.c (.int .i64 1))),mv 13 12,mf 14 0 13,gf 15 13 (.len .sl (.r 14)),gf 16 13 (.bin .gtr (.r 15) (.c (.int .i64 1024))),op 17 (.pick (.r 13) (.c (.bool true)) (.r 16))]<|.cond (.r 17) (so [op 2 (.aD (.c (.sl .nil []))),op 3 (.aD (.c (.bool false)))]<|.ret) (.skip))<|so [op 18 (.vg),mv 4 18]<|so [op 5 (.aD (.c (.sl .nil [])))]<|sq (so [mv 19 0,cO 20 19,op 21 (.aD (.c (.int .i64 0)))]<|.block 0 (.loop (so [b2 22 .lss 21 20]<|sq (cx 22 0)<|sq (.block 1 (so [ia 23 4 19 21,ln 24 4 23,op 7 (.alloc [.str ⟨#[]⟩,.int .u64 0,.str ⟨#[]⟩,.sl .nil []]),se 4 7 24]<|so [ln 26 4 7,cl 27 103 [.r 26],mv 25 27,xt 28 0 25,xt 29 1 25,mv 8 28,mv 9 29]<|sq (so [mv 30 4,fa 31 0 7,l1 32 31,op 33 (.oU (.sc .str) (.int .i64 0) false (.r 30) (.r 32)),op 34 (.bin .add (.r 33) (.c (.int .i64 1))),ef (.x7 (.sc .str) (.r 30) (.r 32) (.r 34))]<|so [mv 35 9,op 36 (.un .not (.r 35)),mv 37 36,mf 38 4 37,gf 39 37 (.gL 0 (.r 7)),gf 40 37 (.ld 1 false (.r 39)),gf 41 37 (.oU (.sc .str) (.int .i64 0) false (.r 38) (.r 40)),gf 42 37 (.bin .gtr (.r 41) (.c (.int .i64 1))),op 43 (.pick (.r 37) (.c (.bool true)) (.r 42))]<|.cond (.r 43) (so [op 2 (.aD (.c (.sl .nil []))),op 3 (.aD (.c (.bool false)))]<|.ret) (.skip))<|.ops [mv 44 5,mv 45 8,op 46 (.lX 1 [.bI] [(0,(.r 45))]),op 47 (.app 1 8 false (.r 44) (.r 46)),mv 5 47]))<|.ops [op 48 (.bin .add (.r 21) (.c (.int .i64 1))),mv 21 48])))<|so [mv 49 5,mv 2 49,op 3 (.aD (.c (.bool true)))]<|.ret⟩
def Px:An:=⟨[],[]⟩
def IA:Go.Rmp.Fn:=⟨14,2,[.t 4],so [op 2 (.box (.r 0)),op 4 (.aD (.c (.bool false)))]<|so [l1 5 2,nc 6 5,fa 7 0 6,ln 8 2 7,mv 9 1,cl 10 99 [.r 8,.r 9],op 11 (.G1 105 [.r 2]),cl 12 104 [.r 10,.r 11],op 13 (.un .not (.r 12)),mv 4 13]<|.ret⟩
def Py:An:=⟨[],[]⟩
def IB:Go.Rmp.Fn:=⟨11,1,[],so [mv 3 0,cO 4 3,mv 2 4]<|.ops [mv 5 0,mv 6 2,mv 7 2,op 8 (.fB .u64 (.r 7)),cl 9 107 [.r 8],cl 10 106 [.r 5,(.c (.int .i64 0)),.r 6,.r 9]]⟩
def Pz:An:=⟨[],[(6,[(0,true),(1,true),(2,true),(3,true),(4,true),(5,true),(6,true),(7,true),(8,true),(9,true)]),(11,[(0,true),(1,true),(2,true),(3,true),(4,true),(5,true),(6,true),(7,true),(8,true),(9,true)])]⟩
def EP:Go.Rmp.Fn:=⟨61,1,[.t 2],so [op 2 (.aD (.c (.sl .nil [])))]<|sq (so [mv 6 0,cO 7 6,op 8 (.bin .lss (.r 7) (.c (.int .i64 2)))]<|.cond (.r 8) (so [mv 9 0,mv 2 9]<|.ret) (.skip))<|sq (so [op 3 (.aD (.c (.int .i64 1)))]<|.block 0 (.loop (sq (so [mv 10 3,mv 11 0,cO 12 11,b2 13 .lss 10 12]<|cx 13 0)<|sq (.block 1 (so [mv 16 0,mv 17 3,ia 18 1 16 17,l1 19 18,mv 20 0,mv 21 3,op 22 (.bin .sub (.r 21) (.c (.int .i64 1))),ia 23 1 20 22,l1 24 23,b2 25 .eql 19 24]<|.cond (.r 25) (so [mv 26 0,mv 27 3,op 28 (.kR 1 (.r 26) (some (.r 27)) none none),mv 4 28]<|sq (so [op 5 (.aD (.c (.int .i64 1)))]<|.block 2 (.loop (sq (so [mv 29 5,mv 30 4,cO 31 30,b2 32 .lss 29 31]<|cx 32 2)<|sq (.block 3 (so [mv 35 4,mv 36 5,ia 37 1 35 36,l1 38 37,mv 39 4,mv 40 5,op 41 (.bin .sub (.r 40) (.c (.int .i64 1))),ia 42 1 39 41,l1 43 42,b2 44 .neq 38 43]<|.cond (.r 44) (so [mv 45 0,mv 46 3,mv 47 4,mv 48 5,ia 49 1 47 48,l1 50 49,ia 51 1 45 46,se 1 51 50]<|.ops [mv 52 3,op 53 (.bin .add (.r 52) (.c (.int .i64 1))),mv 3 53]) (.skip)))<|.ops [mv 33 5,op 34 (.bin .add (.r 33) (.c (.int .i64 1))),mv 5 34])))<|so [mv 54 0,mv 55 3,op 56 (.kR 1 (.r 54) (some (.r 55)) none none),ef (.Je 1 [.int .u64 0] (.r 56))]<|so [mv 57 0,mv 58 3,op 59 (.kR 1 (.r 57) none (some (.r 58)) none),mv 2 59]<|.ret) (.skip)))<|.ops [mv 14 3,op 15 (.bin .add (.r 14) (.c (.int .i64 1))),mv 3 15])))<|so [mv 60 0,mv 2 60]<|.ret⟩
def PA:An:=⟨[],[(3,[(0,true),(1,true),(2,true),(3,true),(4,true),(5,true),(6,true),(7,true),(8,true),(9,true),(10,true),(11,true),(12,true),(13,true),(14,true),(15,true),(16,true),(17,true),(18,true),(19,true),(20,true),(21,true),(22,true),(23,true),(24,true),(25,true),(26,false),(27,true),(28,true),(29,true),(30,true),(31,true)]),(9,[(0,true),(1,true),(2,true),(3,true),(4,true),(5,true),(6,true),(7,true),(8,true),(9,true),(10,true),(11,true),(12,true),(13,true),(14,true),(15,true),(16,true),(17,false)]),(10,[(0,true),(3,true),(4,true),(1,false),(2,true),(5,true)])]⟩
def ER:Go.Rmp.Fn:=⟨86,1,[.t 2,.t 3],so [op 2 (.aD (.c .bI)),op 3 (.aD (.c (.int .i64 0)))]<|sq (so [mv 7 0,cO 8 7,op 9 (.bin .lss (.r 8) (.c (.int .i64 5)))]<|.cond (.r 9) (so [op 2 (.aD (.c .bI)),op 3 (.aD (.c (.int .i64 2)))]<|.ret) (.skip))<|so [mv 11 0,op 12 (.cK 1 (.r 11) (.c (.int .i64 0))),l1 13 12,op 14 (.fB .i64 (.r 13)),op 15 (.bin .shl (.r 14) (.c (.int .u64 24))),mv 16 0,op 17 (.cK 1 (.r 16) (.c (.int .i64 1))),l1 18 17,op 19 (.fB .i64 (.r 18)),op 20 (.bin .shl (.r 19) (.c (.int .u64 16))),b2 21 .or 15 20,mv 22 0,op 23 (.cK 1 (.r 22) (.c (.int .i64 2))),l1 24 23,op 25 (.fB .i64 (.r 24)),op 26 (.bin .shl (.r 25) (.c (.int .u64 8))),b2 27 .or 21 26,mv 28 0,op 29 (.cK 1 (.r 28) (.c (.int .i64 3))),l1 30 29,op 31 (.fB .i64 (.r 30)),b2 32 .or 27 31,mv 33 0,op 34 (.cK 1 (.r 33) (.c (.int .i64 4))),l1 35 34,op 36 (.fB .i64 (.r 35)),cl 37 49 [.r 32,.r 36],mv 10 37,xt 38 0 10,xt 39 1 10,mv 4 38,mv 5 39]<|sq (so [mv 40 5,op 41 (.bin .neq (.r 40) (.c (.int .i64 0))),mv 42 41,mf 43 0 42,gf 44 42 (.len .sl (.r 43)),mf 45 4 42,gf 46 42 (.wU (.r 45)),gf 47 42 (.gL 0 (.r 46)),gf 48 42 (.ld 1 false (.r 47)),gf 49 42 (.bin .add (.r 48) (.c (.int .i64 7))),gf 50 42 (.bin .quo (.r 49) (.c (.int .i64 8))),gf 51 42 (.bin .add (.c (.int .i64 5)) (.r 50)),gf 52 42 (.bin .neq (.r 44) (.r 51)),op 53 (.pick (.r 42) (.c (.bool true)) (.r 52))]<|.cond (.r 53) (so [op 2 (.aD (.c .bI)),op 3 (.aD (.c (.int .i64 2)))]<|.ret) (.skip))<|sq (so [op 6 (.aD (.c (.int .i64 0)))]<|.block 0 (.loop (sq (so [mv 54 6,mv 55 4,nc 56 55,fa 57 0 56,l1 58 57,b2 59 .lss 54 58]<|cx 59 0)<|sq (.block 1 (.ops [mv 62 4,nc 63 62,fa 64 2 63,l1 65 64,mv 66 6,mv 67 0,mv 68 6,op 69 (.bin .quo (.r 68) (.c (.int .i64 8))),op 70 (.bin .add (.c (.int .i64 5)) (.r 69)),ia 71 1 67 70,l1 72 71,mv 73 6,op 74 (.bin .rem (.r 73) (.c (.int .i64 8))),b2 75 .shr 72 74,op 76 (.bin .and (.r 75) (.c (.int .u8 1))),op 77 (.bin .eql (.r 76) (.c (.int .u8 1))),ia 78 1 65 66,se 1 78 77]))<|.ops [mv 60 6,op 61 (.bin .add (.r 60) (.c (.int .i64 1))),mv 6 61])))<|sq (so [mv 79 4,mv 82 0,op 83 (.yn (.r 82)),⟨(some 80),.call 53 [.r 79],none,[⟨83,.yn (.r 82),none⟩]⟩,op 81 (.yn (.r 80)),b2 84 .neq 81 83]<|.cond (.r 84) (so [op 2 (.aD (.c .bI)),op 3 (.aD (.c (.int .i64 2)))]<|.ret) (.skip))<|so [mv 85 4,mv 2 85,op 3 (.aD (.c (.int .i64 0)))]<|.ret⟩
def PB:An:=⟨[],[(1,[(0,true),(1,true),(2,true),(3,true),(4,true),(5,true),(6,true),(7,true),(8,true),(9,false),(10,true),(11,true),(12,true),(13,true),(14,true)]),(5,[(0,true),(1,true),(2,true),(3,true),(4,true),(5,true),(6,true),(7,true),(8,true),(9,true),(10,true)])]⟩
def IC:Go.Rmp.Fn:=⟨38,2,[.t 4],so [op 4 (.aD (.c (.bool false)))]<|so [mv 9 1,mv 10 0,nc 11 10,fa 12 0 11,l1 13 12,mv 14 0,nc 15 14,fa 16 1 15,l1 17 16,cl 18 102 [.r 9,.r 13,.r 17],mv 8 18,xt 19 0 8,xt 20 1 8,mv 5 19,mv 6 20]<|sq (so [op 7 (.aD (.c (.int .i64 0)))]<|.block 0 (.loop (sq (so [mv 21 7,mv 22 5,cO 23 22,b2 24 .lss 21 23]<|cx 24 0)<|sq (.block 1 (so [mv 27 0,nc 28 27,fa 29 2 28,l1 30 29,mv 31 5,mv 32 7,ia 33 1 31 32,l1 34 33,ia 35 1 30 34,l1 36 35,op 37 (.un .not (.r 36))]<|.cond (.r 37) (so [op 4 (.aD (.c (.bool false)))]<|.ret) (.skip)))<|.ops [mv 25 7,op 26 (.bin .add (.r 25) (.c (.int .i64 1))),mv 7 26])))<|so [op 4 (.aD (.c (.bool true)))]<|.ret⟩
def PC:An:=⟨[],[]⟩
def ID:Go.Rmp.Fn:=⟨48,2,[.t 4],so [op 4 (.aD (.c (.sl .nil [])))]<|so [op 5 (.aD (.c (.int .i64 0)))]<|sq (.block 0 (.loop (sq (so [mv 7 5,mv 8 0,cO 9 8,b2 10 .lss 7 9,mv 11 10,mt 12 0 11,mt 13 5 11,gt 14 11 (.cK 1 (.r 12) (.r 13)),gt 15 11 (.ld 1 false (.r 14)),mt 16 1 11,gt 17 11 (.bin .lss (.r 15) (.r 16)),op 18 (.pick (.r 11) (.r 17) (.c (.bool false)))]<|cx 18 0)<|.block 1 (.ops [mv 19 5,op 20 (.bin .add (.r 19) (.c (.int .i64 1))),mv 5 20]))))<|sq (so [mv 21 5,mv 22 0,cO 23 22,b2 24 .lss 21 23,mv 25 24,mt 26 0 25,mt 27 5 25,gt 28 25 (.cK 1 (.r 26) (.r 27)),gt 29 25 (.ld 1 false (.r 28)),mt 30 1 25,gt 31 25 (.bin .eql (.r 29) (.r 30)),op 32 (.pick (.r 25) (.r 31) (.c (.bool false)))]<|.cond (.r 32) (so [mv 33 0,mv 4 33]<|.ret) (.skip))<|so [op 6 (.aD (.c (.sl .nil [])))]<|so [mv 34 6,mv 35 0,mv 36 5,op 37 (.kR 1 (.r 35) none (some (.r 36)) none),op 38 (.app 1 8 false (.r 34) (.r 37)),mv 6 38]<|so [mv 39 6,mv 40 1,op 41 (.lX 1 [.int .u64 0] [(0,(.r 40))]),op 42 (.app 1 8 false (.r 39) (.r 41)),mv 6 42]<|so [mv 43 6,mv 44 0,mv 45 5,op 46 (.kR 1 (.r 44) (some (.r 45)) none none),op 47 (.app 1 8 false (.r 43) (.r 46)),mv 4 47]<|.ret⟩
def PD:An:=⟨[],[]⟩
def Bl:Go.Rmp.Fn:=⟨36,1,[.t 2],so [op 1 (.box (.r 0)),op 2 (.aD (.c (.bool false)))]<|sq (so [fa 5 1 1,l1 6 5,op 7 (.bin .eql (.r 6) (.c (.int .u64 0)))]<|.cond (.r 7) (so [fa 8 2 1,l1 9 8,op 10 (.bin .eql (.r 9) (.c (.str ⟨#[]⟩))),mv 11 10,gt 12 11 (.gL 3 (.r 1)),gt 13 11 (.ld 1 false (.r 12)),gt 14 11 (.len .sl (.r 13)),gt 15 11 (.bin .eql (.r 14) (.c (.int .i64 0))),op 16 (.pick (.r 11) (.r 15) (.c (.bool false))),mv 2 16]<|.ret) (.skip))<|so [fa 18 3 1,l1 19 18,cl 20 58 [.r 19],mv 17 20,xt 21 0 17,xt 22 1 17,mv 3 21,mv 4 22]<|so [fa 23 1 1,l1 24 23,op 25 (.bin .geq (.r 24) (.c (.int .u64 65536))),mv 26 25,mt 27 4 26,gt 28 26 (.bin .eql (.r 27) (.c (.int .i64 0))),op 29 (.pick (.r 26) (.r 28) (.c (.bool false))),mv 30 29,mt 31 3 30,gt 32 30 (.gL 0 (.r 1)),gt 33 30 (.ld 1 false (.r 32)),⟨(some 34),.call 59 [.r 31,.r 33],(some (30,true)),[]⟩,op 35 (.pick (.r 30) (.r 34) (.c (.bool false))),mv 2 35]<|.ret⟩
def PE:An:=⟨[],[]⟩
def Lp:Go.Rmp.Fn:=⟨16,1,[.t 2],so [op 2 (.aD (.c (.bool false)))]<|so [mv 3 0,cO 4 3,op 5 (.bin .geq (.r 4) (.c (.int .i64 1))),mv 6 5,mt 7 0 6,gt 8 6 (.len .sl (.r 7)),gt 9 6 (.bin .leq (.r 8) (.c (.int .i64 64))),op 10 (.pick (.r 6) (.r 9) (.c (.bool false))),mv 11 10,mt 12 0 11,⟨(some 13),.call 108 [.r 12,(.c .bI)],(some (11,true)),[]⟩,gt 14 11 (.un .not (.r 13)),op 15 (.pick (.r 11) (.r 14) (.c (.bool false))),mv 2 15]<|.ret⟩
def PF:An:=⟨[],[]⟩
def Lq:Go.Rmp.Fn:=⟨15,1,[.t 2],so [op 1 (.box (.r 0)),op 2 (.aD (.c (.bool false)))]<|so [fa 6 0 1,l1 7 6,fa 8 1 1,l1 9 8,cl 10 44 [.r 7,.r 9],mv 5 10,xt 11 0 5,xt 12 1 5,mv 3 11,mv 4 12]<|so [mv 13 4,op 14 (.bin .eql (.r 13) (.c (.int .i64 0))),mv 2 14]<|.ret⟩
def PG:An:=⟨[],[]⟩
def Lr:Go.Rmp.Fn:=⟨27,1,[.t 2],so [op 2 (.aD (.c (.bool false)))]<|sq (so [mv 5 0,cO 6 5,op 7 (.bin .lss (.r 6) (.c (.int .i64 1))),mv 8 7,mf 9 0 8,gf 10 8 (.len .sl (.r 9)),gf 11 8 (.bin .gtr (.r 10) (.c (.int .i64 1024))),op 12 (.pick (.r 8) (.c (.bool true)) (.r 11))]<|.cond (.r 12) (so [op 2 (.aD (.c (.bool false)))]<|.ret) (.skip))<|sq (so [mv 13 0,cO 14 13,op 15 (.aD (.c (.int .i64 0)))]<|.block 0 (.loop (so [b2 16 .lss 15 14]<|sq (cx 16 0)<|sq (.block 1 (so [ia 17 1 13 15,l1 18 17,mv 4 18]<|so [mv 19 4,op 20 (.len .str (.r 19)),op 21 (.bin .gtr (.r 20) (.c (.int .i64 65535)))]<|.cond (.r 21) (so [op 2 (.aD (.c (.bool false)))]<|.ret) (.skip)))<|.ops [op 22 (.bin .add (.r 15) (.c (.int .i64 1))),mv 15 22])))<|so [mv 23 0,cl 24 111 [.r 23],cl 25 110 [.r 24],cl 26 109 [.r 25],mv 2 26]<|.ret⟩
def PH:An:=⟨[],[]⟩
def Ls:Go.Rmp.Fn:=⟨18,2,[.t 4],so [op 4 (.aD (.c .bI))]<|so [mv 8 1,mv 9 0,cO 10 9,cl 11 25 [.r 8,.r 10],mv 7 11,xt 12 0 7,xt 13 1 7,mv 5 12,mv 6 13]<|so [mv 14 0,mv 15 5,ia 16 1 14 15,l1 17 16,mv 4 17]<|.ret⟩
def PI:An:=⟨[],[]⟩
def Lt:Go.Rmp.Fn:=⟨25,2,[.cl 4 4 true],so [op 4 (.alloc [.str ⟨#[]⟩,.int .u64 0,.str ⟨#[]⟩,.sl .nil []])]<|so [mv 8 0,nc 9 8,fa 10 3 9,l1 11 10,mv 12 1,op 13 (.oU (.sc .str) (.int .u64 0) true (.r 11) (.r 12)),mv 7 13,xt 14 0 7,xt 15 1 7,mv 5 14,mv 6 15]<|sq (so [mv 16 6,op 17 (.un .not (.r 16))]<|.cond (.r 17) (so [mv 18 1,op 19 (.build [.str ⟨#[]⟩,.int .u64 0,.str ⟨#[]⟩,.sl .nil []] [(0,1,(.r 18))]),se 4 4 19]<|.ret) (.skip))<|so [mv 20 0,mv 21 1,mv 22 5,op 23 (.build [.str ⟨#[]⟩,.int .u64 0] [(0,1,(.r 21)),(1,1,(.r 22))]),cl 24 91 [.r 20,.r 23],se 4 4 24]<|.ret⟩
def PJ:An:=⟨[],[]⟩
def ES:Go.Rmp.Fn:=⟨8,1,[.t 2],so [op 2 (.aD (.c (.sl .nil [])))]<|sq (so [mv 3 0,op 4 (.l7 false .slice (.r 3) (.c (.sl .nil [])))]<|.cond (.r 4) (so [op 2 (.aD (.c (.sl .nil [])))]<|.ret) (.skip))<|so [op 5 (.lX 0 [.int .u8 0] []),mv 6 0,op 7 (.app 1 1 false (.r 5) (.r 6)),mv 2 7]<|.ret⟩
def PK:An:=⟨[],[]⟩
def Lu:Go.Rmp.Fn:=⟨9,1,[.t 2],so [op 2 (.aD (.c (.bool false)))]<|so [mv 3 0,op 4 (.bin .geq (.r 3) (.c (.int .i64 1))),mv 5 4,mt 6 0 5,gt 7 5 (.bin .leq (.r 6) (.c (.int .i64 64))),op 8 (.pick (.r 5) (.r 7) (.c (.bool false))),mv 2 8]<|.ret⟩
def PL:An:=⟨[],[]⟩
def Lv:Go.Rmp.Fn:=⟨11,2,[.t 4],so [op 4 (.aD (.c (.int .i64 0)))]<|so [mv 5 0,cl 6 112 [.r 5],mv 7 1,op 8 (.fB .u64 (.r 7)),b2 9 .rem 6 8,op 10 (.fB .i64 (.r 9)),mv 4 10]<|.ret⟩
def PM:An:=⟨[],[]⟩
def Lw:Go.Rmp.Fn:=⟨8,1,[.t 2],so [op 2 (.aD (.c (.sl .nil [])))]<|sq (so [mv 3 0,op 4 (.l7 false .slice (.r 3) (.c (.sl .nil [])))]<|.cond (.r 4) (so [op 2 (.aD (.c (.sl .nil [])))]<|.ret) (.skip))<|so [op 5 (.lX 0 [.str ⟨#[]⟩] []),mv 6 0,op 7 (.app 1 16 false (.r 5) (.r 6)),mv 2 7]<|.ret⟩
def PN:An:=⟨[],[(1,[(0,true),(1,true),(2,true),(3,true),(4,true),(5,true),(6,true),(7,false)]),(2,[(0,true),(1,true),(2,true),(3,true),(4,true),(5,true),(6,true),(7,true),(8,false),(9,true),(10,false)])]⟩
def Lx:Go.Rmp.Fn:=⟨22,2,[.cl 4 4 true],so [op 3 (.box (.r 1)),op 4 (.alloc [.str ⟨#[]⟩,.int .u64 0,.str ⟨#[]⟩,.sl .nil []])]<|so [mv 6 0,nc 7 6,fa 8 0 7,l1 9 8,ln 10 2 3,op 11 (.oU (.st [.str,.int]) (.agg [.str ⟨#[]⟩,.sl .nil [],.int .i64 0]) false (.r 9) (.r 10)),op 5 (.alloc [.str ⟨#[]⟩,.sl .nil [],.int .i64 0]),se 3 5 11]<|so [fa 12 0 3,l1 13 12,fa 14 1 3,l1 15 14,fa 16 0 5,l1 17 16,fa 18 1 5,l1 19 18,⟨(some 20),.call 82 [.r 19],none,[⟨13,.ld 1 false (.r 12),none⟩,⟨15,.ld 1 false (.r 14),none⟩,⟨17,.ld 1 false (.r 16),none⟩]⟩,op 21 (.build [.str ⟨#[]⟩,.int .u64 0,.str ⟨#[]⟩,.sl .nil []] [(0,1,(.r 13)),(1,1,(.r 15)),(2,1,(.r 17)),(3,1,(.r 20))]),se 4 4 21]<|.ret⟩
def PO:An:=⟨[],[(6,[(0,true),(1,true),(2,true),(3,true),(4,true),(5,true),(6,true),(7,true),(8,true),(9,true),(10,true),(11,true),(12,true),(13,true),(14,true),(15,true),(16,true),(17,false),(18,true),(19,true),(20,true),(21,true),(22,true),(23,true),(24,true),(25,true)])]⟩
def Ly:Go.Rmp.Fn:=⟨55,3,[.t 6],so [op 6 (.aD (.c (.bool false)))]<|sq (so [mv 9 0,op 10 (.bin .lss (.r 9) (.c (.int .u64 65536))),mv 11 10,mf 12 2 11,⟨(some 13),.call 133 [.r 12],(some (11,false)),[]⟩,gf 14 11 (.un .not (.r 13)),op 15 (.pick (.r 11) (.c (.bool true)) (.r 14)),mv 16 15,mf 17 1 16,gf 18 16 (.len .sl (.r 17)),gf 19 16 (.bin .lss (.r 18) (.c (.int .i64 1))),op 20 (.pick (.r 16) (.c (.bool true)) (.r 19))]<|.cond (.r 20) (so [op 6 (.aD (.c (.bool false)))]<|.ret) (.skip))<|sq (so [mv 21 1,cO 22 21,op 23 (.aD (.c (.int .i64 0)))]<|.block 0 (.loop (so [b2 24 .lss 23 22]<|sq (cx 24 0)<|sq (.block 1 (so [mv 25 23,ia 26 2 21 23,ln 27 2 26,op 8 (.alloc [.str ⟨#[]⟩,.str ⟨#[]⟩]),mv 7 25,se 2 8 27]<|so [mv 28 7,op 29 (.bin .gtr (.r 28) (.c (.int .i64 0))),mv 30 29,gt 31 30 (.gL 0 (.r 8)),gt 32 30 (.ld 1 false (.r 31)),mt 33 1 30,mt 34 7 30,gt 35 30 (.bin .sub (.r 34) (.c (.int .i64 1))),gt 36 30 (.cK 2 (.r 33) (.r 35)),gt 37 30 (.gL 0 (.r 36)),gt 38 30 (.ld 1 false (.r 37)),gt 39 30 (.bin .leq (.r 32) (.r 38)),op 40 (.pick (.r 30) (.r 39) (.c (.bool false))),mv 41 40,mf 42 2 41,gf 43 41 (.gL 0 (.r 8)),gf 44 41 (.ld 1 false (.r 43)),⟨(some 45),.call 134 [.r 42,.r 44],(some (41,false)),[]⟩,gf 46 41 (.un .not (.r 45)),op 47 (.pick (.r 41) (.c (.bool true)) (.r 46)),mv 48 47,gf 49 48 (.gL 1 (.r 8)),gf 50 48 (.ld 1 false (.r 49)),gf 51 48 (.len .str (.r 50)),gf 52 48 (.bin .gtr (.r 51) (.c (.int .i64 65535))),op 53 (.pick (.r 48) (.c (.bool true)) (.r 52))]<|.cond (.r 53) (so [op 6 (.aD (.c (.bool false)))]<|.ret) (.skip)))<|.ops [op 54 (.bin .add (.r 23) (.c (.int .i64 1))),mv 23 54])))<|so [op 6 (.aD (.c (.bool true)))]<|.ret⟩
def PQ:An:=⟨[],[]⟩
def Lz:Go.Rmp.Fn:=⟨9,1,[.t 2],so [op 2 (.aD (.c (.bool false)))]<|so [mv 3 0,op 4 (.bin .geq (.r 3) (.c (.int .i64 0))),mv 5 4,mt 6 0 5,gt 7 5 (.bin .leq (.r 6) (.c (.int .i64 1099511627776))),op 8 (.pick (.r 5) (.r 7) (.c (.bool false))),mv 2 8]<|.ret⟩
def PR:An:=⟨[(3,16),(4,16)],[(1,[(0,true),(1,true),(2,true),(3,true),(4,true),(5,true),(6,false)]),(2,[(0,true),(1,true),(2,true),(3,true),(4,true),(5,true),(6,true),(7,true),(8,true),(9,false),(10,true),(11,true),(12,true),(13,true),(14,true)]),(3,[(0,true),(1,true),(2,true),(3,true),(4,true),(5,true),(6,true),(7,true),(8,true),(9,true),(10,true),(11,true),(12,true),(13,true),(14,true),(15,true),(16,false),(17,false),(18,false)]),(4,[(0,true),(1,true),(2,true),(3,true),(4,true),(5,true),(6,true),(7,true),(8,true),(9,true),(10,true),(11,true),(12,true),(13,true),(14,true),(15,true),(16,false),(17,false)])]⟩
def LA:Go.Rmp.Fn:=⟨62,3,[],so [op 4 (.box (.r 1)),op 5 (.box (.r 2))]<|so [mv 8 0,nc 9 8,fa 10 0 9,l1 11 10,ln 12 2 4,ln 13 3 5,ef (.x7 (.st [.str,.int]) (.r 11) (.r 12) (.r 13))]<|so [mv 15 0,nc 16 15,fa 17 1 16,l1 18 17,fa 19 0 4,l1 20 19,op 21 (.oU (.sc .str) (.sl .nil []) false (.r 18) (.r 20)),fa 22 1 4,l1 23 22,cl 24 135 [.r 21,.r 23],mv 14 24,xt 25 0 14,xt 26 1 14,mv 6 25,mv 7 26]<|so [mv 27 0,nc 28 27,fa 29 1 28,l1 30 29,fa 31 0 4,l1 32 31,mv 33 0,nc 34 33,fa 35 1 34,l1 36 35,fa 37 0 4,l1 38 37,op 39 (.oU (.sc .str) (.sl .nil []) false (.r 36) (.r 38)),mv 40 6,fa 41 1 4,l1 42 41,⟨(some 43),.b (.Jf 1 [.int .u64 0] [(0,(.r 42))]),none,[⟨30,.ld 1 false (.r 29),none⟩,⟨32,.ld 1 false (.r 31),none⟩,⟨36,.ld 1 false (.r 35),none⟩,⟨38,.ld 1 false (.r 37),none⟩,⟨39,.oU (.sc .str) (.sl .nil []) false (.r 36) (.r 38),none⟩]⟩,⟨(some 44),.call 136 [.r 39,.r 40,.r 43],none,[⟨30,.ld 1 false (.r 29),none⟩,⟨32,.ld 1 false (.r 31),none⟩]⟩,ef (.x7 (.sc .str) (.r 30) (.r 32) (.r 44))]<|.ops [mv 45 0,nc 46 45,fa 47 2 46,l1 48 47,fa 49 1 4,l1 50 49,mv 51 0,nc 52 51,fa 53 2 52,l1 54 53,fa 55 1 4,l1 56 55,op 57 (.oU (.sc .int) (.sl .nil []) false (.r 54) (.r 56)),fa 58 0 4,l1 59 58,op 60 (.lX 1 [.str ⟨#[]⟩] [(0,(.r 59))]),⟨(some 61),.b (.app 1 16 true (.r 57) (.r 60)),none,[⟨48,.ld 1 false (.r 47),none⟩,⟨50,.ld 1 false (.r 49),none⟩]⟩,ef (.x7 (.sc .int) (.r 48) (.r 50) (.r 61))]⟩
def PS:An:=⟨[],[]⟩
def xL:Go.Rmp.Fn:=⟨21,1,[.t 2],so [op 1 (.box (.r 0)),op 2 (.aD (.c (.bool false)))]<|so [fa 3 0 1,l1 4 3,op 5 (.bin .geq (.r 4) (.c (.int .i64 1))),mv 6 5,gt 7 6 (.gL 0 (.r 1)),gt 8 6 (.ld 1 false (.r 7)),gt 9 6 (.bin .leq (.r 8) (.c (.int .i64 65536))),op 10 (.pick (.r 6) (.r 9) (.c (.bool false))),mv 11 10,gt 12 11 (.gL 1 (.r 1)),gt 13 11 (.ld 1 false (.r 12)),gt 14 11 (.bin .geq (.r 13) (.c (.int .i64 1))),op 15 (.pick (.r 11) (.r 14) (.c (.bool false))),mv 16 15,gt 17 16 (.gL 1 (.r 1)),gt 18 16 (.ld 1 false (.r 17)),gt 19 16 (.bin .leq (.r 18) (.c (.int .i64 16))),op 20 (.pick (.r 16) (.r 19) (.c (.bool false))),mv 2 20]<|.ret⟩
def PT:An:=⟨[],[]⟩
def IE:Go.Rmp.Fn:=⟨7,1,[.t 2],so [op 1 (.box (.r 0)),op 2 (.aD (.c (.int .i64 0)))]<|so [fa 3 0 1,l1 4 3,op 5 (.bin .add (.r 4) (.c (.int .i64 7))),op 6 (.bin .quo (.r 5) (.c (.int .i64 8))),mv 2 6]<|.ret⟩
def PU:An:=⟨[],[]⟩
def LB:Go.Rmp.Fn:=⟨19,2,[.t 4],so [op 4 (.aD (.c (.int .i64 0)))]<|sq (so [mv 6 0,cO 7 6,op 8 (.aD (.c (.int .i64 0)))]<|.block 0 (.loop (so [b2 9 .lss 8 7]<|sq (cx 9 0)<|sq (.block 1 (so [mv 10 8,mv 5 10]<|so [mv 11 1,mv 12 0,mv 13 5,ia 14 1 12 13,l1 15 14,b2 16 .eql 11 15]<|.cond (.r 16) (so [mv 17 5,mv 4 17]<|.ret) (.skip)))<|.ops [op 18 (.bin .add (.r 8) (.c (.int .i64 1))),mv 8 18])))<|so [op 4 (.aD (.c (.int .i64 (-1))))]<|.ret⟩
def PW:An:=⟨[],[]⟩
def IG:Go.Rmp.Fn:=⟨33,2,[.t 4],so [op 2 (.box (.r 0)),op 4 (.aD (.c (.sl .nil [])))]<|so [mv 9 1,cl 10 112 [.r 9],mv 5 10]<|so [mv 11 5,op 12 (.bin .shr (.r 11) (.c (.int .u64 32))),mv 13 5,op 14 (.bin .and (.r 13) (.c (.int .u64 4294967295))),mv 6 12,mv 7 14]<|so [op 8 (.aD (.c (.sl .nil [])))]<|sq (so [fa 15 1 2,l1 16 15,op 17 (.aD (.c (.int .i64 0)))]<|.block 0 (.loop (so [b2 18 .lss 17 16]<|sq (cx 18 0)<|sq (.block 1 (so [mv 19 8,mv 20 6,fa 21 0 2,l1 22 21,op 23 (.fB .u64 (.r 22)),b2 24 .rem 20 23,op 25 (.fB .i64 (.r 24)),op 26 (.lX 1 [.int .i64 0] [(0,(.r 25))]),op 27 (.app 1 8 false (.r 19) (.r 26)),mv 8 27]<|.ops [mv 28 6,mv 29 7,b2 30 .add 28 29,mv 6 30]))<|.ops [op 31 (.bin .add (.r 17) (.c (.int .i64 1))),mv 17 31])))<|so [mv 32 8,mv 4 32]<|.ret⟩
def LC:An:=⟨[],[]⟩
def qk:Go.Rmp.Fn:=⟨19,2,[.t 4],so [op 4 (.aD (.c (.bool false)))]<|so [mv 5 0,op 6 (.bin .geq (.r 5) (.c (.int .i64 1))),mv 7 6,mt 8 0 7,gt 9 7 (.bin .leq (.r 8) (.c (.int .i64 65536))),op 10 (.pick (.r 7) (.r 9) (.c (.bool false))),mv 11 10,mt 12 1 11,gt 13 11 (.bin .geq (.r 12) (.c (.int .i64 1))),op 14 (.pick (.r 11) (.r 13) (.c (.bool false))),mv 15 14,mt 16 1 15,gt 17 15 (.bin .leq (.r 16) (.c (.int .i64 16))),op 18 (.pick (.r 15) (.r 17) (.c (.bool false))),mv 4 18]<|.ret⟩
def LD:An:=⟨[],[]⟩
def Bm:Go.Rmp.Fn:=⟨38,3,[.t 6,.t 7],so [op 6 (.aD (.c (.sl .nil []))),op 7 (.aD (.c (.int .i64 0)))]<|sq (so [mv 11 1,mv 12 2,cl 13 100 [.r 11,.r 12],op 14 (.un .not (.r 13))]<|.cond (.r 14) (so [op 6 (.aD (.c (.sl .nil []))),op 7 (.aD (.c (.int .i64 1)))]<|.ret) (.skip))<|so [mv 15 0,cl 16 113 [.r 15],mv 8 16]<|so [op 9 (.aD (.c (.sl .nil [])))]<|sq (so [op 10 (.aD (.c (.int .u64 0)))]<|.block 0 (.loop (sq (so [mv 17 10,mv 18 2,op 19 (.fB .u64 (.r 18)),b2 20 .lss 17 19]<|cx 20 0)<|sq (.block 1 (.ops [mv 23 9,mv 24 8,op 25 (.bin .shr (.r 24) (.c (.int .u64 32))),mv 26 10,mv 27 8,op 28 (.bin .and (.r 27) (.c (.int .u64 4294967295))),b2 29 .mul 26 28,b2 30 .add 25 29,mv 31 1,op 32 (.fB .u64 (.r 31)),b2 33 .rem 30 32,op 34 (.fB .i64 (.r 33)),op 35 (.lX 1 [.int .i64 0] [(0,(.r 34))]),op 36 (.app 1 8 false (.r 23) (.r 35)),mv 9 36]))<|.ops [mv 21 10,op 22 (.bin .add (.r 21) (.c (.int .u64 1))),mv 10 22])))<|so [mv 37 9,mv 6 37,op 7 (.aD (.c (.int .i64 0)))]<|.ret⟩
def LF:An:=⟨[],[(2,[(0,true),(1,true),(2,true),(3,true),(4,true),(5,true),(6,true),(7,true),(8,true),(9,true),(10,true)])]⟩
def qm:Go.Rmp.Fn:=⟨39,1,[.t 2,.t 3],so [op 1 (.box (.r 0)),op 2 (.aD (.c .bI)),op 3 (.aD (.c (.bool false)))]<|sq (so [fa 6 1 1,l1 7 6,op 8 (.bin .eql (.r 7) (.c (.int .u64 0)))]<|.cond (.r 8) (so [fa 9 2 1,l1 10 9,op 11 (.bin .eql (.r 10) (.c (.str ⟨#[]⟩))),mv 12 11,gt 13 12 (.gL 3 (.r 1)),gt 14 12 (.ld 1 false (.r 13)),gt 15 12 (.len .sl (.r 14)),gt 16 12 (.bin .eql (.r 15) (.c (.int .i64 0))),op 17 (.pick (.r 12) (.r 16) (.c (.bool false))),op 2 (.aD (.c .bI)),mv 3 17]<|.ret) (.skip))<|so [fa 19 3 1,l1 20 19,cl 21 137 [.r 20],mv 18 21,xt 22 0 18,xt 23 1 18,mv 4 22,mv 5 23]<|sq (so [fa 24 1 1,l1 25 24,op 26 (.bin .lss (.r 25) (.c (.int .u64 65536))),mv 27 26,mf 28 5 27,gf 29 27 (.bin .neq (.r 28) (.c (.int .i64 0))),op 30 (.pick (.r 27) (.c (.bool true)) (.r 29)),mv 31 30,mf 32 4 31,gf 33 31 (.gL 0 (.r 1)),gf 34 31 (.ld 1 false (.r 33)),⟨(some 35),.call 55 [.r 32,.r 34],(some (31,false)),[]⟩,gf 36 31 (.un .not (.r 35)),op 37 (.pick (.r 31) (.c (.bool true)) (.r 36))]<|.cond (.r 37) (so [op 2 (.aD (.c .bI)),op 3 (.aD (.c (.bool false)))]<|.ret) (.skip))<|so [mv 38 4,mv 2 38,op 3 (.aD (.c (.bool true)))]<|.ret⟩
def LG:An:=⟨[],[]⟩
def Bn:Go.Rmp.Fn:=⟨9,2,[.t 4],so [op 4 (.aD (.c (.bool false)))]<|so [mv 5 0,mv 6 1,cl 7 138 [.r 5,.r 6],op 8 (.bin .geq (.r 7) (.c (.int .i64 0))),mv 4 8]<|.ret⟩
def LH:An:=⟨[],[]⟩
def wC:Go.Rmp.Fn:=⟨17,2,[.t 3],so [op 3 (.aD (.c (.bool false)))]<|so [l1 4 1,nc 5 4,fa 6 2 5,l1 7 6,mv 8 0,op 9 (.bin .quo (.r 8) (.c (.int .i64 8))),ia 10 1 7 9,l1 11 10,mv 12 0,op 13 (.bin .rem (.r 12) (.c (.int .i64 8))),b2 14 .shr 11 13,op 15 (.bin .and (.r 14) (.c (.int .u8 1))),op 16 (.bin .eql (.r 15) (.c (.int .u8 0))),mv 3 16]<|.ret⟩
def LI:An:=⟨[],[(17,[(0,true),(1,true),(2,true),(3,true),(4,true),(5,true),(6,true),(7,true),(8,true),(9,true),(10,true),(11,true),(12,false),(13,true),(14,true)])]⟩
def dr:Go.Rmp.Fn:=⟨134,4,[],so [op 8 (.aD (.c (.bool true)))]<|so [op 9 (.aD (.c (.bool true)))]<|.block 0 (.loop (.block 1 (so [mv 19 2,mv 20 1,b2 21 .sub 19 20,mv 10 21]<|sq (so [mv 22 10,op 23 (.bin .leq (.r 22) (.c (.int .i64 12)))]<|.cond (.r 23) (so [mv 24 0,mv 25 1,mv 26 2,cl 27 139 [.r 24,.r 25,.r 26]]<|.ret) (.skip))<|sq (so [mv 28 3,op 29 (.bin .eql (.r 28) (.c (.int .i64 0)))]<|.cond (.r 29) (so [mv 30 0,mv 31 1,mv 32 2,cl 33 140 [.r 30,.r 31,.r 32]]<|.ret) (.skip))<|sq (so [mv 34 8,op 35 (.un .not (.r 34))]<|.cond (.r 35) (so [mv 36 0,mv 37 1,mv 38 2,cl 39 141 [.r 36,.r 37,.r 38]]<|.ops [mv 40 3,op 41 (.bin .sub (.r 40) (.c (.int .i64 1))),mv 3 41]) (.skip))<|so [mv 43 0,mv 44 1,mv 45 2,cl 46 142 [.r 43,.r 44,.r 45],mv 42 46,xt 47 0 42,xt 48 1 42,mv 11 47,mv 12 48]<|sq (so [mv 49 12,op 50 (.bin .eql (.r 49) (.c (.int .i64 2)))]<|.cond (.r 50) (so [mv 51 0,mv 52 1,mv 53 2,cl 54 143 [.r 51,.r 52,.r 53]]<|so [mv 55 2,op 56 (.bin .sub (.r 55) (.c (.int .i64 1))),mv 57 11,mv 58 1,b2 59 .sub 57 58,b2 60 .sub 56 59,mv 11 60]<|.ops [op 12 (.aD (.c (.int .i64 1)))]) (.skip))<|sq (so [mv 61 8,mv 62 61,mt 63 9 62,op 64 (.pick (.r 62) (.r 63) (.c (.bool false))),mv 65 64,mt 66 12 65,gt 67 65 (.bin .eql (.r 66) (.c (.int .i64 1))),op 68 (.pick (.r 65) (.r 67) (.c (.bool false)))]<|.cond (.r 68) (so [mv 69 0,mv 70 1,mv 71 2,cl 72 144 [.r 69,.r 70,.r 71]]<|.cond (.r 72) (.ret) (.skip)) (.skip))<|sq (so [mv 73 1,op 74 (.bin .gtr (.r 73) (.c (.int .i64 0))),mv 75 74,mt 76 0 75,mt 77 1 75,gt 78 75 (.bin .sub (.r 77) (.c (.int .i64 1))),gt 79 75 (.cK 1 (.r 76) (.r 78)),gt 80 75 (.ld 1 false (.r 79)),mt 81 0 75,mt 82 11 75,gt 83 75 (.cK 1 (.r 81) (.r 82)),gt 84 75 (.ld 1 false (.r 83)),⟨(some 85),.call 145 [.r 80,.r 84],(some (75,true)),[]⟩,gt 86 75 (.un .not (.r 85)),op 87 (.pick (.r 75) (.r 86) (.c (.bool false)))]<|.cond (.r 87) (so [mv 88 0,mv 89 1,mv 90 2,mv 91 11,cl 92 146 [.r 88,.r 89,.r 90,.r 91],mv 13 92]<|so [mv 93 13,mv 1 93]<|.exit 1) (.skip))<|so [mv 95 0,mv 96 1,mv 97 2,mv 98 11,cl 99 147 [.r 95,.r 96,.r 97,.r 98],mv 94 99,xt 100 0 94,xt 101 1 94,mv 14 100,mv 15 101]<|so [mv 102 15,mv 9 102]<|so [mv 103 14,mv 104 1,b2 105 .sub 103 104,mv 106 2,mv 107 14,b2 108 .sub 106 107,mv 16 105,mv 17 108]<|so [mv 109 10,op 110 (.bin .quo (.r 109) (.c (.int .i64 8))),mv 18 110]<|so [mv 111 16,mv 112 17,b2 113 .lss 111 112]<|.cond (.r 113) (so [mv 114 16,mv 115 18,b2 116 .geq 114 115,mv 8 116]<|so [mv 117 0,mv 118 1,mv 119 14,mv 120 3,cl 121 106 [.r 117,.r 118,.r 119,.r 120]]<|.ops [mv 122 14,op 123 (.bin .add (.r 122) (.c (.int .i64 1))),mv 1 123]) (so [mv 124 17,mv 125 18,b2 126 .geq 124 125,mv 8 126]<|so [mv 127 0,mv 128 14,op 129 (.bin .add (.r 128) (.c (.int .i64 1))),mv 130 2,mv 131 3,cl 132 106 [.r 127,.r 129,.r 130,.r 131]]<|.ops [mv 133 14,mv 2 133]))))⟩
def LJ:An:=⟨[],[]⟩
def Bp:Go.Rmp.Fn:=⟨8,1,[.t 2],so [op 2 (.aD (.c (.int .i64 0)))]<|sq (.cond (.c (.bool false)) (so [mv 3 0,op 4 (.fB .u32 (.r 3)),cl 5 148 [.r 4],mv 2 5]<|.ret) (.skip))<|so [mv 6 0,cl 7 149 [.r 6],mv 2 7]<|.ret⟩
def LK:An:=⟨[],[]⟩
def Gu:Go.Rmp.Fn:=⟨9,2,[.t 4],so [op 4 (.aD (.c (.bool false)))]<|so [mv 5 0,mv 6 1,cl 7 150 [.r 5,.r 6],op 8 (.bin .geq (.r 7) (.c (.int .i64 0))),mv 4 8]<|.ret⟩
def LL:An:=⟨[],[(4,[(0,true),(1,true),(2,true),(3,true),(4,true),(5,true),(6,true),(7,true),(8,true),(9,true)])]⟩
def Gv:Go.Rmp.Fn:=⟨20,1,[.t 2],so [op 2 (.aD (.c (.bool false)))]<|sq (so [op 3 (.aD (.c (.int .i64 1)))]<|.block 0 (.loop (sq (so [mv 4 3,mv 5 0,cO 6 5,b2 7 .lss 4 6]<|cx 7 0)<|sq (.block 1 (so [mv 10 0,mv 11 3,op 12 (.bin .sub (.r 11) (.c (.int .i64 1))),ia 13 1 10 12,l1 14 13,mv 15 0,mv 16 3,ia 17 1 15 16,l1 18 17,b2 19 .geq 14 18]<|.cond (.r 19) (so [op 2 (.aD (.c (.bool false)))]<|.ret) (.skip)))<|.ops [mv 8 3,op 9 (.bin .add (.r 8) (.c (.int .i64 1))),mv 3 9])))<|so [op 2 (.aD (.c (.bool true)))]<|.ret⟩
def LM:An:=⟨[],[]⟩
def Gw:Go.Rmp.Fn:=⟨9,1,[.t 2],so [op 2 (.aD (.c (.sl .nil [])))]<|so [mv 4 0,cl 5 151 [.r 4],mv 3 5]<|so [mv 6 3,cl 7 152 [.r 6]]<|so [mv 8 3,mv 2 8]<|.ret⟩
def LN:An:=⟨[],[]⟩
def Gx:Go.Rmp.Fn:=⟨4,1,[.t 2],so [op 1 (.box (.r 0)),op 2 (.aD (.c .kT))]<|so [op 3 (.G1 153 [.r 1]),mv 2 3]<|.ret⟩
def LO:An:=⟨[],[]⟩
def Bq:Go.Rmp.Fn:=⟨6,1,[.t 2],so [op 2 (.aD (.c (.int .u64 0)))]<|so [cl 3 155 [],mv 4 0,cl 5 154 [.r 3,.r 4],mv 2 5]<|.ret⟩
def LP:An:=⟨[],[]⟩
def Br:Go.Rmp.Fn:=⟨5,1,[.t 2],so [op 2 (.aD (.c (.int .u64 0)))]<|so [mv 3 0,cl 4 156 [(.c (.int .u64 14695981039346656037)),.r 3],mv 2 4]<|.ret⟩
def LQ:An:=⟨[],[]⟩
def Gy:Go.Rmp.Fn:=⟨37,1,[.t 2],so [op 2 (.aD (.c (.bool false)))]<|sq (so [mv 5 0,cO 6 5,op 7 (.aD (.c (.int .i64 0)))]<|.block 0 (.loop (so [b2 8 .lss 7 6]<|sq (cx 8 0)<|sq (.block 1 (so [mv 9 7,ia 10 1 5 7,l1 11 10,mv 3 9,mv 4 11]<|so [mv 12 4,op 13 (.len .str (.r 12)),op 14 (.bin .gtr (.r 13) (.c (.int .i64 65535))),mv 15 14,mf 16 3 15,gf 17 15 (.bin .gtr (.r 16) (.c (.int .i64 0))),mf 18 17 15,mt 19 4 18,mt 20 0 18,mt 21 3 18,gt 22 18 (.bin .sub (.r 21) (.c (.int .i64 1))),gt 23 18 (.cK 1 (.r 20) (.r 22)),gt 24 18 (.ld 1 false (.r 23)),gt 25 18 (.bin .leq (.r 19) (.r 24)),gf 26 15 (.pick (.r 18) (.r 25) (.c (.bool false))),op 27 (.pick (.r 15) (.c (.bool true)) (.r 26))]<|.cond (.r 27) (so [op 2 (.aD (.c (.bool false)))]<|.ret) (.skip)))<|.ops [op 28 (.bin .add (.r 7) (.c (.int .i64 1))),mv 7 28])))<|so [mv 29 0,cO 30 29,op 31 (.bin .geq (.r 30) (.c (.int .i64 1))),mv 32 31,mt 33 0 32,gt 34 32 (.len .sl (.r 33)),gt 35 32 (.bin .leq (.r 34) (.c (.int .i64 1024))),op 36 (.pick (.r 32) (.r 35) (.c (.bool false))),mv 2 36]<|.ret⟩
def LR:An:=⟨[],[]⟩
def Gz:Go.Rmp.Fn:=⟨14,2,[.t 4],so [op 4 (.aD (.c (.bool false)))]<|so [mv 8 0,mv 9 1,cl 10 171 [.r 8,.r 9],mv 7 10,xt 11 0 7,xt 12 1 7,mv 5 11,mv 6 12]<|so [mv 13 6,mv 4 13]<|.ret⟩
def LS:An:=⟨[],[]⟩
def GA:Go.Rmp.Fn:=⟨54,2,[.t 4,.t 5],so [op 4 (.aD (.c (.int .i64 0))),op 5 (.aD (.c (.bool false)))]<|so [mv 10 0,cO 11 10,mv 6 11]<|so [mv 12 6,op 7 (.aD (.c (.int .i64 0))),mv 8 12]<|sq (.block 0 (.loop (sq (so [mv 13 7,mv 14 8,b2 15 .lss 13 14]<|cx 15 0)<|.block 1 (so [mv 16 7,mv 17 8,b2 18 .add 16 17,op 19 (.fB .u64 (.r 18)),op 20 (.bin .shr (.r 19) (.c (.int .u64 1))),op 21 (.fB .i64 (.r 20)),mv 9 21]<|so [mv 22 0,mv 23 9,ia 24 1 22 23,l1 25 24,mv 26 1,cl 27 145 [.r 25,.r 26]]<|.cond (.r 27) (.ops [mv 28 9,op 29 (.bin .add (.r 28) (.c (.int .i64 1))),mv 7 29]) (.ops [mv 30 9,mv 8 30])))))<|so [mv 31 7,mv 32 7,mv 33 6,b2 34 .lss 32 33,mv 35 34,mt 36 0 35,mt 37 7 35,gt 38 35 (.cK 1 (.r 36) (.r 37)),gt 39 35 (.ld 1 false (.r 38)),mt 40 1 35,gt 41 35 (.bin .eql (.r 39) (.r 40)),mt 42 41 35,mf 43 0 42,mf 44 7 42,gf 45 42 (.cK 1 (.r 43) (.r 44)),gf 46 42 (.ld 1 false (.r 45)),⟨(some 47),.call 172 [.r 46],(some (42,false)),[]⟩,mf 48 47 42,mt 49 1 48,⟨(some 50),.call 172 [.r 49],(some (48,true)),[]⟩,gf 51 42 (.pick (.r 48) (.r 50) (.c (.bool false))),gt 52 35 (.pick (.r 42) (.c (.bool true)) (.r 51)),op 53 (.pick (.r 35) (.r 52) (.c (.bool false))),mv 4 31,mv 5 53]<|.ret⟩
def LU:An:=⟨[(7,2)],[(11,[(0,true),(1,true),(2,true),(3,true),(4,true),(5,true),(6,true),(7,true),(8,false)]),(15,[(0,true),(1,true),(2,true),(3,true),(4,true),(5,true),(6,true),(7,true),(8,false)])]⟩
def GB:Go.Rmp.Fn:=⟨95,3,[.t 6],so [op 6 (.aD (.c (.sl .nil [])))]<|so [mv 10 0,mv 11 1,op 12 (.kR 1 (.r 10) (some (.r 11)) none none)]<|so [mv 13 2,cO 14 13,mv 7 14]<|sq (so [mv 15 7,op 16 (.bin .eql (.r 15) (.c (.int .i64 0)))]<|.cond (.r 16) (so [mv 17 0,mv 6 17]<|.ret) (.skip))<|so [mv 18 0,cO 19 18,mv 8 19]<|sq (so [mv 20 1,mv 21 8,b2 22 .eql 20 21]<|.cond (.r 22) (so [mv 23 0,mv 24 2,op 25 (.app 1 8 true (.r 23) (.r 24)),mv 6 25]<|.ret) (.skip))<|sq (so [mv 26 8,mv 27 7,b2 28 .add 26 27,mv 29 0,op 30 (.cap (.r 29)),b2 31 .gtr 28 30]<|.cond (.r 31) (so [mv 32 0,mv 33 1,op 34 (.kR 1 (.r 32) none (some (.r 33)) none),mv 35 8,mv 36 7,b2 37 .add 35 36,mv 38 1,b2 39 .sub 37 38,op 40 (.JI 1 8 [.int .u64 0] (.r 34) (.r 39)),mv 9 40]<|so [mv 41 9,mv 42 1,op 43 (.kR 1 (.r 41) (some (.r 42)) none none),mv 44 2,op 45 (.C9 1 (.r 43) (.r 44))]<|so [mv 46 9,mv 47 1,mv 48 7,b2 49 .add 47 48,op 50 (.kR 1 (.r 46) (some (.r 49)) none none),mv 51 0,mv 52 1,op 53 (.kR 1 (.r 51) (some (.r 52)) none none),op 54 (.C9 1 (.r 50) (.r 53))]<|so [mv 55 9,mv 6 55]<|.ret) (.skip))<|so [mv 56 0,mv 57 8,mv 58 7,b2 59 .add 57 58,op 60 (.kR 1 (.r 56) none (some (.r 59)) none),mv 0 60]<|sq (so [mv 61 2,mv 62 0,mv 63 1,mv 64 7,b2 65 .add 63 64,op 66 (.kR 1 (.r 62) (some (.r 65)) none none),op 67 (.Jd 1 (.r 61) (.r 66)),op 68 (.un .not (.r 67))]<|.cond (.r 68) (so [mv 69 0,mv 70 1,mv 71 7,b2 72 .add 70 71,op 73 (.kR 1 (.r 69) (some (.r 72)) none none),mv 74 0,mv 75 1,op 76 (.kR 1 (.r 74) (some (.r 75)) none none),op 77 (.C9 1 (.r 73) (.r 76))]<|so [mv 78 0,mv 79 1,op 80 (.kR 1 (.r 78) (some (.r 79)) none none),mv 81 2,op 82 (.C9 1 (.r 80) (.r 81))]<|so [mv 83 0,mv 6 83]<|.ret) (.skip))<|so [mv 84 0,mv 85 8,op 86 (.kR 1 (.r 84) (some (.r 85)) none none),mv 87 2,op 88 (.C9 1 (.r 86) (.r 87))]<|so [mv 89 0,mv 90 1,op 91 (.kR 1 (.r 89) (some (.r 90)) none none),mv 92 7,cl 93 174 [.r 91,.r 92]]<|so [mv 94 0,mv 6 94]<|.ret⟩
def LV:An:=⟨[],[(3,[(0,true),(1,true),(2,true),(3,true),(4,true),(5,true),(6,true),(7,true),(8,true),(9,true),(10,true),(11,true),(12,true),(13,true),(14,true),(15,true),(16,true),(17,true),(18,true),(19,true),(20,true),(21,true),(22,true),(23,true),(24,true),(25,true),(26,true),(27,true),(28,false)]),(9,[(0,true),(1,true),(2,true),(3,false),(4,true),(5,false),(6,true),(7,true)])]⟩
def wD:Go.Rmp.Fn:=⟨69,1,[.t 2,.t 3],so [op 2 (.aD (.c .bI)),op 3 (.aD (.c (.int .i64 0)))]<|sq (so [mv 6 0,cO 7 6,op 8 (.bin .lss (.r 7) (.c (.int .i64 5)))]<|.cond (.r 8) (so [op 2 (.aD (.c .bI)),op 3 (.aD (.c (.int .i64 2)))]<|.ret) (.skip))<|so [mv 9 0,op 10 (.cK 1 (.r 9) (.c (.int .i64 0))),l1 11 10,op 12 (.fB .i64 (.r 11)),op 13 (.bin .shl (.r 12) (.c (.int .u64 24))),mv 14 0,op 15 (.cK 1 (.r 14) (.c (.int .i64 1))),l1 16 15,op 17 (.fB .i64 (.r 16)),op 18 (.bin .shl (.r 17) (.c (.int .u64 16))),b2 19 .or 13 18,mv 20 0,op 21 (.cK 1 (.r 20) (.c (.int .i64 2))),l1 22 21,op 23 (.fB .i64 (.r 22)),op 24 (.bin .shl (.r 23) (.c (.int .u64 8))),b2 25 .or 19 24,mv 26 0,op 27 (.cK 1 (.r 26) (.c (.int .i64 3))),l1 28 27,op 29 (.fB .i64 (.r 28)),b2 30 .or 25 29,mv 31 0,op 32 (.cK 1 (.r 31) (.c (.int .i64 4))),l1 33 32,op 34 (.fB .i64 (.r 33)),op 35 (.build [.int .i64 0,.int .i64 0] [(0,1,(.r 30)),(1,1,(.r 34))]),op 4 (.alloc [.int .i64 0,.int .i64 0]),se 2 4 35]<|sq (so [ln 36 2 4,cl 37 96 [.r 36],op 38 (.un .not (.r 37)),mv 39 38,mf 40 0 39,gf 41 39 (.len .sl (.r 40)),gf 42 39 (.ld 2 true (.r 4)),⟨(some 43),.call 97 [.r 42],(some (39,false)),[]⟩,gf 44 39 (.bin .add (.c (.int .i64 5)) (.r 43)),gf 45 39 (.bin .neq (.r 41) (.r 44)),op 46 (.pick (.r 39) (.c (.bool true)) (.r 45))]<|.cond (.r 46) (so [op 2 (.aD (.c .bI)),op 3 (.aD (.c (.int .i64 2)))]<|.ret) (.skip))<|sq (so [fa 47 0 4,l1 48 47,op 49 (.bin .rem (.r 48) (.c (.int .i64 8))),mv 5 49]<|so [mv 50 5,op 51 (.bin .gtr (.r 50) (.c (.int .i64 0))),mv 52 51,mt 53 0 52,mt 54 0 52,gt 55 52 (.len .sl (.r 54)),gt 56 52 (.bin .sub (.r 55) (.c (.int .i64 1))),gt 57 52 (.cK 1 (.r 53) (.r 56)),gt 58 52 (.ld 1 false (.r 57)),mt 59 5 52,gt 60 52 (.bin .shr (.r 58) (.r 59)),gt 61 52 (.bin .neq (.r 60) (.c (.int .u8 0))),op 62 (.pick (.r 52) (.r 61) (.c (.bool false)))]<|.cond (.r 62) (so [op 2 (.aD (.c .bI)),op 3 (.aD (.c (.int .i64 2)))]<|.ret) (.skip))<|so [ln 63 2 4,mv 64 0,op 65 (.kR 1 (.r 64) (some (.c (.int .i64 5))) none none),⟨(some 66),.call 67 [.r 65],none,[⟨63,.ld 2 true (.r 4),none⟩]⟩,op 67 (.build [.int .i64 0,.int .i64 0,.sl .nil []] [(0,2,(.r 63)),(2,1,(.r 66))]),op 68 (.box (.r 67)),mv 2 68,op 3 (.aD (.c (.int .i64 0)))]<|.ret⟩
def LW:An:=⟨[],[]⟩
def Bs:Go.Rmp.Fn:=⟨19,2,[.t 4],so [op 4 (.aD (.c (.int .i64 0)))]<|sq (so [mv 6 0,cO 7 6,op 8 (.aD (.c (.int .i64 0)))]<|.block 0 (.loop (so [b2 9 .lss 8 7]<|sq (cx 9 0)<|sq (.block 1 (so [mv 10 8,mv 5 10]<|so [mv 11 1,mv 12 0,mv 13 5,ia 14 1 12 13,l1 15 14,⟨(some 16),.cq (.r 11) [.r 15],none,[]⟩]<|.cond (.r 16) (so [mv 17 5,mv 4 17]<|.ret) (.skip)))<|.ops [op 18 (.bin .add (.r 8) (.c (.int .i64 1))),mv 8 18])))<|so [op 4 (.aD (.c (.int .i64 (-1))))]<|.ret⟩
def LX:An:=⟨[],[(4,[(0,true),(1,true),(2,true),(3,true),(4,true),(5,true),(6,true),(7,true),(8,true),(9,true),(10,true),(11,true),(12,true),(13,false),(14,true)]),(6,[(0,true),(1,true),(2,true),(3,true),(4,true),(5,true),(6,true),(7,true),(8,true),(9,true),(10,true),(11,true),(12,true),(13,true),(14,true),(15,false),(16,true),(17,false)])]⟩
def wE:Go.Rmp.Fn:=⟨49,3,[],so [mv 8 1,op 9 (.bin .add (.r 8) (.c (.int .i64 1))),mv 6 9]<|.block 0 (.loop (sq (so [mv 10 6,mv 11 2,b2 12 .lss 10 11]<|cx 12 0)<|sq (.block 1 (so [mv 15 6,mv 7 15]<|.block 2 (.loop (sq (so [mv 16 7,mv 17 1,b2 18 .gtr 16 17,mv 19 18,mt 20 0 19,mt 21 7 19,gt 22 19 (.cK 1 (.r 20) (.r 21)),gt 23 19 (.ld 1 false (.r 22)),mt 24 0 19,mt 25 7 19,gt 26 19 (.bin .sub (.r 25) (.c (.int .i64 1))),gt 27 19 (.cK 1 (.r 24) (.r 26)),gt 28 19 (.ld 1 false (.r 27)),⟨(some 29),.call 145 [.r 23,.r 28],(some (19,true)),[]⟩,op 30 (.pick (.r 19) (.r 29) (.c (.bool false)))]<|cx 30 2)<|sq (.block 3 (.ops [mv 33 0,mv 34 7,mv 35 0,mv 36 7,op 37 (.bin .sub (.r 36) (.c (.int .i64 1))),mv 38 0,mv 39 7,op 40 (.bin .sub (.r 39) (.c (.int .i64 1))),ia 41 1 38 40,l1 42 41,mv 43 0,mv 44 7,ia 45 1 43 44,l1 46 45,ia 47 1 33 34,se 1 47 42,ia 48 1 35 37,se 1 48 46]))<|.ops [mv 31 7,op 32 (.bin .sub (.r 31) (.c (.int .i64 1))),mv 7 32]))))<|.ops [mv 13 6,op 14 (.bin .add (.r 13) (.c (.int .i64 1))),mv 6 14]))⟩
def LY:An:=⟨[],[(10,[(0,true),(1,true),(2,true),(3,true),(4,true),(5,true),(6,true),(7,true),(8,true),(9,true),(10,true),(11,true),(12,true),(13,true),(14,true),(15,true),(16,true),(17,false),(18,true),(19,false)])]⟩
def Bt:Go.Rmp.Fn:=⟨56,3,[],so [mv 11 1,mv 6 11]<|so [op 7 (.aD (.c (.int .i64 0)))]<|so [mv 12 2,mv 13 1,b2 14 .sub 12 13,mv 8 14]<|sq (so [mv 15 8,op 16 (.bin .sub (.r 15) (.c (.int .i64 1))),op 17 (.bin .quo (.r 16) (.c (.int .i64 2))),mv 9 17]<|.block 0 (.loop (sq (so [mv 18 9,op 19 (.bin .geq (.r 18) (.c (.int .i64 0)))]<|cx 19 0)<|sq (.block 1 (.ops [mv 22 0,mv 23 9,mv 24 8,mv 25 6,cl 26 175 [.r 22,.r 23,.r 24,.r 25]]))<|.ops [mv 20 9,op 21 (.bin .sub (.r 20) (.c (.int .i64 1))),mv 9 21])))<|so [mv 27 8,op 28 (.bin .sub (.r 27) (.c (.int .i64 1))),mv 10 28]<|.block 2 (.loop (sq (so [mv 29 10,op 30 (.bin .geq (.r 29) (.c (.int .i64 0)))]<|cx 30 2)<|sq (.block 3 (so [mv 33 0,mv 34 6,mv 35 0,mv 36 6,mv 37 10,b2 38 .add 36 37,mv 39 0,mv 40 6,mv 41 10,b2 42 .add 40 41,ia 43 1 39 42,l1 44 43,mv 45 0,mv 46 6,ia 47 1 45 46,l1 48 47,ia 49 1 33 34,se 1 49 44,ia 50 1 35 38,se 1 50 48]<|.ops [mv 51 0,mv 52 7,mv 53 10,mv 54 6,cl 55 175 [.r 51,.r 52,.r 53,.r 54]]))<|.ops [mv 31 10,op 32 (.bin .sub (.r 31) (.c (.int .i64 1))),mv 10 32]))⟩
def LZ:An:=⟨[],[(10,[(0,true),(1,true),(2,true),(3,true),(4,true),(5,true),(6,true),(7,true),(8,true),(9,true),(10,true),(11,true),(12,true),(13,true),(14,true),(15,true),(16,true),(17,false),(18,true),(19,false)])]⟩
def Bu:Go.Rmp.Fn:=⟨65,3,[],so [mv 11 2,mv 12 1,b2 13 .sub 11 12,mv 6 13]<|so [mv 14 6,op 15 (.bin .geq (.r 14) (.c (.int .i64 8)))]<|.cond (.r 15) (so [mv 16 6,op 17 (.fB .u64 (.r 16)),op 7 (.alloc [.int .u64 0]),se 1 7 17]<|so [mv 18 6,cl 19 176 [.r 18],mv 8 19]<|so [mv 20 1,mv 21 6,op 22 (.bin .quo (.r 21) (.c (.int .i64 4))),op 23 (.bin .mul (.r 22) (.c (.int .i64 2))),b2 24 .add 20 23,op 25 (.bin .sub (.r 24) (.c (.int .i64 1))),mv 9 25]<|.block 0 (.loop (sq (so [mv 26 9,mv 27 1,mv 28 6,op 29 (.bin .quo (.r 28) (.c (.int .i64 4))),op 30 (.bin .mul (.r 29) (.c (.int .i64 2))),b2 31 .add 27 30,op 32 (.bin .add (.r 31) (.c (.int .i64 1))),b2 33 .leq 26 32]<|cx 33 0)<|sq (.block 1 (so [cl 36 177 [.r 7],mv 37 8,op 38 (.bin .sub (.r 37) (.c (.int .u64 1))),b2 39 .and 36 38,op 40 (.fB .i64 (.r 39)),mv 10 40]<|sq (so [mv 41 10,mv 42 6,b2 43 .geq 41 42]<|.cond (.r 43) (.ops [mv 44 10,mv 45 6,b2 46 .sub 44 45,mv 10 46]) (.skip))<|.ops [mv 47 0,mv 48 9,mv 49 0,mv 50 1,mv 51 10,b2 52 .add 50 51,mv 53 0,mv 54 1,mv 55 10,b2 56 .add 54 55,ia 57 1 53 56,l1 58 57,mv 59 0,mv 60 9,ia 61 1 59 60,l1 62 61,ia 63 1 47 48,se 1 63 58,ia 64 1 49 52,se 1 64 62]))<|.ops [mv 34 9,op 35 (.bin .add (.r 34) (.c (.int .i64 1))),mv 9 35]))) (.skip)⟩
def L0:An:=⟨[],[]⟩
def wF:Go.Rmp.Fn:=⟨57,3,[.t 6,.t 7],so [op 6 (.aD (.c (.int .i64 0))),op 7 (.aD (.c (.int .i64 0)))]<|so [mv 13 2,mv 14 1,b2 15 .sub 13 14,mv 8 15]<|so [op 9 (.alloc [.int .i64 0])]<|so [mv 16 1,mv 17 8,op 18 (.bin .quo (.r 17) (.c (.int .i64 4))),op 19 (.bin .mul (.r 18) (.c (.int .i64 1))),b2 20 .add 16 19,mv 10 20]<|so [mv 21 1,mv 22 8,op 23 (.bin .quo (.r 22) (.c (.int .i64 4))),op 24 (.bin .mul (.r 23) (.c (.int .i64 2))),b2 25 .add 21 24,mv 11 25]<|so [mv 26 1,mv 27 8,op 28 (.bin .quo (.r 27) (.c (.int .i64 4))),op 29 (.bin .mul (.r 28) (.c (.int .i64 3))),b2 30 .add 26 29,mv 12 30]<|sq (so [mv 31 8,op 32 (.bin .geq (.r 31) (.c (.int .i64 8)))]<|.cond (.r 32) (sq (so [mv 33 8,op 34 (.bin .geq (.r 33) (.c (.int .i64 50)))]<|.cond (.r 34) (so [mv 35 0,mv 36 10,cl 37 178 [.r 35,.r 36,.r 9],mv 10 37]<|so [mv 38 0,mv 39 11,cl 40 178 [.r 38,.r 39,.r 9],mv 11 40]<|.ops [mv 41 0,mv 42 12,cl 43 178 [.r 41,.r 42,.r 9],mv 12 43]) (.skip))<|.ops [mv 44 0,mv 45 10,mv 46 11,mv 47 12,cl 48 179 [.r 44,.r 45,.r 46,.r 47,.r 9],mv 11 48]) (.skip))<|so [l1 49 9]<|.block 0 (so [op 52 (.bin .eql (.r 49) (.c (.int .i64 0))),mv 51 52]<|.cond (.r 51) (so [mv 53 11,mv 6 53,op 7 (.aD (.c (.int .i64 1)))]<|.ret) (so [op 55 (.bin .eql (.r 49) (.c (.int .i64 12))),mv 54 55]<|.cond (.r 54) (so [mv 56 11,mv 6 56,op 7 (.aD (.c (.int .i64 2)))]<|.ret) (so [mv 50 11,mv 6 50,op 7 (.aD (.c (.int .i64 0)))]<|.ret)))⟩
def L3:An:=⟨[],[(3,[(0,true),(1,true),(2,true),(3,true),(4,true),(5,true),(6,true),(7,true),(8,true),(9,true),(10,true),(11,true),(12,true),(13,false),(14,true),(15,false)])]⟩
def Bv:Go.Rmp.Fn:=⟨32,3,[],so [mv 8 1,mv 6 8]<|so [mv 9 2,op 10 (.bin .sub (.r 9) (.c (.int .i64 1))),mv 7 10]<|.block 0 (.loop (sq (so [mv 11 6,mv 12 7,b2 13 .lss 11 12]<|cx 13 0)<|.block 1 (so [mv 14 0,mv 15 6,mv 16 0,mv 17 7,mv 18 0,mv 19 7,ia 20 1 18 19,l1 21 20,mv 22 0,mv 23 6,ia 24 1 22 23,l1 25 24,ia 26 1 14 15,se 1 26 21,ia 27 1 16 17,se 1 27 25]<|so [mv 28 6,op 29 (.bin .add (.r 28) (.c (.int .i64 1))),mv 6 29]<|.ops [mv 30 7,op 31 (.bin .sub (.r 30) (.c (.int .i64 1))),mv 7 31])))⟩
def L4:An:=⟨[],[(5,[(0,true),(1,true),(2,true),(3,true),(4,true),(5,true),(6,true),(7,true),(8,true),(9,true),(10,true),(11,true),(12,true),(13,false),(14,true),(15,true)]),(11,[(0,true),(1,true),(2,true),(3,true),(4,true),(5,true),(6,true),(7,true),(8,true),(9,true),(10,true),(11,true),(12,true),(13,true),(14,true),(15,false),(16,true),(17,false)]),(16,[(0,true),(1,true),(2,true),(3,true),(4,true),(5,true),(6,true),(7,true),(8,true),(9,false),(10,true)]),(17,[(0,true),(1,true),(2,true),(3,true),(4,true),(5,true),(6,true),(7,true),(8,true),(9,true),(10,true),(11,true),(12,true),(13,true),(14,true),(15,false),(16,true),(17,false)]),(22,[(0,true),(1,true),(2,true),(3,true),(4,true),(5,true),(6,true),(7,true),(8,true),(9,false),(10,true)]),(23,[(0,true),(1,true),(2,true),(3,true),(4,true),(5,true),(6,true),(7,true),(8,true),(9,true),(10,true),(11,true),(12,true),(13,true),(14,true),(15,false),(16,true),(17,false)])]⟩
def Bw:Go.Rmp.Fn:=⟨133,3,[.t 6],so [op 6 (.aD (.c (.bool false)))]<|so [mv 11 1,op 12 (.bin .add (.r 11) (.c (.int .i64 1))),mv 7 12]<|sq (so [op 8 (.aD (.c (.int .i64 0)))]<|.block 0 (.loop (sq (so [mv 13 8,op 14 (.bin .lss (.r 13) (.c (.int .i64 5)))]<|cx 14 0)<|sq (.block 1 (sq (.block 2 (.loop (sq (so [mv 17 7,mv 18 2,b2 19 .lss 17 18,mv 20 19,mt 21 0 20,mt 22 7 20,gt 23 20 (.cK 1 (.r 21) (.r 22)),gt 24 20 (.ld 1 false (.r 23)),mt 25 0 20,mt 26 7 20,gt 27 20 (.bin .sub (.r 26) (.c (.int .i64 1))),gt 28 20 (.cK 1 (.r 25) (.r 27)),gt 29 20 (.ld 1 false (.r 28)),⟨(some 30),.call 145 [.r 24,.r 29],(some (20,true)),[]⟩,gt 31 20 (.un .not (.r 30)),op 32 (.pick (.r 20) (.r 31) (.c (.bool false)))]<|cx 32 2)<|.block 3 (.ops [mv 33 7,op 34 (.bin .add (.r 33) (.c (.int .i64 1))),mv 7 34]))))<|sq (so [mv 35 7,mv 36 2,b2 37 .eql 35 36]<|.cond (.r 37) (so [op 6 (.aD (.c (.bool true)))]<|.ret) (.skip))<|sq (so [mv 38 2,mv 39 1,b2 40 .sub 38 39,op 41 (.bin .lss (.r 40) (.c (.int .i64 50)))]<|.cond (.r 41) (so [op 6 (.aD (.c (.bool false)))]<|.ret) (.skip))<|so [mv 42 0,mv 43 7,mv 44 0,mv 45 7,op 46 (.bin .sub (.r 45) (.c (.int .i64 1))),mv 47 0,mv 48 7,op 49 (.bin .sub (.r 48) (.c (.int .i64 1))),ia 50 1 47 49,l1 51 50,mv 52 0,mv 53 7,ia 54 1 52 53,l1 55 54,ia 56 1 42 43,se 1 56 51,ia 57 1 44 46,se 1 57 55]<|sq (so [mv 58 7,mv 59 1,b2 60 .sub 58 59,op 61 (.bin .geq (.r 60) (.c (.int .i64 2)))]<|.cond (.r 61) (so [mv 62 7,op 63 (.bin .sub (.r 62) (.c (.int .i64 1))),mv 9 63]<|.block 4 (.loop (sq (so [mv 64 9,op 65 (.bin .geq (.r 64) (.c (.int .i64 1)))]<|cx 65 4)<|sq (.block 5 (sq (so [mv 68 0,mv 69 9,ia 70 1 68 69,l1 71 70,mv 72 0,mv 73 9,op 74 (.bin .sub (.r 73) (.c (.int .i64 1))),ia 75 1 72 74,l1 76 75,cl 77 145 [.r 71,.r 76],op 78 (.un .not (.r 77))]<|.cond (.r 78) (.exit 4) (.skip))<|.ops [mv 79 0,mv 80 9,mv 81 0,mv 82 9,op 83 (.bin .sub (.r 82) (.c (.int .i64 1))),mv 84 0,mv 85 9,op 86 (.bin .sub (.r 85) (.c (.int .i64 1))),ia 87 1 84 86,l1 88 87,mv 89 0,mv 90 9,ia 91 1 89 90,l1 92 91,ia 93 1 79 80,se 1 93 88,ia 94 1 81 83,se 1 94 92]))<|.ops [mv 66 9,op 67 (.bin .sub (.r 66) (.c (.int .i64 1))),mv 9 67]))) (.skip))<|so [mv 95 2,mv 96 7,b2 97 .sub 95 96,op 98 (.bin .geq (.r 97) (.c (.int .i64 2)))]<|.cond (.r 98) (so [mv 99 7,op 100 (.bin .add (.r 99) (.c (.int .i64 1))),mv 10 100]<|.block 6 (.loop (sq (so [mv 101 10,mv 102 2,b2 103 .lss 101 102]<|cx 103 6)<|sq (.block 7 (sq (so [mv 106 0,mv 107 10,ia 108 1 106 107,l1 109 108,mv 110 0,mv 111 10,op 112 (.bin .sub (.r 111) (.c (.int .i64 1))),ia 113 1 110 112,l1 114 113,cl 115 145 [.r 109,.r 114],op 116 (.un .not (.r 115))]<|.cond (.r 116) (.exit 6) (.skip))<|.ops [mv 117 0,mv 118 10,mv 119 0,mv 120 10,op 121 (.bin .sub (.r 120) (.c (.int .i64 1))),mv 122 0,mv 123 10,op 124 (.bin .sub (.r 123) (.c (.int .i64 1))),ia 125 1 122 124,l1 126 125,mv 127 0,mv 128 10,ia 129 1 127 128,l1 130 129,ia 131 1 117 118,se 1 131 126,ia 132 1 119 121,se 1 132 130]))<|.ops [mv 104 10,op 105 (.bin .add (.r 104) (.c (.int .i64 1))),mv 10 105]))) (.skip)))<|.ops [mv 15 8,op 16 (.bin .add (.r 15) (.c (.int .i64 1))),mv 8 16])))<|so [op 6 (.aD (.c (.bool false)))]<|.ret⟩
def L5:An:=⟨[],[]⟩
def Bx:Go.Rmp.Fn:=⟨17,2,[.t 4],so [op 4 (.aD (.c (.bool false)))]<|so [mv 5 0,cl 6 170 [.r 5],mv 7 6,mt 8 1 7,⟨(some 9),.call 170 [.r 8],(some (7,true)),[]⟩,gt 10 7 (.un .not (.r 9)),op 11 (.pick (.r 7) (.r 10) (.c (.bool false))),mv 12 11,mf 13 0 12,mf 14 1 12,gf 15 12 (.bin .lss (.r 13) (.r 14)),op 16 (.pick (.r 12) (.c (.bool true)) (.r 15)),mv 4 16]<|.ret⟩
def L6:An:=⟨[],[(1,[(0,true),(1,true),(2,true),(3,true),(4,true),(5,true),(6,true),(7,true),(8,true),(9,true),(10,true),(11,true),(12,true),(13,false),(14,true),(15,false)]),(3,[(0,true),(1,true),(2,true),(3,true),(4,true),(5,true),(6,true),(7,true),(8,true),(9,true),(10,true),(11,true),(12,false),(13,true),(14,true)]),(5,[(0,true),(1,true),(2,true),(3,true),(4,true),(5,true),(6,true),(7,true),(8,true),(9,true),(10,true),(11,true),(12,false),(13,true)]),(8,[(0,true),(1,true),(2,true),(3,true),(4,true),(5,true),(6,true),(7,true),(8,true),(9,true),(10,true),(11,true),(12,true),(13,false),(14,true),(15,false)])]⟩
def Bz:Go.Rmp.Fn:=⟨84,4,[.t 8],so [op 8 (.aD (.c (.int .i64 0)))]<|so [mv 11 0,mv 12 1,mv 13 0,mv 14 3,mv 15 0,mv 16 3,ia 17 1 15 16,l1 18 17,mv 19 0,mv 20 1,ia 21 1 19 20,l1 22 21,ia 23 1 11 12,se 1 23 18,ia 24 1 13 14,se 1 24 22]<|so [mv 25 1,op 26 (.bin .add (.r 25) (.c (.int .i64 1))),mv 27 2,op 28 (.bin .sub (.r 27) (.c (.int .i64 1))),mv 9 26,mv 10 28]<|sq (.block 0 (.loop (.block 1 (sq (.block 2 (.loop (sq (so [mv 29 9,mv 30 10,b2 31 .leq 29 30,mv 32 31,mt 33 0 32,mt 34 1 32,gt 35 32 (.cK 1 (.r 33) (.r 34)),gt 36 32 (.ld 1 false (.r 35)),mt 37 0 32,mt 38 9 32,gt 39 32 (.cK 1 (.r 37) (.r 38)),gt 40 32 (.ld 1 false (.r 39)),⟨(some 41),.call 145 [.r 36,.r 40],(some (32,true)),[]⟩,gt 42 32 (.un .not (.r 41)),op 43 (.pick (.r 32) (.r 42) (.c (.bool false)))]<|cx 43 2)<|.block 3 (.ops [mv 44 9,op 45 (.bin .add (.r 44) (.c (.int .i64 1))),mv 9 45]))))<|sq (.block 4 (.loop (sq (so [mv 46 9,mv 47 10,b2 48 .leq 46 47,mv 49 48,mt 50 0 49,mt 51 1 49,gt 52 49 (.cK 1 (.r 50) (.r 51)),gt 53 49 (.ld 1 false (.r 52)),mt 54 0 49,mt 55 10 49,gt 56 49 (.cK 1 (.r 54) (.r 55)),gt 57 49 (.ld 1 false (.r 56)),⟨(some 58),.call 145 [.r 53,.r 57],(some (49,true)),[]⟩,op 59 (.pick (.r 49) (.r 58) (.c (.bool false)))]<|cx 59 4)<|.block 5 (.ops [mv 60 10,op 61 (.bin .sub (.r 60) (.c (.int .i64 1))),mv 10 61]))))<|sq (so [mv 62 9,mv 63 10,b2 64 .gtr 62 63]<|.cond (.r 64) (.exit 0) (.skip))<|so [mv 65 0,mv 66 9,mv 67 0,mv 68 10,mv 69 0,mv 70 10,ia 71 1 69 70,l1 72 71,mv 73 0,mv 74 9,ia 75 1 73 74,l1 76 75,ia 77 1 65 66,se 1 77 72,ia 78 1 67 68,se 1 78 76]<|so [mv 79 9,op 80 (.bin .add (.r 79) (.c (.int .i64 1))),mv 9 80]<|.ops [mv 81 10,op 82 (.bin .sub (.r 81) (.c (.int .i64 1))),mv 10 82]))))<|so [mv 83 9,mv 8 83]<|.ret⟩
def L7:An:=⟨[],[(1,[(0,true),(1,true),(2,true),(3,true),(4,true),(5,true),(6,true),(7,true),(8,true),(9,true),(10,true),(11,true),(12,true),(13,false),(14,true),(15,false)]),(3,[(0,true),(1,true),(2,true),(3,true),(4,true),(5,true),(6,true),(7,true),(8,true),(9,true),(10,true),(11,true),(12,false),(13,true)]),(5,[(0,true),(1,true),(2,true),(3,true),(4,true),(5,true),(6,true),(7,true),(8,true),(9,true),(10,true),(11,true),(12,false),(13,true),(14,true)]),(8,[(0,true),(1,true),(2,true),(3,true),(4,true),(5,true),(6,true),(7,true),(8,true),(9,true),(10,true),(11,true),(12,true),(13,false),(14,true),(15,false)]),(10,[(0,true),(1,true),(2,true),(3,true),(4,true),(5,true),(6,true),(7,true),(8,true),(9,true),(10,true),(11,true),(12,true),(13,false),(14,true),(15,false)]),(13,[(0,true),(1,true),(2,true),(3,true),(4,true),(5,true),(6,true),(7,true),(8,true),(9,true),(10,true),(11,true),(12,false),(13,true)]),(15,[(0,true),(1,true),(2,true),(3,true),(4,true),(5,true),(6,true),(7,true),(8,true),(9,true),(10,true),(11,true),(12,false),(13,true),(14,true)]),(18,[(0,true),(1,true),(2,true),(3,true),(4,true),(5,true),(6,true),(7,true),(8,true),(9,true),(10,true),(11,true),(12,true),(13,false),(14,true),(15,false)]),(21,[(0,true),(1,true),(2,true),(3,true),(4,true),(5,true),(6,true),(7,true),(8,true),(9,true),(10,true),(11,true),(12,true),(13,false),(14,true),(15,false)])]⟩
def BA:Go.Rmp.Fn:=⟨168,4,[.t 8,.t 9],so [op 8 (.aD (.c (.int .i64 0))),op 9 (.aD (.c (.bool false)))]<|so [mv 12 0,mv 13 1,mv 14 0,mv 15 3,mv 16 0,mv 17 3,ia 18 1 16 17,l1 19 18,mv 20 0,mv 21 1,ia 22 1 20 21,l1 23 22,ia 24 1 12 13,se 1 24 19,ia 25 1 14 15,se 1 25 23]<|so [mv 26 1,op 27 (.bin .add (.r 26) (.c (.int .i64 1))),mv 28 2,op 29 (.bin .sub (.r 28) (.c (.int .i64 1))),mv 10 27,mv 11 29]<|sq (.block 0 (.loop (sq (so [mv 30 10,mv 31 11,b2 32 .leq 30 31,mv 33 32,mt 34 0 33,mt 35 10 33,gt 36 33 (.cK 1 (.r 34) (.r 35)),gt 37 33 (.ld 1 false (.r 36)),mt 38 0 33,mt 39 1 33,gt 40 33 (.cK 1 (.r 38) (.r 39)),gt 41 33 (.ld 1 false (.r 40)),⟨(some 42),.call 145 [.r 37,.r 41],(some (33,true)),[]⟩,op 43 (.pick (.r 33) (.r 42) (.c (.bool false)))]<|cx 43 0)<|.block 1 (.ops [mv 44 10,op 45 (.bin .add (.r 44) (.c (.int .i64 1))),mv 10 45]))))<|sq (.block 2 (.loop (sq (so [mv 46 10,mv 47 11,b2 48 .leq 46 47,mv 49 48,mt 50 0 49,mt 51 11 49,gt 52 49 (.cK 1 (.r 50) (.r 51)),gt 53 49 (.ld 1 false (.r 52)),mt 54 0 49,mt 55 1 49,gt 56 49 (.cK 1 (.r 54) (.r 55)),gt 57 49 (.ld 1 false (.r 56)),⟨(some 58),.call 145 [.r 53,.r 57],(some (49,true)),[]⟩,gt 59 49 (.un .not (.r 58)),op 60 (.pick (.r 49) (.r 59) (.c (.bool false)))]<|cx 60 2)<|.block 3 (.ops [mv 61 11,op 62 (.bin .sub (.r 61) (.c (.int .i64 1))),mv 11 62]))))<|sq (so [mv 63 10,mv 64 11,b2 65 .gtr 63 64]<|.cond (.r 65) (so [mv 66 0,mv 67 11,mv 68 0,mv 69 1,mv 70 0,mv 71 1,ia 72 1 70 71,l1 73 72,mv 74 0,mv 75 11,ia 76 1 74 75,l1 77 76,ia 78 1 66 67,se 1 78 73,ia 79 1 68 69,se 1 79 77]<|so [mv 80 11,mv 8 80,op 9 (.aD (.c (.bool true)))]<|.ret) (.skip))<|so [mv 81 0,mv 82 10,mv 83 0,mv 84 11,mv 85 0,mv 86 11,ia 87 1 85 86,l1 88 87,mv 89 0,mv 90 10,ia 91 1 89 90,l1 92 91,ia 93 1 81 82,se 1 93 88,ia 94 1 83 84,se 1 94 92]<|so [mv 95 10,op 96 (.bin .add (.r 95) (.c (.int .i64 1))),mv 10 96]<|so [mv 97 11,op 98 (.bin .sub (.r 97) (.c (.int .i64 1))),mv 11 98]<|sq (.block 4 (.loop (.block 5 (sq (.block 6 (.loop (sq (so [mv 99 10,mv 100 11,b2 101 .leq 99 100,mv 102 101,mt 103 0 102,mt 104 10 102,gt 105 102 (.cK 1 (.r 103) (.r 104)),gt 106 102 (.ld 1 false (.r 105)),mt 107 0 102,mt 108 1 102,gt 109 102 (.cK 1 (.r 107) (.r 108)),gt 110 102 (.ld 1 false (.r 109)),⟨(some 111),.call 145 [.r 106,.r 110],(some (102,true)),[]⟩,op 112 (.pick (.r 102) (.r 111) (.c (.bool false)))]<|cx 112 6)<|.block 7 (.ops [mv 113 10,op 114 (.bin .add (.r 113) (.c (.int .i64 1))),mv 10 114]))))<|sq (.block 8 (.loop (sq (so [mv 115 10,mv 116 11,b2 117 .leq 115 116,mv 118 117,mt 119 0 118,mt 120 11 118,gt 121 118 (.cK 1 (.r 119) (.r 120)),gt 122 118 (.ld 1 false (.r 121)),mt 123 0 118,mt 124 1 118,gt 125 118 (.cK 1 (.r 123) (.r 124)),gt 126 118 (.ld 1 false (.r 125)),⟨(some 127),.call 145 [.r 122,.r 126],(some (118,true)),[]⟩,gt 128 118 (.un .not (.r 127)),op 129 (.pick (.r 118) (.r 128) (.c (.bool false)))]<|cx 129 8)<|.block 9 (.ops [mv 130 11,op 131 (.bin .sub (.r 130) (.c (.int .i64 1))),mv 11 131]))))<|sq (so [mv 132 10,mv 133 11,b2 134 .gtr 132 133]<|.cond (.r 134) (.exit 4) (.skip))<|so [mv 135 0,mv 136 10,mv 137 0,mv 138 11,mv 139 0,mv 140 11,ia 141 1 139 140,l1 142 141,mv 143 0,mv 144 10,ia 145 1 143 144,l1 146 145,ia 147 1 135 136,se 1 147 142,ia 148 1 137 138,se 1 148 146]<|so [mv 149 10,op 150 (.bin .add (.r 149) (.c (.int .i64 1))),mv 10 150]<|.ops [mv 151 11,op 152 (.bin .sub (.r 151) (.c (.int .i64 1))),mv 11 152]))))<|so [mv 153 0,mv 154 11,mv 155 0,mv 156 1,mv 157 0,mv 158 1,ia 159 1 157 158,l1 160 159,mv 161 0,mv 162 11,ia 163 1 161 162,l1 164 163,ia 165 1 153 154,se 1 165 160,ia 166 1 155 156,se 1 166 164]<|so [mv 167 11,mv 8 167,op 9 (.aD (.c (.bool false)))]<|.ret⟩
def L8:An:=⟨[],[]⟩
def tt:Go.Rmp.Fn:=⟨25,1,[.t 2],so [op 2 (.aD (.c (.int .i64 0)))]<|sq (so [mv 3 0,op 4 (.bin .geq (.r 3) (.c (.int .u64 4294967296)))]<|.cond (.r 4) (so [mv 5 0,op 6 (.bin .shr (.r 5) (.c (.int .u64 32))),mv 0 6]<|.ops [op 2 (.aD (.c (.int .i64 32)))]) (.skip))<|sq (so [mv 7 0,op 8 (.bin .geq (.r 7) (.c (.int .u64 65536)))]<|.cond (.r 8) (so [mv 9 0,op 10 (.bin .shr (.r 9) (.c (.int .u64 16))),mv 0 10]<|.ops [mv 11 2,op 12 (.bin .add (.r 11) (.c (.int .i64 16))),mv 2 12]) (.skip))<|sq (so [mv 13 0,op 14 (.bin .geq (.r 13) (.c (.int .u64 256)))]<|.cond (.r 14) (so [mv 15 0,op 16 (.bin .shr (.r 15) (.c (.int .u64 8))),mv 0 16]<|.ops [mv 17 2,op 18 (.bin .add (.r 17) (.c (.int .i64 8))),mv 2 18]) (.skip))<|so [mv 19 2,mv 20 0,op 21 (.fB .u8 (.r 20)),op 22 (.GZ (.c (.str ⟨#[0,1,2,2,3,3,3,3,4,4,4,4,4,4,4,4,5,5,5,5,5,5,5,5,5,5,5,5,5,5,5,5,6,6,6,6,6,6,6,6,6,6,6,6,6,6,6,6,6,6,6,6,6,6,6,6,6,6,6,6,6,6,6,6,7,7,7,7,7,7,7,7,7,7,7,7,7,7,7,7,7,7,7,7,7,7,7,7,7,7,7,7,7,7,7,7,7,7,7,7,7,7,7,7,7,7,7,7,7,7,7,7,7,7,7,7,7,7,7,7,7,7,7,7,7,7,7,7,8,8,8,8,8,8,8,8,8,8,8,8,8,8,8,8,8,8,8,8,8,8,8,8,8,8,8,8,8,8,8,8,8,8,8,8,8,8,8,8,8,8,8,8,8,8,8,8,8,8,8,8,8,8,8,8,8,8,8,8,8,8,8,8,8,8,8,8,8,8,8,8,8,8,8,8,8,8,8,8,8,8,8,8,8,8,8,8,8,8,8,8,8,8,8,8,8,8,8,8,8,8,8,8,8,8,8,8,8,8,8,8,8,8,8,8,8,8,8,8,8,8,8,8,8,8,8,8]⟩)) (.r 21)),op 23 (.fB .i64 (.r 22)),b2 24 .add 19 23,mv 2 24]<|.ret⟩
def L9:An:=⟨[],[]⟩
def GC:Go.Rmp.Fn:=⟨19,2,[.t 4],so [op 4 (.aD (.c (.int .i64 0)))]<|sq (so [mv 6 0,cO 7 6,op 8 (.aD (.c (.int .i64 0)))]<|.block 0 (.loop (so [b2 9 .lss 8 7]<|sq (cx 9 0)<|sq (.block 1 (so [mv 10 8,mv 5 10]<|so [mv 11 1,mv 12 0,mv 13 5,ia 14 1 12 13,l1 15 14,op 16 (.l7 false .ptr (.r 11) (.r 15))]<|.cond (.r 16) (so [mv 17 5,mv 4 17]<|.ret) (.skip)))<|.ops [op 18 (.bin .add (.r 8) (.c (.int .i64 1))),mv 8 18])))<|so [op 4 (.aD (.c (.int .i64 (-1))))]<|.ret⟩
def Ma:An:=⟨[],[]⟩
def GD:Go.Rmp.Fn:=⟨5,1,[.t 2],so [op 2 (.aD (.c (.sl .nil [])))]<|so [mv 3 0,cl 4 180 [(.c (.sl .nil [])),.r 3],mv 2 4]<|.ret⟩
def Mb:An:=⟨[],[]⟩
def BB:Go.Rmp.Fn:=⟨11,1,[],so [mv 3 0,cO 4 3,mv 2 4]<|.ops [mv 5 0,mv 6 2,mv 7 2,op 8 (.fB .u64 (.r 7)),cl 9 107 [.r 8],cl 10 181 [.r 5,(.c (.int .i64 0)),.r 6,.r 9]]⟩
def Mc:An:=⟨[],[]⟩
def GF:Go.Rmp.Fn:=⟨16,2,[],so [l1 5 1,cO 6 5,op 7 (.aD (.c (.int .i64 0)))]<|.block 0 (.loop (so [b2 8 .lss 7 6]<|sq (cx 8 0)<|sq (.block 1 (so [ia 9 1 5 7,l1 10 9,mv 4 10]<|so [mv 11 0,mv 12 4,⟨(some 13),.cq (.r 11) [.r 12],none,[]⟩,op 14 (.un .not (.r 13))]<|.cond (.r 14) (.ret) (.skip)))<|.ops [op 15 (.bin .add (.r 7) (.c (.int .i64 1))),mv 7 15]))⟩
def Md:An:=⟨[],[]⟩
def BC:Go.Rmp.Fn:=⟨21,2,[.t 4],so [op 4 (.aD (.c (.int .u64 0)))]<|sq (so [mv 6 1,op 7 (.len .str (.r 6)),op 8 (.aD (.c (.int .i64 0)))]<|.block 0 (.loop (so [b2 9 .lss 8 7]<|sq (cx 9 0)<|sq (.block 1 (so [mv 10 8,mv 5 10]<|so [mv 11 0,mv 12 1,mv 13 5,op 14 (.GZ (.r 12) (.r 13)),op 15 (.fB .u64 (.r 14)),b2 16 .xor 11 15,mv 0 16]<|.ops [mv 17 0,op 18 (.bin .mul (.r 17) (.c (.int .u64 1099511628211))),mv 0 18]))<|.ops [op 19 (.bin .add (.r 8) (.c (.int .i64 1))),mv 8 19])))<|so [mv 20 0,mv 4 20]<|.ret⟩
def Me:An:=⟨[],[]⟩
def BD:Go.Rmp.Fn:=⟨1,0,[.t 0],so [op 0 (.aD (.c (.int .u64 0)))]<|so [op 0 (.aD (.c (.int .u64 14695981039346656037)))]<|.ret⟩
def Mf:An:=⟨[],[]⟩
def BE:Go.Rmp.Fn:=⟨20,2,[.t 4],so [op 4 (.aD (.c (.int .u64 0)))]<|sq (so [op 5 (.aD (.c (.int .i64 0)))]<|.block 0 (.loop (sq (so [mv 6 5,mv 7 1,op 8 (.len .str (.r 7)),b2 9 .lss 6 8]<|cx 9 0)<|sq (.block 1 (.ops [mv 12 0,mv 13 1,mv 14 5,op 15 (.GZ (.r 13) (.r 14)),op 16 (.fB .u64 (.r 15)),b2 17 .xor 12 16,op 18 (.bin .mul (.r 17) (.c (.int .u64 1099511628211))),mv 0 18]))<|.ops [mv 10 5,op 11 (.bin .add (.r 10) (.c (.int .i64 1))),mv 5 11])))<|so [mv 19 0,mv 4 19]<|.ret⟩
def Mg:An:=⟨[],[]⟩
def BF:Go.Rmp.Fn:=⟨6,1,[.t 2],so [op 2 (.aD (.c (.bool false)))]<|so [mv 3 0,mv 4 0,b2 5 .neq 3 4,mv 2 5]<|.ret⟩
def Mh:An:=⟨[],[]⟩
def BG:Go.Rmp.Fn:=⟨6,1,[.t 2],so [op 2 (.aD (.c (.bool false)))]<|so [mv 3 0,mv 4 0,b2 5 .neq 3 4,mv 2 5]<|.ret⟩
def Mi:An:=⟨[],[]⟩
def GG:Go.Rmp.Fn:=⟨54,2,[.t 4,.t 5],so [op 4 (.aD (.c (.int .i64 0))),op 5 (.aD (.c (.bool false)))]<|so [mv 10 0,cO 11 10,mv 6 11]<|so [mv 12 6,op 7 (.aD (.c (.int .i64 0))),mv 8 12]<|sq (.block 0 (.loop (sq (so [mv 13 7,mv 14 8,b2 15 .lss 13 14]<|cx 15 0)<|.block 1 (so [mv 16 7,mv 17 8,b2 18 .add 16 17,op 19 (.fB .u64 (.r 18)),op 20 (.bin .shr (.r 19) (.c (.int .u64 1))),op 21 (.fB .i64 (.r 20)),mv 9 21]<|so [mv 22 0,mv 23 9,ia 24 1 22 23,l1 25 24,mv 26 1,cl 27 194 [.r 25,.r 26]]<|.cond (.r 27) (.ops [mv 28 9,op 29 (.bin .add (.r 28) (.c (.int .i64 1))),mv 7 29]) (.ops [mv 30 9,mv 8 30])))))<|so [mv 31 7,mv 32 7,mv 33 6,b2 34 .lss 32 33,mv 35 34,mt 36 0 35,mt 37 7 35,gt 38 35 (.cK 1 (.r 36) (.r 37)),gt 39 35 (.ld 1 false (.r 38)),mt 40 1 35,gt 41 35 (.bin .eql (.r 39) (.r 40)),mt 42 41 35,mf 43 0 42,mf 44 7 42,gf 45 42 (.cK 1 (.r 43) (.r 44)),gf 46 42 (.ld 1 false (.r 45)),⟨(some 47),.call 195 [.r 46],(some (42,false)),[]⟩,mf 48 47 42,mt 49 1 48,⟨(some 50),.call 195 [.r 49],(some (48,true)),[]⟩,gf 51 42 (.pick (.r 48) (.r 50) (.c (.bool false))),gt 52 35 (.pick (.r 42) (.c (.bool true)) (.r 51)),op 53 (.pick (.r 35) (.r 52) (.c (.bool false))),mv 4 31,mv 5 53]<|.ret⟩
def Mj:An:=⟨[],[(3,[(0,true),(1,true),(2,true),(3,true),(4,true),(5,true),(6,true),(7,true),(8,true),(9,true),(10,true),(11,true),(12,true),(13,true),(14,true),(15,true),(16,true),(17,true),(18,false),(19,true)]),(5,[(0,true),(1,true),(2,true),(3,true),(4,true),(5,true),(6,true),(7,true),(8,true),(9,true),(10,true),(11,true),(12,false),(13,true)]),(6,[(0,true),(1,true),(2,true),(3,true),(4,true),(5,true),(6,true),(7,true),(8,true),(9,true),(10,true),(11,true),(12,true),(13,true),(14,true),(15,true),(16,true),(17,true),(18,true),(19,true),(20,true),(21,false),(22,true),(23,false)])]⟩
def BH:Go.Rmp.Fn:=⟨76,4,[],so [mv 10 1,mv 8 10]<|.block 0 (.loop (.block 1 (so [mv 11 8,op 12 (.bin .mul (.c (.int .i64 2)) (.r 11)),op 13 (.bin .add (.r 12) (.c (.int .i64 1))),mv 9 13]<|sq (so [mv 14 9,mv 15 2,b2 16 .geq 14 15]<|.cond (.r 16) (.exit 0) (.skip))<|sq (so [mv 17 9,op 18 (.bin .add (.r 17) (.c (.int .i64 1))),mv 19 2,b2 20 .lss 18 19,mv 21 20,mt 22 0 21,mt 23 3 21,mt 24 9 21,gt 25 21 (.bin .add (.r 23) (.r 24)),gt 26 21 (.cK 1 (.r 22) (.r 25)),gt 27 21 (.ld 1 false (.r 26)),mt 28 0 21,mt 29 3 21,mt 30 9 21,gt 31 21 (.bin .add (.r 29) (.r 30)),gt 32 21 (.bin .add (.r 31) (.c (.int .i64 1))),gt 33 21 (.cK 1 (.r 28) (.r 32)),gt 34 21 (.ld 1 false (.r 33)),⟨(some 35),.call 145 [.r 27,.r 34],(some (21,true)),[]⟩,op 36 (.pick (.r 21) (.r 35) (.c (.bool false)))]<|.cond (.r 36) (.ops [mv 37 9,op 38 (.bin .add (.r 37) (.c (.int .i64 1))),mv 9 38]) (.skip))<|sq (so [mv 39 0,mv 40 3,mv 41 8,b2 42 .add 40 41,ia 43 1 39 42,l1 44 43,mv 45 0,mv 46 3,mv 47 9,b2 48 .add 46 47,ia 49 1 45 48,l1 50 49,cl 51 145 [.r 44,.r 50],op 52 (.un .not (.r 51))]<|.cond (.r 52) (.ret) (.skip))<|so [mv 53 0,mv 54 3,mv 55 8,b2 56 .add 54 55,mv 57 0,mv 58 3,mv 59 9,b2 60 .add 58 59,mv 61 0,mv 62 3,mv 63 9,b2 64 .add 62 63,ia 65 1 61 64,l1 66 65,mv 67 0,mv 68 3,mv 69 8,b2 70 .add 68 69,ia 71 1 67 70,l1 72 71,ia 73 1 53 56,se 1 73 66,ia 74 1 57 60,se 1 74 72]<|.ops [mv 75 9,mv 8 75])))⟩
def Ml:An:=⟨[],[]⟩
def BI:Go.Rmp.Fn:=⟨7,1,[.t 2],so [op 2 (.aD (.c (.int .u64 0)))]<|so [mv 3 0,op 4 (.fB .u64 (.r 3)),cl 5 107 [.r 4],op 6 (.bin .shl (.c (.int .u64 1)) (.r 5)),mv 2 6]<|.ret⟩
def Mm:An:=⟨[],[(1,[(0,true),(1,true),(2,true),(3,true),(4,true),(5,true),(6,true),(7,true),(8,true),(9,false)]),(2,[(0,true),(1,true),(2,true),(3,true),(4,true),(5,true),(6,true),(7,true),(8,true),(9,false)]),(3,[(0,true),(1,true),(2,true),(3,true),(4,true),(5,true),(6,true),(7,true),(8,true),(9,false)])]⟩
def BJ:Go.Rmp.Fn:=⟨33,1,[.t 2],so [op 2 (.aD (.c (.int .u64 0)))]<|so [mv 3 0,nc 4 3,l1 5 4,mv 6 0,nc 7 6,l1 8 7,op 9 (.bin .shl (.r 8) (.c (.int .u64 13))),b2 10 .xor 5 9,nc 11 3,se 1 11 10]<|so [mv 12 0,nc 13 12,l1 14 13,mv 15 0,nc 16 15,l1 17 16,op 18 (.bin .shr (.r 17) (.c (.int .u64 7))),b2 19 .xor 14 18,nc 20 12,se 1 20 19]<|so [mv 21 0,nc 22 21,l1 23 22,mv 24 0,nc 25 24,l1 26 25,op 27 (.bin .shl (.r 26) (.c (.int .u64 17))),b2 28 .xor 23 27,nc 29 21,se 1 29 28]<|so [mv 30 0,nc 31 30,l1 32 31,mv 2 32]<|.ret⟩
def Mn:An:=⟨[],[]⟩
def BK:Go.Rmp.Fn:=⟨15,3,[.t 6],so [op 6 (.aD (.c (.int .i64 0)))]<|so [mv 7 0,mv 8 1,op 9 (.bin .sub (.r 8) (.c (.int .i64 1))),mv 10 1,mv 11 1,op 12 (.bin .add (.r 11) (.c (.int .i64 1))),mv 13 2,cl 14 179 [.r 7,.r 9,.r 10,.r 12,.r 13],mv 6 14]<|.ret⟩
def Mo:An:=⟨[],[]⟩
def BL:Go.Rmp.Fn:=⟨36,5,[.t 10],so [op 10 (.aD (.c (.int .i64 0)))]<|so [mv 12 0,mv 13 1,mv 14 2,mv 15 4,cl 16 197 [.r 12,.r 13,.r 14,.r 15],mv 11 16,xt 17 0 11,xt 18 1 11,mv 1 17,mv 2 18]<|so [mv 20 0,mv 21 2,mv 22 3,mv 23 4,cl 24 197 [.r 20,.r 21,.r 22,.r 23],mv 19 24,xt 25 0 19,xt 26 1 19,mv 2 25,mv 3 26]<|so [mv 28 0,mv 29 1,mv 30 2,mv 31 4,cl 32 197 [.r 28,.r 29,.r 30,.r 31],mv 27 32,xt 33 0 27,xt 34 1 27,mv 1 33,mv 2 34]<|so [mv 35 2,mv 10 35]<|.ret⟩
def Mp:An:=⟨[(3,3)],[]⟩
def GH:Go.Rmp.Fn:=⟨13,2,[.t 4],so [op 2 (.box (.r 0)),op 4 (.aD (.c (.sl .nil [])))]<|sq (so [mv 6 1]<|.block 0 (.cg 13 (.r 6) [7] (.ops [mv 5 7]) (.block 1 (.ops [l1 8 2,mv 9 5,op 10 (.lX 1 [.str ⟨#[]⟩] [(0,(.r 9))]),op 11 (.app 1 16 true (.r 8) (.r 10)),se 1 2 11]))))<|so [l1 12 2,mv 4 12]<|.ret⟩
def Mq:An:=⟨[],[(17,[(0,true),(1,true),(2,true),(3,true),(4,true),(5,true),(6,true),(7,true),(8,true),(9,true),(10,true),(11,true),(12,false),(13,true),(14,true)])]⟩
def dt:Go.Rmp.Fn:=⟨134,4,[],so [op 8 (.aD (.c (.bool true)))]<|so [op 9 (.aD (.c (.bool true)))]<|.block 0 (.loop (.block 1 (so [mv 19 2,mv 20 1,b2 21 .sub 19 20,mv 10 21]<|sq (so [mv 22 10,op 23 (.bin .leq (.r 22) (.c (.int .i64 12)))]<|.cond (.r 23) (so [mv 24 0,mv 25 1,mv 26 2,cl 27 198 [.r 24,.r 25,.r 26]]<|.ret) (.skip))<|sq (so [mv 28 3,op 29 (.bin .eql (.r 28) (.c (.int .i64 0)))]<|.cond (.r 29) (so [mv 30 0,mv 31 1,mv 32 2,cl 33 199 [.r 30,.r 31,.r 32]]<|.ret) (.skip))<|sq (so [mv 34 8,op 35 (.un .not (.r 34))]<|.cond (.r 35) (so [mv 36 0,mv 37 1,mv 38 2,cl 39 200 [.r 36,.r 37,.r 38]]<|.ops [mv 40 3,op 41 (.bin .sub (.r 40) (.c (.int .i64 1))),mv 3 41]) (.skip))<|so [mv 43 0,mv 44 1,mv 45 2,cl 46 201 [.r 43,.r 44,.r 45],mv 42 46,xt 47 0 42,xt 48 1 42,mv 11 47,mv 12 48]<|sq (so [mv 49 12,op 50 (.bin .eql (.r 49) (.c (.int .i64 2)))]<|.cond (.r 50) (so [mv 51 0,mv 52 1,mv 53 2,cl 54 202 [.r 51,.r 52,.r 53]]<|so [mv 55 2,op 56 (.bin .sub (.r 55) (.c (.int .i64 1))),mv 57 11,mv 58 1,b2 59 .sub 57 58,b2 60 .sub 56 59,mv 11 60]<|.ops [op 12 (.aD (.c (.int .i64 1)))]) (.skip))<|sq (so [mv 61 8,mv 62 61,mt 63 9 62,op 64 (.pick (.r 62) (.r 63) (.c (.bool false))),mv 65 64,mt 66 12 65,gt 67 65 (.bin .eql (.r 66) (.c (.int .i64 1))),op 68 (.pick (.r 65) (.r 67) (.c (.bool false)))]<|.cond (.r 68) (so [mv 69 0,mv 70 1,mv 71 2,cl 72 203 [.r 69,.r 70,.r 71]]<|.cond (.r 72) (.ret) (.skip)) (.skip))<|sq (so [mv 73 1,op 74 (.bin .gtr (.r 73) (.c (.int .i64 0))),mv 75 74,mt 76 0 75,mt 77 1 75,gt 78 75 (.bin .sub (.r 77) (.c (.int .i64 1))),gt 79 75 (.cK 1 (.r 76) (.r 78)),gt 80 75 (.ld 1 false (.r 79)),mt 81 0 75,mt 82 11 75,gt 83 75 (.cK 1 (.r 81) (.r 82)),gt 84 75 (.ld 1 false (.r 83)),⟨(some 85),.call 194 [.r 80,.r 84],(some (75,true)),[]⟩,gt 86 75 (.un .not (.r 85)),op 87 (.pick (.r 75) (.r 86) (.c (.bool false)))]<|.cond (.r 87) (so [mv 88 0,mv 89 1,mv 90 2,mv 91 11,cl 92 204 [.r 88,.r 89,.r 90,.r 91],mv 13 92]<|so [mv 93 13,mv 1 93]<|.exit 1) (.skip))<|so [mv 95 0,mv 96 1,mv 97 2,mv 98 11,cl 99 205 [.r 95,.r 96,.r 97,.r 98],mv 94 99,xt 100 0 94,xt 101 1 94,mv 14 100,mv 15 101]<|so [mv 102 15,mv 9 102]<|so [mv 103 14,mv 104 1,b2 105 .sub 103 104,mv 106 2,mv 107 14,b2 108 .sub 106 107,mv 16 105,mv 17 108]<|so [mv 109 10,op 110 (.bin .quo (.r 109) (.c (.int .i64 8))),mv 18 110]<|so [mv 111 16,mv 112 17,b2 113 .lss 111 112]<|.cond (.r 113) (so [mv 114 16,mv 115 18,b2 116 .geq 114 115,mv 8 116]<|so [mv 117 0,mv 118 1,mv 119 14,mv 120 3,cl 121 181 [.r 117,.r 118,.r 119,.r 120]]<|.ops [mv 122 14,op 123 (.bin .add (.r 122) (.c (.int .i64 1))),mv 1 123]) (so [mv 124 17,mv 125 18,b2 126 .geq 124 125,mv 8 126]<|so [mv 127 0,mv 128 14,op 129 (.bin .add (.r 128) (.c (.int .i64 1))),mv 130 2,mv 131 3,cl 132 181 [.r 127,.r 129,.r 130,.r 131]]<|.ops [mv 133 14,mv 2 133]))))⟩
def Mr:An:=⟨[],[]⟩
def BM:Go.Rmp.Fn:=⟨17,2,[.t 4],so [op 4 (.aD (.c (.bool false)))]<|so [mv 5 0,cl 6 169 [.r 5],mv 7 6,mt 8 1 7,⟨(some 9),.call 169 [.r 8],(some (7,true)),[]⟩,gt 10 7 (.un .not (.r 9)),op 11 (.pick (.r 7) (.r 10) (.c (.bool false))),mv 12 11,mf 13 0 12,mf 14 1 12,gf 15 12 (.bin .lss (.r 13) (.r 14)),op 16 (.pick (.r 12) (.c (.bool true)) (.r 15)),mv 4 16]<|.ret⟩
def Ms:An:=⟨[],[(1,[(0,true),(1,true),(2,true),(3,true),(4,true),(5,true),(6,true),(7,true),(8,false)])]⟩
def BN:Go.Rmp.Fn:=⟨28,4,[.t 8,.t 9],so [op 8 (.aD (.c (.int .i64 0))),op 9 (.aD (.c (.int .i64 0)))]<|sq (so [mv 10 0,mv 11 2,ia 12 1 10 11,l1 13 12,mv 14 0,mv 15 1,ia 16 1 14 15,l1 17 16,cl 18 145 [.r 13,.r 17]]<|.cond (.r 18) (so [mv 19 3,nc 20 19,l1 21 20,op 22 (.bin .add (.r 21) (.c (.int .i64 1))),nc 23 19,se 1 23 22]<|so [mv 24 2,mv 25 1,mv 8 24,mv 9 25]<|.ret) (.skip))<|so [mv 26 1,mv 27 2,mv 8 26,mv 9 27]<|.ret⟩
def Mt:An:=⟨[],[(4,[(0,true),(1,true),(2,true),(3,true),(4,true),(5,true),(6,true),(7,true),(8,true),(9,true),(10,true),(11,true),(12,true),(13,false),(14,true)]),(6,[(0,true),(1,true),(2,true),(3,true),(4,true),(5,true),(6,true),(7,true),(8,true),(9,true),(10,true),(11,true),(12,true),(13,true),(14,true),(15,false),(16,true),(17,false)])]⟩
def BO:Go.Rmp.Fn:=⟨49,3,[],so [mv 8 1,op 9 (.bin .add (.r 8) (.c (.int .i64 1))),mv 6 9]<|.block 0 (.loop (sq (so [mv 10 6,mv 11 2,b2 12 .lss 10 11]<|cx 12 0)<|sq (.block 1 (so [mv 15 6,mv 7 15]<|.block 2 (.loop (sq (so [mv 16 7,mv 17 1,b2 18 .gtr 16 17,mv 19 18,mt 20 0 19,mt 21 7 19,gt 22 19 (.cK 1 (.r 20) (.r 21)),gt 23 19 (.ld 1 false (.r 22)),mt 24 0 19,mt 25 7 19,gt 26 19 (.bin .sub (.r 25) (.c (.int .i64 1))),gt 27 19 (.cK 1 (.r 24) (.r 26)),gt 28 19 (.ld 1 false (.r 27)),⟨(some 29),.call 194 [.r 23,.r 28],(some (19,true)),[]⟩,op 30 (.pick (.r 19) (.r 29) (.c (.bool false)))]<|cx 30 2)<|sq (.block 3 (.ops [mv 33 0,mv 34 7,mv 35 0,mv 36 7,op 37 (.bin .sub (.r 36) (.c (.int .i64 1))),mv 38 0,mv 39 7,op 40 (.bin .sub (.r 39) (.c (.int .i64 1))),ia 41 1 38 40,l1 42 41,mv 43 0,mv 44 7,ia 45 1 43 44,l1 46 45,ia 47 1 33 34,se 1 47 42,ia 48 1 35 37,se 1 48 46]))<|.ops [mv 31 7,op 32 (.bin .sub (.r 31) (.c (.int .i64 1))),mv 7 32]))))<|.ops [mv 13 6,op 14 (.bin .add (.r 13) (.c (.int .i64 1))),mv 6 14]))⟩
def Mu:An:=⟨[],[(10,[(0,true),(1,true),(2,true),(3,true),(4,true),(5,true),(6,true),(7,true),(8,true),(9,true),(10,true),(11,true),(12,true),(13,true),(14,true),(15,true),(16,true),(17,false),(18,true),(19,false)])]⟩
def BP:Go.Rmp.Fn:=⟨56,3,[],so [mv 11 1,mv 6 11]<|so [op 7 (.aD (.c (.int .i64 0)))]<|so [mv 12 2,mv 13 1,b2 14 .sub 12 13,mv 8 14]<|sq (so [mv 15 8,op 16 (.bin .sub (.r 15) (.c (.int .i64 1))),op 17 (.bin .quo (.r 16) (.c (.int .i64 2))),mv 9 17]<|.block 0 (.loop (sq (so [mv 18 9,op 19 (.bin .geq (.r 18) (.c (.int .i64 0)))]<|cx 19 0)<|sq (.block 1 (.ops [mv 22 0,mv 23 9,mv 24 8,mv 25 6,cl 26 210 [.r 22,.r 23,.r 24,.r 25]]))<|.ops [mv 20 9,op 21 (.bin .sub (.r 20) (.c (.int .i64 1))),mv 9 21])))<|so [mv 27 8,op 28 (.bin .sub (.r 27) (.c (.int .i64 1))),mv 10 28]<|.block 2 (.loop (sq (so [mv 29 10,op 30 (.bin .geq (.r 29) (.c (.int .i64 0)))]<|cx 30 2)<|sq (.block 3 (so [mv 33 0,mv 34 6,mv 35 0,mv 36 6,mv 37 10,b2 38 .add 36 37,mv 39 0,mv 40 6,mv 41 10,b2 42 .add 40 41,ia 43 1 39 42,l1 44 43,mv 45 0,mv 46 6,ia 47 1 45 46,l1 48 47,ia 49 1 33 34,se 1 49 44,ia 50 1 35 38,se 1 50 48]<|.ops [mv 51 0,mv 52 7,mv 53 10,mv 54 6,cl 55 210 [.r 51,.r 52,.r 53,.r 54]]))<|.ops [mv 31 10,op 32 (.bin .sub (.r 31) (.c (.int .i64 1))),mv 10 32]))⟩
def Mv:An:=⟨[],[(10,[(0,true),(1,true),(2,true),(3,true),(4,true),(5,true),(6,true),(7,true),(8,true),(9,true),(10,true),(11,true),(12,true),(13,true),(14,true),(15,true),(16,true),(17,false),(18,true),(19,false)])]⟩
def BQ:Go.Rmp.Fn:=⟨65,3,[],so [mv 11 2,mv 12 1,b2 13 .sub 11 12,mv 6 13]<|so [mv 14 6,op 15 (.bin .geq (.r 14) (.c (.int .i64 8)))]<|.cond (.r 15) (so [mv 16 6,op 17 (.fB .u64 (.r 16)),op 7 (.alloc [.int .u64 0]),se 1 7 17]<|so [mv 18 6,cl 19 176 [.r 18],mv 8 19]<|so [mv 20 1,mv 21 6,op 22 (.bin .quo (.r 21) (.c (.int .i64 4))),op 23 (.bin .mul (.r 22) (.c (.int .i64 2))),b2 24 .add 20 23,op 25 (.bin .sub (.r 24) (.c (.int .i64 1))),mv 9 25]<|.block 0 (.loop (sq (so [mv 26 9,mv 27 1,mv 28 6,op 29 (.bin .quo (.r 28) (.c (.int .i64 4))),op 30 (.bin .mul (.r 29) (.c (.int .i64 2))),b2 31 .add 27 30,op 32 (.bin .add (.r 31) (.c (.int .i64 1))),b2 33 .leq 26 32]<|cx 33 0)<|sq (.block 1 (so [cl 36 177 [.r 7],mv 37 8,op 38 (.bin .sub (.r 37) (.c (.int .u64 1))),b2 39 .and 36 38,op 40 (.fB .i64 (.r 39)),mv 10 40]<|sq (so [mv 41 10,mv 42 6,b2 43 .geq 41 42]<|.cond (.r 43) (.ops [mv 44 10,mv 45 6,b2 46 .sub 44 45,mv 10 46]) (.skip))<|.ops [mv 47 0,mv 48 9,mv 49 0,mv 50 1,mv 51 10,b2 52 .add 50 51,mv 53 0,mv 54 1,mv 55 10,b2 56 .add 54 55,ia 57 1 53 56,l1 58 57,mv 59 0,mv 60 9,ia 61 1 59 60,l1 62 61,ia 63 1 47 48,se 1 63 58,ia 64 1 49 52,se 1 64 62]))<|.ops [mv 34 9,op 35 (.bin .add (.r 34) (.c (.int .i64 1))),mv 9 35]))) (.skip)⟩
def Mw:An:=⟨[],[]⟩
def wG:Go.Rmp.Fn:=⟨57,3,[.t 6,.t 7],so [op 6 (.aD (.c (.int .i64 0))),op 7 (.aD (.c (.int .i64 0)))]<|so [mv 13 2,mv 14 1,b2 15 .sub 13 14,mv 8 15]<|so [op 9 (.alloc [.int .i64 0])]<|so [mv 16 1,mv 17 8,op 18 (.bin .quo (.r 17) (.c (.int .i64 4))),op 19 (.bin .mul (.r 18) (.c (.int .i64 1))),b2 20 .add 16 19,mv 10 20]<|so [mv 21 1,mv 22 8,op 23 (.bin .quo (.r 22) (.c (.int .i64 4))),op 24 (.bin .mul (.r 23) (.c (.int .i64 2))),b2 25 .add 21 24,mv 11 25]<|so [mv 26 1,mv 27 8,op 28 (.bin .quo (.r 27) (.c (.int .i64 4))),op 29 (.bin .mul (.r 28) (.c (.int .i64 3))),b2 30 .add 26 29,mv 12 30]<|sq (so [mv 31 8,op 32 (.bin .geq (.r 31) (.c (.int .i64 8)))]<|.cond (.r 32) (sq (so [mv 33 8,op 34 (.bin .geq (.r 33) (.c (.int .i64 50)))]<|.cond (.r 34) (so [mv 35 0,mv 36 10,cl 37 211 [.r 35,.r 36,.r 9],mv 10 37]<|so [mv 38 0,mv 39 11,cl 40 211 [.r 38,.r 39,.r 9],mv 11 40]<|.ops [mv 41 0,mv 42 12,cl 43 211 [.r 41,.r 42,.r 9],mv 12 43]) (.skip))<|.ops [mv 44 0,mv 45 10,mv 46 11,mv 47 12,cl 48 212 [.r 44,.r 45,.r 46,.r 47,.r 9],mv 11 48]) (.skip))<|so [l1 49 9]<|.block 0 (so [op 52 (.bin .eql (.r 49) (.c (.int .i64 0))),mv 51 52]<|.cond (.r 51) (so [mv 53 11,mv 6 53,op 7 (.aD (.c (.int .i64 1)))]<|.ret) (so [op 55 (.bin .eql (.r 49) (.c (.int .i64 12))),mv 54 55]<|.cond (.r 54) (so [mv 56 11,mv 6 56,op 7 (.aD (.c (.int .i64 2)))]<|.ret) (so [mv 50 11,mv 6 50,op 7 (.aD (.c (.int .i64 0)))]<|.ret)))⟩
def Mx:An:=⟨[],[(3,[(0,true),(1,true),(2,true),(3,true),(4,true),(5,true),(6,true),(7,true),(8,true),(9,true),(10,true),(11,true),(12,true),(13,false),(14,true),(15,false)])]⟩
def BR:Go.Rmp.Fn:=⟨32,3,[],so [mv 8 1,mv 6 8]<|so [mv 9 2,op 10 (.bin .sub (.r 9) (.c (.int .i64 1))),mv 7 10]<|.block 0 (.loop (sq (so [mv 11 6,mv 12 7,b2 13 .lss 11 12]<|cx 13 0)<|.block 1 (so [mv 14 0,mv 15 6,mv 16 0,mv 17 7,mv 18 0,mv 19 7,ia 20 1 18 19,l1 21 20,mv 22 0,mv 23 6,ia 24 1 22 23,l1 25 24,ia 26 1 14 15,se 1 26 21,ia 27 1 16 17,se 1 27 25]<|so [mv 28 6,op 29 (.bin .add (.r 28) (.c (.int .i64 1))),mv 6 29]<|.ops [mv 30 7,op 31 (.bin .sub (.r 30) (.c (.int .i64 1))),mv 7 31])))⟩
def My:An:=⟨[],[(5,[(0,true),(1,true),(2,true),(3,true),(4,true),(5,true),(6,true),(7,true),(8,true),(9,true),(10,true),(11,true),(12,true),(13,false),(14,true),(15,true)]),(11,[(0,true),(1,true),(2,true),(3,true),(4,true),(5,true),(6,true),(7,true),(8,true),(9,true),(10,true),(11,true),(12,true),(13,true),(14,true),(15,false),(16,true),(17,false)]),(16,[(0,true),(1,true),(2,true),(3,true),(4,true),(5,true),(6,true),(7,true),(8,true),(9,false),(10,true)]),(17,[(0,true),(1,true),(2,true),(3,true),(4,true),(5,true),(6,true),(7,true),(8,true),(9,true),(10,true),(11,true),(12,true),(13,true),(14,true),(15,false),(16,true),(17,false)]),(22,[(0,true),(1,true),(2,true),(3,true),(4,true),(5,true),(6,true),(7,true),(8,true),(9,false),(10,true)]),(23,[(0,true),(1,true),(2,true),(3,true),(4,true),(5,true),(6,true),(7,true),(8,true),(9,true),(10,true),(11,true),(12,true),(13,true),(14,true),(15,false),(16,true),(17,false)])]⟩
def BS:Go.Rmp.Fn:=⟨133,3,[.t 6],so [op 6 (.aD (.c (.bool false)))]<|so [mv 11 1,op 12 (.bin .add (.r 11) (.c (.int .i64 1))),mv 7 12]<|sq (so [op 8 (.aD (.c (.int .i64 0)))]<|.block 0 (.loop (sq (so [mv 13 8,op 14 (.bin .lss (.r 13) (.c (.int .i64 5)))]<|cx 14 0)<|sq (.block 1 (sq (.block 2 (.loop (sq (so [mv 17 7,mv 18 2,b2 19 .lss 17 18,mv 20 19,mt 21 0 20,mt 22 7 20,gt 23 20 (.cK 1 (.r 21) (.r 22)),gt 24 20 (.ld 1 false (.r 23)),mt 25 0 20,mt 26 7 20,gt 27 20 (.bin .sub (.r 26) (.c (.int .i64 1))),gt 28 20 (.cK 1 (.r 25) (.r 27)),gt 29 20 (.ld 1 false (.r 28)),⟨(some 30),.call 194 [.r 24,.r 29],(some (20,true)),[]⟩,gt 31 20 (.un .not (.r 30)),op 32 (.pick (.r 20) (.r 31) (.c (.bool false)))]<|cx 32 2)<|.block 3 (.ops [mv 33 7,op 34 (.bin .add (.r 33) (.c (.int .i64 1))),mv 7 34]))))<|sq (so [mv 35 7,mv 36 2,b2 37 .eql 35 36]<|.cond (.r 37) (so [op 6 (.aD (.c (.bool true)))]<|.ret) (.skip))<|sq (so [mv 38 2,mv 39 1,b2 40 .sub 38 39,op 41 (.bin .lss (.r 40) (.c (.int .i64 50)))]<|.cond (.r 41) (so [op 6 (.aD (.c (.bool false)))]<|.ret) (.skip))<|so [mv 42 0,mv 43 7,mv 44 0,mv 45 7,op 46 (.bin .sub (.r 45) (.c (.int .i64 1))),mv 47 0,mv 48 7,op 49 (.bin .sub (.r 48) (.c (.int .i64 1))),ia 50 1 47 49,l1 51 50,mv 52 0,mv 53 7,ia 54 1 52 53,l1 55 54,ia 56 1 42 43,se 1 56 51,ia 57 1 44 46,se 1 57 55]<|sq (so [mv 58 7,mv 59 1,b2 60 .sub 58 59,op 61 (.bin .geq (.r 60) (.c (.int .i64 2)))]<|.cond (.r 61) (so [mv 62 7,op 63 (.bin .sub (.r 62) (.c (.int .i64 1))),mv 9 63]<|.block 4 (.loop (sq (so [mv 64 9,op 65 (.bin .geq (.r 64) (.c (.int .i64 1)))]<|cx 65 4)<|sq (.block 5 (sq (so [mv 68 0,mv 69 9,ia 70 1 68 69,l1 71 70,mv 72 0,mv 73 9,op 74 (.bin .sub (.r 73) (.c (.int .i64 1))),ia 75 1 72 74,l1 76 75,cl 77 194 [.r 71,.r 76],op 78 (.un .not (.r 77))]<|.cond (.r 78) (.exit 4) (.skip))<|.ops [mv 79 0,mv 80 9,mv 81 0,mv 82 9,op 83 (.bin .sub (.r 82) (.c (.int .i64 1))),mv 84 0,mv 85 9,op 86 (.bin .sub (.r 85) (.c (.int .i64 1))),ia 87 1 84 86,l1 88 87,mv 89 0,mv 90 9,ia 91 1 89 90,l1 92 91,ia 93 1 79 80,se 1 93 88,ia 94 1 81 83,se 1 94 92]))<|.ops [mv 66 9,op 67 (.bin .sub (.r 66) (.c (.int .i64 1))),mv 9 67]))) (.skip))<|so [mv 95 2,mv 96 7,b2 97 .sub 95 96,op 98 (.bin .geq (.r 97) (.c (.int .i64 2)))]<|.cond (.r 98) (so [mv 99 7,op 100 (.bin .add (.r 99) (.c (.int .i64 1))),mv 10 100]<|.block 6 (.loop (sq (so [mv 101 10,mv 102 2,b2 103 .lss 101 102]<|cx 103 6)<|sq (.block 7 (sq (so [mv 106 0,mv 107 10,ia 108 1 106 107,l1 109 108,mv 110 0,mv 111 10,op 112 (.bin .sub (.r 111) (.c (.int .i64 1))),ia 113 1 110 112,l1 114 113,cl 115 194 [.r 109,.r 114],op 116 (.un .not (.r 115))]<|.cond (.r 116) (.exit 6) (.skip))<|.ops [mv 117 0,mv 118 10,mv 119 0,mv 120 10,op 121 (.bin .sub (.r 120) (.c (.int .i64 1))),mv 122 0,mv 123 10,op 124 (.bin .sub (.r 123) (.c (.int .i64 1))),ia 125 1 122 124,l1 126 125,mv 127 0,mv 128 10,ia 129 1 127 128,l1 130 129,ia 131 1 117 118,se 1 131 126,ia 132 1 119 121,se 1 132 130]))<|.ops [mv 104 10,op 105 (.bin .add (.r 104) (.c (.int .i64 1))),mv 10 105]))) (.skip)))<|.ops [mv 15 8,op 16 (.bin .add (.r 15) (.c (.int .i64 1))),mv 8 16])))<|so [op 6 (.aD (.c (.bool false)))]<|.ret⟩
def Mz:An:=⟨[],[(1,[(0,true),(1,true),(2,true),(3,true),(4,true),(5,true),(6,true),(7,true),(8,true),(9,true),(10,true),(11,true),(12,true),(13,false),(14,true),(15,false)]),(3,[(0,true),(1,true),(2,true),(3,true),(4,true),(5,true),(6,true),(7,true),(8,true),(9,true),(10,true),(11,true),(12,false),(13,true),(14,true)]),(5,[(0,true),(1,true),(2,true),(3,true),(4,true),(5,true),(6,true),(7,true),(8,true),(9,true),(10,true),(11,true),(12,false),(13,true)]),(8,[(0,true),(1,true),(2,true),(3,true),(4,true),(5,true),(6,true),(7,true),(8,true),(9,true),(10,true),(11,true),(12,true),(13,false),(14,true),(15,false)])]⟩
def BT:Go.Rmp.Fn:=⟨84,4,[.t 8],so [op 8 (.aD (.c (.int .i64 0)))]<|so [mv 11 0,mv 12 1,mv 13 0,mv 14 3,mv 15 0,mv 16 3,ia 17 1 15 16,l1 18 17,mv 19 0,mv 20 1,ia 21 1 19 20,l1 22 21,ia 23 1 11 12,se 1 23 18,ia 24 1 13 14,se 1 24 22]<|so [mv 25 1,op 26 (.bin .add (.r 25) (.c (.int .i64 1))),mv 27 2,op 28 (.bin .sub (.r 27) (.c (.int .i64 1))),mv 9 26,mv 10 28]<|sq (.block 0 (.loop (.block 1 (sq (.block 2 (.loop (sq (so [mv 29 9,mv 30 10,b2 31 .leq 29 30,mv 32 31,mt 33 0 32,mt 34 1 32,gt 35 32 (.cK 1 (.r 33) (.r 34)),gt 36 32 (.ld 1 false (.r 35)),mt 37 0 32,mt 38 9 32,gt 39 32 (.cK 1 (.r 37) (.r 38)),gt 40 32 (.ld 1 false (.r 39)),⟨(some 41),.call 194 [.r 36,.r 40],(some (32,true)),[]⟩,gt 42 32 (.un .not (.r 41)),op 43 (.pick (.r 32) (.r 42) (.c (.bool false)))]<|cx 43 2)<|.block 3 (.ops [mv 44 9,op 45 (.bin .add (.r 44) (.c (.int .i64 1))),mv 9 45]))))<|sq (.block 4 (.loop (sq (so [mv 46 9,mv 47 10,b2 48 .leq 46 47,mv 49 48,mt 50 0 49,mt 51 1 49,gt 52 49 (.cK 1 (.r 50) (.r 51)),gt 53 49 (.ld 1 false (.r 52)),mt 54 0 49,mt 55 10 49,gt 56 49 (.cK 1 (.r 54) (.r 55)),gt 57 49 (.ld 1 false (.r 56)),⟨(some 58),.call 194 [.r 53,.r 57],(some (49,true)),[]⟩,op 59 (.pick (.r 49) (.r 58) (.c (.bool false)))]<|cx 59 4)<|.block 5 (.ops [mv 60 10,op 61 (.bin .sub (.r 60) (.c (.int .i64 1))),mv 10 61]))))<|sq (so [mv 62 9,mv 63 10,b2 64 .gtr 62 63]<|.cond (.r 64) (.exit 0) (.skip))<|so [mv 65 0,mv 66 9,mv 67 0,mv 68 10,mv 69 0,mv 70 10,ia 71 1 69 70,l1 72 71,mv 73 0,mv 74 9,ia 75 1 73 74,l1 76 75,ia 77 1 65 66,se 1 77 72,ia 78 1 67 68,se 1 78 76]<|so [mv 79 9,op 80 (.bin .add (.r 79) (.c (.int .i64 1))),mv 9 80]<|.ops [mv 81 10,op 82 (.bin .sub (.r 81) (.c (.int .i64 1))),mv 10 82]))))<|so [mv 83 9,mv 8 83]<|.ret⟩
def MA:An:=⟨[],[(1,[(0,true),(1,true),(2,true),(3,true),(4,true),(5,true),(6,true),(7,true),(8,true),(9,true),(10,true),(11,true),(12,true),(13,false),(14,true),(15,false)]),(3,[(0,true),(1,true),(2,true),(3,true),(4,true),(5,true),(6,true),(7,true),(8,true),(9,true),(10,true),(11,true),(12,false),(13,true)]),(5,[(0,true),(1,true),(2,true),(3,true),(4,true),(5,true),(6,true),(7,true),(8,true),(9,true),(10,true),(11,true),(12,false),(13,true),(14,true)]),(8,[(0,true),(1,true),(2,true),(3,true),(4,true),(5,true),(6,true),(7,true),(8,true),(9,true),(10,true),(11,true),(12,true),(13,false),(14,true),(15,false)]),(10,[(0,true),(1,true),(2,true),(3,true),(4,true),(5,true),(6,true),(7,true),(8,true),(9,true),(10,true),(11,true),(12,true),(13,false),(14,true),(15,false)]),(13,[(0,true),(1,true),(2,true),(3,true),(4,true),(5,true),(6,true),(7,true),(8,true),(9,true),(10,true),(11,true),(12,false),(13,true)]),(15,[(0,true),(1,true),(2,true),(3,true),(4,true),(5,true),(6,true),(7,true),(8,true),(9,true),(10,true),(11,true),(12,false),(13,true),(14,true)]),(18,[(0,true),(1,true),(2,true),(3,true),(4,true),(5,true),(6,true),(7,true),(8,true),(9,true),(10,true),(11,true),(12,true),(13,false),(14,true),(15,false)]),(21,[(0,true),(1,true),(2,true),(3,true),(4,true),(5,true),(6,true),(7,true),(8,true),(9,true),(10,true),(11,true),(12,true),(13,false),(14,true),(15,false)])]⟩
def BU:Go.Rmp.Fn:=⟨168,4,[.t 8,.t 9],so [op 8 (.aD (.c (.int .i64 0))),op 9 (.aD (.c (.bool false)))]<|so [mv 12 0,mv 13 1,mv 14 0,mv 15 3,mv 16 0,mv 17 3,ia 18 1 16 17,l1 19 18,mv 20 0,mv 21 1,ia 22 1 20 21,l1 23 22,ia 24 1 12 13,se 1 24 19,ia 25 1 14 15,se 1 25 23]<|so [mv 26 1,op 27 (.bin .add (.r 26) (.c (.int .i64 1))),mv 28 2,op 29 (.bin .sub (.r 28) (.c (.int .i64 1))),mv 10 27,mv 11 29]<|sq (.block 0 (.loop (sq (so [mv 30 10,mv 31 11,b2 32 .leq 30 31,mv 33 32,mt 34 0 33,mt 35 10 33,gt 36 33 (.cK 1 (.r 34) (.r 35)),gt 37 33 (.ld 1 false (.r 36)),mt 38 0 33,mt 39 1 33,gt 40 33 (.cK 1 (.r 38) (.r 39)),gt 41 33 (.ld 1 false (.r 40)),⟨(some 42),.call 194 [.r 37,.r 41],(some (33,true)),[]⟩,op 43 (.pick (.r 33) (.r 42) (.c (.bool false)))]<|cx 43 0)<|.block 1 (.ops [mv 44 10,op 45 (.bin .add (.r 44) (.c (.int .i64 1))),mv 10 45]))))<|sq (.block 2 (.loop (sq (so [mv 46 10,mv 47 11,b2 48 .leq 46 47,mv 49 48,mt 50 0 49,mt 51 11 49,gt 52 49 (.cK 1 (.r 50) (.r 51)),gt 53 49 (.ld 1 false (.r 52)),mt 54 0 49,mt 55 1 49,gt 56 49 (.cK 1 (.r 54) (.r 55)),gt 57 49 (.ld 1 false (.r 56)),⟨(some 58),.call 194 [.r 53,.r 57],(some (49,true)),[]⟩,gt 59 49 (.un .not (.r 58)),op 60 (.pick (.r 49) (.r 59) (.c (.bool false)))]<|cx 60 2)<|.block 3 (.ops [mv 61 11,op 62 (.bin .sub (.r 61) (.c (.int .i64 1))),mv 11 62]))))<|sq (so [mv 63 10,mv 64 11,b2 65 .gtr 63 64]<|.cond (.r 65) (so [mv 66 0,mv 67 11,mv 68 0,mv 69 1,mv 70 0,mv 71 1,ia 72 1 70 71,l1 73 72,mv 74 0,mv 75 11,ia 76 1 74 75,l1 77 76,ia 78 1 66 67,se 1 78 73,ia 79 1 68 69,se 1 79 77]<|so [mv 80 11,mv 8 80,op 9 (.aD (.c (.bool true)))]<|.ret) (.skip))<|so [mv 81 0,mv 82 10,mv 83 0,mv 84 11,mv 85 0,mv 86 11,ia 87 1 85 86,l1 88 87,mv 89 0,mv 90 10,ia 91 1 89 90,l1 92 91,ia 93 1 81 82,se 1 93 88,ia 94 1 83 84,se 1 94 92]<|so [mv 95 10,op 96 (.bin .add (.r 95) (.c (.int .i64 1))),mv 10 96]<|so [mv 97 11,op 98 (.bin .sub (.r 97) (.c (.int .i64 1))),mv 11 98]<|sq (.block 4 (.loop (.block 5 (sq (.block 6 (.loop (sq (so [mv 99 10,mv 100 11,b2 101 .leq 99 100,mv 102 101,mt 103 0 102,mt 104 10 102,gt 105 102 (.cK 1 (.r 103) (.r 104)),gt 106 102 (.ld 1 false (.r 105)),mt 107 0 102,mt 108 1 102,gt 109 102 (.cK 1 (.r 107) (.r 108)),gt 110 102 (.ld 1 false (.r 109)),⟨(some 111),.call 194 [.r 106,.r 110],(some (102,true)),[]⟩,op 112 (.pick (.r 102) (.r 111) (.c (.bool false)))]<|cx 112 6)<|.block 7 (.ops [mv 113 10,op 114 (.bin .add (.r 113) (.c (.int .i64 1))),mv 10 114]))))<|sq (.block 8 (.loop (sq (so [mv 115 10,mv 116 11,b2 117 .leq 115 116,mv 118 117,mt 119 0 118,mt 120 11 118,gt 121 118 (.cK 1 (.r 119) (.r 120)),gt 122 118 (.ld 1 false (.r 121)),mt 123 0 118,mt 124 1 118,gt 125 118 (.cK 1 (.r 123) (.r 124)),gt 126 118 (.ld 1 false (.r 125)),⟨(some 127),.call 194 [.r 122,.r 126],(some (118,true)),[]⟩,gt 128 118 (.un .not (.r 127)),op 129 (.pick (.r 118) (.r 128) (.c (.bool false)))]<|cx 129 8)<|.block 9 (.ops [mv 130 11,op 131 (.bin .sub (.r 130) (.c (.int .i64 1))),mv 11 131]))))<|sq (so [mv 132 10,mv 133 11,b2 134 .gtr 132 133]<|.cond (.r 134) (.exit 4) (.skip))<|so [mv 135 0,mv 136 10,mv 137 0,mv 138 11,mv 139 0,mv 140 11,ia 141 1 139 140,l1 142 141,mv 143 0,mv 144 10,ia 145 1 143 144,l1 146 145,ia 147 1 135 136,se 1 147 142,ia 148 1 137 138,se 1 148 146]<|so [mv 149 10,op 150 (.bin .add (.r 149) (.c (.int .i64 1))),mv 10 150]<|.ops [mv 151 11,op 152 (.bin .sub (.r 151) (.c (.int .i64 1))),mv 11 152]))))<|so [mv 153 0,mv 154 11,mv 155 0,mv 156 1,mv 157 0,mv 158 1,ia 159 1 157 158,l1 160 159,mv 161 0,mv 162 11,ia 163 1 161 162,l1 164 163,ia 165 1 153 154,se 1 165 160,ia 166 1 155 156,se 1 166 164]<|so [mv 167 11,mv 8 167,op 9 (.aD (.c (.bool false)))]<|.ret⟩
def MB:An:=⟨[],[(3,[(0,true),(1,true),(2,true),(3,true),(4,true),(5,true),(6,true),(7,true),(8,true),(9,true),(10,true),(11,true),(12,true),(13,true),(14,true),(15,true),(16,true),(17,true),(18,false),(19,true)]),(5,[(0,true),(1,true),(2,true),(3,true),(4,true),(5,true),(6,true),(7,true),(8,true),(9,true),(10,true),(11,true),(12,false),(13,true)]),(6,[(0,true),(1,true),(2,true),(3,true),(4,true),(5,true),(6,true),(7,true),(8,true),(9,true),(10,true),(11,true),(12,true),(13,true),(14,true),(15,true),(16,true),(17,true),(18,true),(19,true),(20,true),(21,false),(22,true),(23,false)])]⟩
def BV:Go.Rmp.Fn:=⟨76,4,[],so [mv 10 1,mv 8 10]<|.block 0 (.loop (.block 1 (so [mv 11 8,op 12 (.bin .mul (.c (.int .i64 2)) (.r 11)),op 13 (.bin .add (.r 12) (.c (.int .i64 1))),mv 9 13]<|sq (so [mv 14 9,mv 15 2,b2 16 .geq 14 15]<|.cond (.r 16) (.exit 0) (.skip))<|sq (so [mv 17 9,op 18 (.bin .add (.r 17) (.c (.int .i64 1))),mv 19 2,b2 20 .lss 18 19,mv 21 20,mt 22 0 21,mt 23 3 21,mt 24 9 21,gt 25 21 (.bin .add (.r 23) (.r 24)),gt 26 21 (.cK 1 (.r 22) (.r 25)),gt 27 21 (.ld 1 false (.r 26)),mt 28 0 21,mt 29 3 21,mt 30 9 21,gt 31 21 (.bin .add (.r 29) (.r 30)),gt 32 21 (.bin .add (.r 31) (.c (.int .i64 1))),gt 33 21 (.cK 1 (.r 28) (.r 32)),gt 34 21 (.ld 1 false (.r 33)),⟨(some 35),.call 194 [.r 27,.r 34],(some (21,true)),[]⟩,op 36 (.pick (.r 21) (.r 35) (.c (.bool false)))]<|.cond (.r 36) (.ops [mv 37 9,op 38 (.bin .add (.r 37) (.c (.int .i64 1))),mv 9 38]) (.skip))<|sq (so [mv 39 0,mv 40 3,mv 41 8,b2 42 .add 40 41,ia 43 1 39 42,l1 44 43,mv 45 0,mv 46 3,mv 47 9,b2 48 .add 46 47,ia 49 1 45 48,l1 50 49,cl 51 194 [.r 44,.r 50],op 52 (.un .not (.r 51))]<|.cond (.r 52) (.ret) (.skip))<|so [mv 53 0,mv 54 3,mv 55 8,b2 56 .add 54 55,mv 57 0,mv 58 3,mv 59 9,b2 60 .add 58 59,mv 61 0,mv 62 3,mv 63 9,b2 64 .add 62 63,ia 65 1 61 64,l1 66 65,mv 67 0,mv 68 3,mv 69 8,b2 70 .add 68 69,ia 71 1 67 70,l1 72 71,ia 73 1 53 56,se 1 73 66,ia 74 1 57 60,se 1 74 72]<|.ops [mv 75 9,mv 8 75])))⟩
def MC:An:=⟨[],[]⟩
def BW:Go.Rmp.Fn:=⟨15,3,[.t 6],so [op 6 (.aD (.c (.int .i64 0)))]<|so [mv 7 0,mv 8 1,op 9 (.bin .sub (.r 8) (.c (.int .i64 1))),mv 10 1,mv 11 1,op 12 (.bin .add (.r 11) (.c (.int .i64 1))),mv 13 2,cl 14 212 [.r 7,.r 9,.r 10,.r 12,.r 13],mv 6 14]<|.ret⟩
def MD:An:=⟨[],[]⟩
def BX:Go.Rmp.Fn:=⟨36,5,[.t 10],so [op 10 (.aD (.c (.int .i64 0)))]<|so [mv 12 0,mv 13 1,mv 14 2,mv 15 4,cl 16 214 [.r 12,.r 13,.r 14,.r 15],mv 11 16,xt 17 0 11,xt 18 1 11,mv 1 17,mv 2 18]<|so [mv 20 0,mv 21 2,mv 22 3,mv 23 4,cl 24 214 [.r 20,.r 21,.r 22,.r 23],mv 19 24,xt 25 0 19,xt 26 1 19,mv 2 25,mv 3 26]<|so [mv 28 0,mv 29 1,mv 30 2,mv 31 4,cl 32 214 [.r 28,.r 29,.r 30,.r 31],mv 27 32,xt 33 0 27,xt 34 1 27,mv 1 33,mv 2 34]<|so [mv 35 2,mv 10 35]<|.ret⟩
def ME:An:=⟨[],[(1,[(0,true),(1,true),(2,true),(3,true),(4,true),(5,true),(6,true),(7,true),(8,false)])]⟩
def BZ:Go.Rmp.Fn:=⟨28,4,[.t 8,.t 9],so [op 8 (.aD (.c (.int .i64 0))),op 9 (.aD (.c (.int .i64 0)))]<|sq (so [mv 10 0,mv 11 2,ia 12 1 10 11,l1 13 12,mv 14 0,mv 15 1,ia 16 1 14 15,l1 17 16,cl 18 194 [.r 13,.r 17]]<|.cond (.r 18) (so [mv 19 3,nc 20 19,l1 21 20,op 22 (.bin .add (.r 21) (.c (.int .i64 1))),nc 23 19,se 1 23 22]<|so [mv 24 2,mv 25 1,mv 8 24,mv 9 25]<|.ret) (.skip))<|so [mv 26 1,mv 27 2,mv 8 26,mv 9 27]<|.ret⟩
theorem c4:au Tryz.prog TU 4=some O4:=by kernel_rfl
theorem TV:au Tryz.prog O5 10=some K9:=by kernel_rfl
theorem TW:au Tryz.prog O6 11=some La:=by kernel_rfl
theorem TX:au Tryz.prog O7 13=some xK:=by kernel_rfl
theorem TY:au Tryz.prog O8 15=some Im:=by kernel_rfl
theorem TZ:au Tryz.prog O9 16=some Ip:=by kernel_rfl
theorem T0:au Tryz.prog Pa 17=some Iq:=by kernel_rfl
theorem T1:au Tryz.prog Pb 18=some Is:=by kernel_rfl
theorem T2:au Tryz.prog Pc 19=some Bj:=by kernel_rfl
theorem T3:au Tryz.prog Pd 20=some Iu:=by kernel_rfl
theorem T4:au Tryz.prog Pe 21=some Iv:=by kernel_rfl
theorem T5:au Tryz.prog Pf 22=some Lb:=by kernel_rfl
theorem T6:au Tryz.prog Pg 23=some Ld:=by kernel_rfl
theorem T7:au Tryz.prog Ph 24=some Lf:=by kernel_rfl
theorem T8:au Tryz.prog Pj 25=some Lg:=by kernel_rfl
theorem T9:au Tryz.prog Pk 29=some EO:=by kernel_rfl
theorem Ua:au Tryz.prog Pl 30=some Iw:=by kernel_rfl
theorem Ub:au Tryz.prog Pm 38=some Ix:=by kernel_rfl
theorem Uc:au Tryz.prog Pn 42=some Lh:=by kernel_rfl
theorem Ud:au Tryz.prog Po 43=some Li:=by kernel_rfl
theorem Ue:au Tryz.prog Pp 44=some Lj:=by kernel_rfl
theorem Uf:au Tryz.prog Pq 45=some Lk:=by kernel_rfl
theorem Ug:au Tryz.prog Pr 46=some Ll:=by kernel_rfl
theorem Uh:au Tryz.prog Ps 47=some Lm:=by kernel_rfl
theorem Ui:au Tryz.prog Pt 48=some Lo:=by kernel_rfl
theorem Uj:au Tryz.prog Pu 49=some Iy:=by kernel_rfl
theorem Uk:au Tryz.prog Pv 53=some Iz:=by kernel_rfl
theorem Ul:au Tryz.prog Pw 54=some Bk:=by kernel_rfl
theorem Uo:au Tryz.prog Px 55=some IA:=by kernel_rfl
theorem Up:au Tryz.prog Py 56=some IB:=by kernel_rfl
theorem Uq:au Tryz.prog Pz 57=some EP:=by kernel_rfl
theorem Ur:au Tryz.prog PA 58=some ER:=by kernel_rfl
theorem Us:au Tryz.prog PB 59=some IC:=by kernel_rfl
theorem Ut:au Tryz.prog PC 60=some ID:=by kernel_rfl
theorem Uu:au Tryz.prog PD 61=some Bl:=by kernel_rfl
theorem Uv:au Tryz.prog PE 62=some Lp:=by kernel_rfl
theorem Uw:au Tryz.prog PF 63=some Lq:=by kernel_rfl
theorem Ux:au Tryz.prog PG 64=some Lr:=by kernel_rfl
theorem Uy:au Tryz.prog PH 65=some Ls:=by kernel_rfl
theorem Uz:au Tryz.prog PI 66=some Lt:=by kernel_rfl
theorem UA:au Tryz.prog PJ 67=some ES:=by kernel_rfl
theorem UB:au Tryz.prog PK 69=some Lu:=by kernel_rfl
theorem UC:au Tryz.prog PL 70=some Lv:=by kernel_rfl
theorem UD:au Tryz.prog PM 82=some Lw:=by kernel_rfl
theorem UE:au Tryz.prog PN 91=some Lx:=by kernel_rfl
theorem UF:au Tryz.prog PO 93=some Ly:=by kernel_rfl
theorem UG:au Tryz.prog PQ 94=some Lz:=by kernel_rfl
theorem UH:au Tryz.prog PR 95=some LA:=by kernel_rfl
theorem UI:au Tryz.prog PS 96=some xL:=by kernel_rfl
theorem UJ:au Tryz.prog PT 97=some IE:=by kernel_rfl
theorem UK:au Tryz.prog PU 98=some LB:=by kernel_rfl
theorem UL:au Tryz.prog PW 99=some IG:=by kernel_rfl
theorem PX:au Tryz.prog LC 100=some qk:=by kernel_rfl
theorem PY:au Tryz.prog LD 102=some Bm:=by kernel_rfl
theorem PZ:au Tryz.prog LF 103=some qm:=by kernel_rfl
theorem P0:au Tryz.prog LG 104=some Bn:=by kernel_rfl
theorem P1:au Tryz.prog LH 105=some wC:=by kernel_rfl
theorem P2:au Tryz.prog LI 106=some dr:=by kernel_rfl
theorem P3:au Tryz.prog LJ 107=some Bp:=by kernel_rfl
theorem P4:au Tryz.prog LK 108=some Gu:=by kernel_rfl
theorem P5:au Tryz.prog LL 109=some Gv:=by kernel_rfl
theorem P6:au Tryz.prog LM 110=some Gw:=by kernel_rfl
theorem P7:au Tryz.prog LN 111=some Gx:=by kernel_rfl
theorem P8:au Tryz.prog LO 112=some Bq:=by kernel_rfl
theorem P9:au Tryz.prog LP 113=some Br:=by kernel_rfl
theorem Qa:au Tryz.prog LQ 133=some Gy:=by kernel_rfl
theorem Qb:au Tryz.prog LR 134=some Gz:=by kernel_rfl
theorem Qc:au Tryz.prog LS 135=some GA:=by kernel_rfl
theorem Qd:au Tryz.prog LU 136=some GB:=by kernel_rfl
theorem Qe:au Tryz.prog LV 137=some wD:=by kernel_rfl
theorem Qf:au Tryz.prog LW 138=some Bs:=by kernel_rfl
theorem Qg:au Tryz.prog LX 139=some wE:=by kernel_rfl
theorem Qh:au Tryz.prog LY 140=some Bt:=by kernel_rfl
theorem Qi:au Tryz.prog LZ 141=some Bu:=by kernel_rfl
theorem Qj:au Tryz.prog L0 142=some wF:=by kernel_rfl
theorem Qk:au Tryz.prog L3 143=some Bv:=by kernel_rfl
theorem Ql:au Tryz.prog L4 144=some Bw:=by kernel_rfl
theorem Qm:au Tryz.prog L5 145=some Bx:=by kernel_rfl
theorem Qn:au Tryz.prog L6 146=some Bz:=by kernel_rfl
theorem Qo:au Tryz.prog L7 147=some BA:=by kernel_rfl
theorem Qp:au Tryz.prog L8 149=some tt:=by kernel_rfl
theorem Qq:au Tryz.prog L9 150=some GC:=by kernel_rfl
theorem Qr:au Tryz.prog Ma 151=some GD:=by kernel_rfl
theorem Qs:au Tryz.prog Mb 152=some BB:=by kernel_rfl
theorem Qt:au Tryz.prog Mc 153=some GF:=by kernel_rfl
theorem Qu:au Tryz.prog Md 154=some BC:=by kernel_rfl
theorem Qv:au Tryz.prog Me 155=some BD:=by kernel_rfl
theorem Qw:au Tryz.prog Mf 156=some BE:=by kernel_rfl
theorem Qy:au Tryz.prog Mg 169=some BF:=by kernel_rfl
theorem Qz:au Tryz.prog Mh 170=some BG:=by kernel_rfl
theorem QA:au Tryz.prog Mi 171=some GG:=by kernel_rfl
theorem QB:au Tryz.prog Mj 175=some BH:=by kernel_rfl
theorem QC:au Tryz.prog Ml 176=some BI:=by kernel_rfl
theorem QD:au Tryz.prog Mm 177=some BJ:=by kernel_rfl
theorem QE:au Tryz.prog Mn 178=some BK:=by kernel_rfl
theorem QF:au Tryz.prog Mo 179=some BL:=by kernel_rfl
theorem QG:au Tryz.prog Mp 180=some GH:=by kernel_rfl
theorem QH:au Tryz.prog Mq 181=some dt:=by kernel_rfl
theorem QI:au Tryz.prog Mr 194=some BM:=by kernel_rfl
theorem QJ:au Tryz.prog Ms 197=some BN:=by kernel_rfl
theorem QK:au Tryz.prog Mt 198=some BO:=by kernel_rfl
theorem QL:au Tryz.prog Mu 199=some BP:=by kernel_rfl
theorem QM:au Tryz.prog Mv 200=some BQ:=by kernel_rfl
theorem QN:au Tryz.prog Mw 201=some wG:=by kernel_rfl
theorem QO:au Tryz.prog Mx 202=some BR:=by kernel_rfl
theorem QP:au Tryz.prog My 203=some BS:=by kernel_rfl
theorem QQ:au Tryz.prog Mz 204=some BT:=by kernel_rfl
theorem QR:au Tryz.prog MA 205=some BU:=by kernel_rfl
theorem QS:au Tryz.prog MB 210=some BV:=by kernel_rfl
theorem QT:au Tryz.prog MC 211=some BW:=by kernel_rfl
theorem QU:au Tryz.prog MD 212=some BX:=by kernel_rfl
theorem QV:au Tryz.prog ME 214=some BZ:=by kernel_rfl
def GI:Nat→Option Go.Rmp.Fn
 | 4=>some O4
 | 10=>some K9
 | 11=>some La
 | 13=>some xK
 | 15=>some Im
 | 16=>some Ip
 | 17=>some Iq
 | 18=>some Is
 | 19=>some Bj
 | 20=>some Iu
 | 21=>some Iv
 | 22=>some Lb
 | 23=>some Ld
 | 24=>some Lf
 | 25=>some Lg
 | 29=>some EO
 | 30=>some Iw
 | 38=>some Ix
 | 42=>some Lh
 | 43=>some Li
 | 44=>some Lj
 | 45=>some Lk
 | 46=>some Ll
 | 47=>some Lm
 | 48=>some Lo
 | 49=>some Iy
 | 53=>some Iz
 | 54=>some Bk
 | 55=>some IA
 | 56=>some IB
 | 57=>some EP
 | 58=>some ER
 | 59=>some IC
 | 60=>some ID
 | 61=>some Bl
 | 62=>some Lp
 | 63=>some Lq
 | 64=>some Lr
 | 65=>some Ls
 | 66=>some Lt
 | 67=>some ES
 | 69=>some Lu
 | 70=>some Lv
 | 82=>some Lw
 | 91=>some Lx
 | 93=>some Ly
 | 94=>some Lz
 | 95=>some LA
 | 96=>some xL
 | 97=>some IE
 | 98=>some LB
 | 99=>some IG
 | 100=>some qk
 | 102=>some Bm
 | 103=>some qm
 | 104=>some Bn
 | 105=>some wC
 | 106=>some dr
 | 107=>some Bp
 | 108=>some Gu
 | 109=>some Gv
 | 110=>some Gw
 | 111=>some Gx
 | 112=>some Bq
 | 113=>some Br
 | 133=>some Gy
 | 134=>some Gz
 | 135=>some GA
 | 136=>some GB
 | 137=>some wD
 | 138=>some Bs
 | 139=>some wE
 | 140=>some Bt
 | 141=>some Bu
 | 142=>some wF
 | 143=>some Bv
 | 144=>some Bw
 | 145=>some Bx
 | 146=>some Bz
 | 147=>some BA
 | 149=>some tt
 | 150=>some GC
 | 151=>some GD
 | 152=>some BB
 | 153=>some GF
 | 154=>some BC
 | 155=>some BD
 | 156=>some BE
 | 169=>some BF
 | 170=>some BG
 | 171=>some GG
 | 175=>some BH
 | 176=>some BI
 | 177=>some BJ
 | 178=>some BK
 | 179=>some BL
 | 180=>some GH
 | 181=>some dt
 | 194=>some BM
 | 197=>some BN
 | 198=>some BO
 | 199=>some BP
 | 200=>some BQ
 | 201=>some wG
 | 202=>some BR
 | 203=>some BS
 | 204=>some BT
 | 205=>some BU
 | 210=>some BV
 | 211=>some BW
 | 212=>some BX
 | 214=>some BZ
 | _=>none
def env:Env:=⟨GI,fun _ _ _ _=>False,fun _ _ _ _ _ h _=>h⟩
theorem MF:sG Tryz.prog env where
 mixed:=by kernel_rfl
 fn:=by
  intro f fn h
  simp only[env,GI]at h
  split at h
  ·cases h;exact⟨_,c4⟩
  ·cases h;exact⟨_,TV⟩
  ·cases h;exact⟨_,TW⟩
  ·cases h;exact⟨_,TX⟩
  ·cases h;exact⟨_,TY⟩
  ·cases h;exact⟨_,TZ⟩
  ·cases h;exact⟨_,T0⟩
  ·cases h;exact⟨_,T1⟩
  ·cases h;exact⟨_,T2⟩
  ·cases h;exact⟨_,T3⟩
  ·cases h;exact⟨_,T4⟩
  ·cases h;exact⟨_,T5⟩
  ·cases h;exact⟨_,T6⟩
  ·cases h;exact⟨_,T7⟩
  ·cases h;exact⟨_,T8⟩
  ·cases h;exact⟨_,T9⟩
  ·cases h;exact⟨_,Ua⟩
  ·cases h;exact⟨_,Ub⟩
  ·cases h;exact⟨_,Uc⟩
  ·cases h;exact⟨_,Ud⟩
  ·cases h;exact⟨_,Ue⟩
  ·cases h;exact⟨_,Uf⟩
  ·cases h;exact⟨_,Ug⟩
  ·cases h;exact⟨_,Uh⟩
  ·cases h;exact⟨_,Ui⟩
  ·cases h;exact⟨_,Uj⟩
  ·cases h;exact⟨_,Uk⟩
  ·cases h;exact⟨_,Ul⟩
  ·cases h;exact⟨_,Uo⟩
  ·cases h;exact⟨_,Up⟩
  ·cases h;exact⟨_,Uq⟩
  ·cases h;exact⟨_,Ur⟩
  ·cases h;exact⟨_,Us⟩
  ·cases h;exact⟨_,Ut⟩
  ·cases h;exact⟨_,Uu⟩
  ·cases h;exact⟨_,Uv⟩
  ·cases h;exact⟨_,Uw⟩
  ·cases h;exact⟨_,Ux⟩
  ·cases h;exact⟨_,Uy⟩
  ·cases h;exact⟨_,Uz⟩
  ·cases h;exact⟨_,UA⟩
  ·cases h;exact⟨_,UB⟩
  ·cases h;exact⟨_,UC⟩
  ·cases h;exact⟨_,UD⟩
  ·cases h;exact⟨_,UE⟩
  ·cases h;exact⟨_,UF⟩
  ·cases h;exact⟨_,UG⟩
  ·cases h;exact⟨_,UH⟩
  ·cases h;exact⟨_,UI⟩
  ·cases h;exact⟨_,UJ⟩
  ·cases h;exact⟨_,UK⟩
  ·cases h;exact⟨_,UL⟩
  ·cases h;exact⟨_,PX⟩
  ·cases h;exact⟨_,PY⟩
  ·cases h;exact⟨_,PZ⟩
  ·cases h;exact⟨_,P0⟩
  ·cases h;exact⟨_,P1⟩
  ·cases h;exact⟨_,P2⟩
  ·cases h;exact⟨_,P3⟩
  ·cases h;exact⟨_,P4⟩
  ·cases h;exact⟨_,P5⟩
  ·cases h;exact⟨_,P6⟩
  ·cases h;exact⟨_,P7⟩
  ·cases h;exact⟨_,P8⟩
  ·cases h;exact⟨_,P9⟩
  ·cases h;exact⟨_,Qa⟩
  ·cases h;exact⟨_,Qb⟩
  ·cases h;exact⟨_,Qc⟩
  ·cases h;exact⟨_,Qd⟩
  ·cases h;exact⟨_,Qe⟩
  ·cases h;exact⟨_,Qf⟩
  ·cases h;exact⟨_,Qg⟩
  ·cases h;exact⟨_,Qh⟩
  ·cases h;exact⟨_,Qi⟩
  ·cases h;exact⟨_,Qj⟩
  ·cases h;exact⟨_,Qk⟩
  ·cases h;exact⟨_,Ql⟩
  ·cases h;exact⟨_,Qm⟩
  ·cases h;exact⟨_,Qn⟩
  ·cases h;exact⟨_,Qo⟩
  ·cases h;exact⟨_,Qp⟩
  ·cases h;exact⟨_,Qq⟩
  ·cases h;exact⟨_,Qr⟩
  ·cases h;exact⟨_,Qs⟩
  ·cases h;exact⟨_,Qt⟩
  ·cases h;exact⟨_,Qu⟩
  ·cases h;exact⟨_,Qv⟩
  ·cases h;exact⟨_,Qw⟩
  ·cases h;exact⟨_,Qy⟩
  ·cases h;exact⟨_,Qz⟩
  ·cases h;exact⟨_,QA⟩
  ·cases h;exact⟨_,QB⟩
  ·cases h;exact⟨_,QC⟩
  ·cases h;exact⟨_,QD⟩
  ·cases h;exact⟨_,QE⟩
  ·cases h;exact⟨_,QF⟩
  ·cases h;exact⟨_,QG⟩
  ·cases h;exact⟨_,QH⟩
  ·cases h;exact⟨_,QI⟩
  ·cases h;exact⟨_,QJ⟩
  ·cases h;exact⟨_,QK⟩
  ·cases h;exact⟨_,QL⟩
  ·cases h;exact⟨_,QM⟩
  ·cases h;exact⟨_,QN⟩
  ·cases h;exact⟨_,QO⟩
  ·cases h;exact⟨_,QP⟩
  ·cases h;exact⟨_,QQ⟩
  ·cases h;exact⟨_,QR⟩
  ·cases h;exact⟨_,QS⟩
  ·cases h;exact⟨_,QT⟩
  ·cases h;exact⟨_,QU⟩
  ·cases h;exact⟨_,QV⟩
  ·cases h
 l8:=by intro f az H Q h;exact h.elim
end Go.Proofs.YtmgldhlcapjdkaaGreat.Ir
end

section
namespace Go.Proofs.YtmgldhlcapjdkaaGreat.St
open Go.Rmp Go.Proofs.YtmgldhlcapjdkaaGreat.Ir
set_option maxRecDepth 100000
theorem B0:W env (.call 10 []) [] (fun o _=>o=.val (.bool true)):=.closed (fun _=>0) 100000 [] [] (by kernel_rfl)
end Go.Proofs.YtmgldhlcapjdkaaGreat.St
end

section
namespace Go.Proofs.YtmgldhlcapjdkaaGreat.St
open Go.Rmp Go.Proofs.YtmgldhlcapjdkaaGreat.Ir
set_option maxRecDepth 10000
theorem dQ {α:Type}{l:List α}{i:Nat}(h:i<l.length):∃x,l[i]?=some x:=⟨l[i],List.getElem?_eq_getElem h⟩
def eS (s:ByteArray):List T:=[.str s]
def eU (n:Nat):List T:=[.int .u64 n]
theorem qn {n:Nat}(h:n<256):IntKind.u8.wrap (n:Int)=(n:Int):=by
 unfold IntKind.wrap
 simp -implicitDefEqProofs only[IntKind.signed,IntKind.bits]
 simp
 omega
theorem mY {n:Nat}(h:n<18446744073709551616):IntKind.u64.wrap (n:Int)=(n:Int):=by
 unfold IntKind.wrap
 simp -implicitDefEqProofs only[IntKind.signed,IntKind.bits]
 simp
 omega
theorem all_map {α:Type}{enc:α→List T}{n:Nat}(hn:∀x,(enc x).length=n)(l:List α):(l.map enc).all (·.length==n)=true:=by
 simp[List.all_map,hn]
theorem cZ {α:Type}{e:α→List T}{n:Nat}(hn:∀x,(e x).length=n)(h0:n≠0){l:List α}{k:SK}{i:Nat}{x:α}(h:l[i]?=some x):eW n i (.sl k (l.map e))=some (.bh (e x)):=by
 simp -implicitDefEqProofs only[eW,List.getElem?_map,h,Option.map_some,hn,h0,ne_eq,not_false_eq_true,and_self,if_true]
def pw {α:Type}(k:SK)(l:List α):Prop:=k=.nil→l=[]
theorem MG (s:ByteArray)(H:ae):W env (.call 169 [.str s]) H (rN (.bool false) H):=by
 refine W.cQ rfl rfl rfl ?_
 simp -implicitDefEqProofs only[BF,op,ef,cl,sq,reduceIte,q8,q9,j3,j4,j5,j6,j7,j8,j9,S1,Bool.not_true]
theorem MH (n:Nat)(H:ae):W env (.call 170 [.int .u64 n]) H (rN (.bool false) H):=by
 refine W.cQ rfl rfl rfl ?_
 simp -implicitDefEqProofs only[BG,op,ef,cl,sq,reduceIte,q8,q9,j3,j4,j5,j6,j7,j8,j9,S1]
theorem aX (a b:ByteArray)(H:ae):W env (.call 194 [.str a,.str b]) H (rN (.bool (strLt a b)) H):=by
 refine W.cQ rfl rfl rfl ?_
 simp -implicitDefEqProofs only[BM,op,ef,cl,sq,reduceIte,q8,q9,j3,j4,j5,j6,j7,j8,j9,S1]
 refine af _ _ _ _ _ _ _ _ (MG a _) ?_
 rintro u H1⟨hu,rfl⟩
 cases hu
 simp -implicitDefEqProofs only[op,ef,cl,sq,reduceIte,q8,q9,j3,j4,j5,j6,j7,j8,j9,S1]
theorem B1 (a b:Nat)(H:ae):W env (.call 145 [.int .u64 a,.int .u64 b]) H (rN (.bool (decide (a<b))) H):=by
 refine W.cQ rfl rfl rfl ?_
 simp -implicitDefEqProofs only[Bx,op,ef,cl,sq,reduceIte,q8,q9,j3,j4,j5,j6,j7,j8,j9,S1]
 refine af _ _ _ _ _ _ _ _ (MH a _) ?_
 rintro u H1⟨hu,rfl⟩
 cases hu
 simp -implicitDefEqProofs only[op,ef,cl,sq,reduceIte,q8,q9,j3,j4,j5,j6,j7,j8,j9,S1]
end Go.Proofs.YtmgldhlcapjdkaaGreat.St
end

section
namespace Go.Proofs.YtmgldhlcapjdkaaGreat.St
open Go.Rmp Go.Proofs.YtmgldhlcapjdkaaGreat.Ir
set_option maxRecDepth 10000
theorem uN (l:List ByteArray):(l.map eS).map (·.map T.erase)=l.map eS:=by simp[List.map_map,Function.comp_def,eS,T.erase]
def bX (F:Nat→Prop)(H H':ae):Prop:=H.length≤H'.length∧∀c,c<H.length→¬F c→H'[c]?=H[c]?
theorem bX.refl (F:Nat→Prop)(H:ae):bX F H H:=⟨Nat.le_refl _,fun _ _ _=>rfl⟩
theorem bX.trans {F G:Nat→Prop}{H H' x9:ae}(h:bX F H H')(h':bX G H' x9)(hg:∀c,G c→F c∨H.length≤c):bX F H x9 :=
 ⟨Nat.le_trans h.1 h'.1,fun c hc hf=>by rw[h'.2 c (Nat.lt_of_lt_of_le hc h.1) (fun UM=>(hg c UM).elim hf (fun h=>by omega)),h.2 c hc hf]⟩
theorem aN {F:Nat→Prop}{H H':ae}(h:Ext H H'):bX F H H':=⟨h.len,fun c hc _=>by
 obtain⟨m,rfl⟩:=h;rw[List.getElem?_append_left hc]⟩
theorem bX.set {F:Nat→Prop}{H H':ae}(h:bX F H H'){b:Nat}(hb:F b∨H.length≤b)(y:B):bX F H (H'.set b y) :=
 ⟨by rw[List.length_set];exact h.1,fun c hc hf=>by
  have:b≠c:=by rintro rfl;rcases hb with hb|hb;exact hf hb;omega
  rw[jS this,h.2 c hc hf]⟩
theorem bX.get {F:Nat→Prop}{H H':ae}(h:bX F H H'){c:Nat}{x:B}(hx:H[c]?=some x)(hf:¬F c):H'[c]?=some x:=by rw[h.2 c (bo hx) hf];exact hx
end Go.Proofs.YtmgldhlcapjdkaaGreat.St
end

section
namespace Go.Proofs.YtmgldhlcapjdkaaGreat.St
open Go.Rmp Go.Proofs.YtmgldhlcapjdkaaGreat.Ir
set_option maxRecDepth 10000
structure Hd where
 value:ByteArray
 kk:SK
 keys:List ByteArray
 So:Int
def gF:Option T→Option Nat
 | some (.aB b _ _ _)=>some b
 | _=>.none
end Go.Proofs.YtmgldhlcapjdkaaGreat.St
end

section
namespace Go.Proofs.YtmgldhlcapjdkaaGreat.St
open Go.Rmp Go.Proofs.YtmgldhlcapjdkaaGreat.Ir
set_option maxRecDepth 10000
theorem B2 {H H':ae}(h:∀(c:Nat) x,H[c]?=some x→H'[c]?=some x):Ext H H':=by
 have hl:H.length≤H'.length:=by
  rcases Nat.eq_zero_or_pos H.length with h0|h0
  ·omega
  ·obtain⟨x,hx⟩:=dQ (l:=H) (i:=H.length-1) (by omega)
   have:=bo (h _ x hx)
   omega
 refine⟨H'.drop H.length,List.ext_getElem? fun i=>?_⟩
 by_cases hi:i<H.length
 ·obtain⟨x,hx⟩:=dQ hi
  rw[List.getElem?_append_left hi,hx,h i x hx]
 ·rw[List.getElem?_append_right (by omega),List.getElem?_drop]
  congr 1;omega
end Go.Proofs.YtmgldhlcapjdkaaGreat.St
end

section
namespace Go.Proofs.YtmgldhlcapjdkaaGreat.St
open Go.Rmp Go.Proofs.YtmgldhlcapjdkaaGreat.Ir
set_option maxRecDepth 10000
theorem gB {α:Type}[Inhabited α]{d:Array α}{i:Nat}(h:i<d.size):d.toList[i]?=some d[i]!:=by
 rw[Array.getElem?_toList,Array.getElem?_eq_getElem h,getElem!_pos d i h]
theorem oJ {α:Type}[Inhabited α](d:Array α)(i j:Nat):(Go.Sort.swp d i j).toList=(d.toList.set i d[j]!).set j d[i]!:=by
 simp[Go.Sort.swp,Array.toList_setIfInBounds]
theorem swp_size {α:Type}[Inhabited α](d:Array α)(i j:Nat):(Go.Sort.swp d i j).size=d.size:=by simp[Go.Sort.swp]
set_option maxHeartbeats 8000000
theorem wA {a b:Nat}(h:a+b<9223372036854775808):IntKind.i64.wrap ((a:Int)+(b:Int))=((a+b:Nat):Int):=by rw[wrap64 (by omega)];omega
theorem aP {a:Nat}(h:a+1<9223372036854775808):IntKind.i64.wrap ((a:Int)+1)=((a+1:Nat):Int):=by rw[wrap64 (by omega)];omega
theorem wS {a b:Nat}(h:b≤a∧a<9223372036854775808):IntKind.i64.wrap ((a:Int)-(b:Int))=((a-b:Nat):Int):=by rw[wrap64 (by omega)];omega
theorem aO {a:Nat}(h:1≤a∧a<9223372036854775808):IntKind.i64.wrap ((a:Int)-1)=((a-1:Nat):Int):=by rw[wrap64 (by omega)];omega
theorem wM {a:Nat}(h:2*a<9223372036854775808):IntKind.i64.wrap (2*(a:Int))=((2*a:Nat):Int):=by rw[wrap64 (by omega)];omega
theorem bB {p:Prop}[Decidable p](h:p):decide p=true:=decide_eq_true h
theorem bw {p:Prop}[Decidable p](h:¬p):decide p=false:=decide_eq_false h
theorem eb {a b:Bool}(h:a=true)(h':b=true):(a&&b)=true:=by rw[h,h'];rfl
theorem cz {a b:Bool}(h:a=false):¬((a&&b)=true):=by rw[h];simp
theorem cN {a b:Bool}(h:b=false):¬((a&&b)=true):=by rw[h];simp
theorem iM {a:Bool}(h:a=true):¬((!a)=true):=by rw[h];simp
theorem dA {a:Bool}(h:a=false):(!a)=true:=by rw[h];rfl
end Go.Proofs.YtmgldhlcapjdkaaGreat.St
end

section
namespace Go.Proofs.YtmgldhlcapjdkaaGreat.St
open Go.Rmp Go.Proofs.YtmgldhlcapjdkaaGreat.Ir
set_option maxRecDepth 10000
set_option maxHeartbeats 8000000
theorem Sp {a:Nat}(h:a<9223372036854775808):IntKind.i64.wrap ((a:Int).tdiv 2)=((a/2:Nat):Int):=by rw[Int.tdiv_eq_ediv_of_nonneg (by omega),wrap64 (by omega)];omega
theorem NR {a:Nat}(h:a<9223372036854775808):IntKind.i64.wrap ((a:Int)-1)=(a:Int)-1:=wrap64 (by omega)
theorem ET {a:Nat}:(((a:Nat):Int)≥0)=True:=by simp
set_option maxHeartbeats 8000000
def MI (p:Nat)(r:Nat×Nat×Nat)(H:ae):Out→ae→Prop:=fun o H'=>o=.val (.bC [.int .i64 r.1,.int .i64 r.2.1])∧H'[p]?=some (.cells [.int .i64 r.2.2])∧bX (fun x=>x=p) H H'
def EU (p:Nat)(r:Nat×Nat)(H:ae):Out→ae→Prop:=fun o H'=>o=.val (.int .i64 r.1)∧H'[p]?=some (.cells [.int .i64 r.2])∧bX (fun x=>x=p) H H'
theorem yk {a:Nat}(h:a<9223372036854775808):IntKind.i64.wrap ((a:Int).tdiv 4)=((a/4:Nat):Int):=by rw[Int.tdiv_eq_ediv_of_nonneg (by omega),wrap64 (by omega)];omega
theorem NS {a:Nat}(h:a<9223372036854775808):IntKind.i64.wrap ((a:Int)*1)=((a*1:Nat):Int):=by rw[wrap64 (by omega)];omega
theorem yl {a:Nat}(h:a*2<9223372036854775808):IntKind.i64.wrap ((a:Int)*2)=((a*2:Nat):Int):=by rw[wrap64 (by omega)];omega
theorem NT {a:Nat}(h:a*3<9223372036854775808):IntKind.i64.wrap ((a:Int)*3)=((a*3:Nat):Int):=by rw[wrap64 (by omega)];omega
def fm:Go.Sort.Hint→Int
 | .unknown=>0
 | .increasing=>1
 | .decreasing=>2
set_option maxHeartbeats 8000000
open Go.Sort (bitsLen)
theorem B3 {n k:Nat}(h:2^k≤n):(n/2^k).log2+k=n.log2:=by
 have h0:0<2^k:=Nat.two_pow_pos k
 have hn:n≠0:=by omega
 have hq:n/2^k≠0:=by have:=Nat.div_pos h h0;omega
 have h1:=Nat.log2_self_le hq
 have h2:=Nat.lt_log2_self (n:=n/2^k)
 refine((Nat.log2_eq_iff hn).2 ⟨?_,?_⟩).symm
 ·rw[Nat.pow_add];exact(Nat.le_div_iff_mul_le h0).1 h1
 ·rw[show(n/2^k).log2+k+1=((n/2^k).log2+1)+k by omega,Nat.pow_add];exact(Nat.div_lt_iff_lt_mul h0).1 h2
theorem tu {n k:Nat}(h:2^k≤n):bitsLen (n/2^k)+k=bitsLen n:=by
 have h0:0<2^k:=Nat.two_pow_pos k
 have hq:n/2^k≠0:=by have:=Nat.div_pos h h0;omega
 have:=B3 h
 unfold bitsLen
 rw[if_neg hq,if_neg (by omega)]
 omega
theorem ny {n k:Nat}(h:n<2^k):bitsLen n≤k:=by
 unfold bitsLen
 split
 ·omega
 ·rename_i h0;have:=(Nat.log2_lt h0).2 h;omega
def Sq:Array UInt8:=#[0,1,2,2,3,3,3,3,4,4,4,4,4,4,4,4,5,5,5,5,5,5,5,5,5,5,5,5,5,5,5,5,6,6,6,6,6,6,6,6,6,6,6,6,6,6,6,6,6,6,6,6,6,6,6,6,6,6,6,6,6,6,6,6,7,7,7,7,7,7,7,7,7,7,7,7,7,7,7,7,7,7,7,7,7,7,7,7,7,7,7,7,7,7,7,7,7,7,7,7,7,7,7,7,7,7,7,7,7,7,7,7,7,7,7,7,7,7,7,7,7,7,7,7,7,7,7,7,8,8,8,8,8,8,8,8,8,8,8,8,8,8,8,8,8,8,8,8,8,8,8,8,8,8,8,8,8,8,8,8,8,8,8,8,8,8,8,8,8,8,8,8,8,8,8,8,8,8,8,8,8,8,8,8,8,8,8,8,8,8,8,8,8,8,8,8,8,8,8,8,8,8,8,8,8,8,8,8,8,8,8,8,8,8,8,8,8,8,8,8,8,8,8,8,8,8,8,8,8,8,8,8,8,8,8,8,8,8,8,8,8,8,8,8,8,8,8,8,8,8,8,8,8,8,8,8]
def QW:Bool:=(List.range 256).all fun n=>match Sq[n]? with|some c=>c.toNat==bitsLen n|none=>false
theorem EV:QW=true:=by decide +kernel
theorem uR {β:Type}{K:Option β→Prop}{n:Nat}(hn:n<256)(f:UInt8→β)(h:∀c:UInt8,c.toNat=bitsLen n→K (some (f c))):K (Option.map f Sq[n]?):=by
 have:=List.all_eq_true.1 EV n (List.mem_range.2 hn)
 split at this
 ·rename_i c hc
  rw[hc];exact h c (by simpa using this)
 ·cases this
theorem MJ (n:Nat)(hn:n<16777216)(H:ae):W env (.call 149 [.int .u64 n]) H (fun o H'=>o=.val (.int .i64 (bitsLen n))∧H'=H):=by
 refine W.cQ rfl rfl rfl ?_
 have h1:¬(4294967296≤n):=by omega
 have fin:∀(m k:Nat),m<256→k≤16→IntKind.i64.wrap ((k:Int)+((bitsLen m:Nat):Int))=((bitsLen m+k:Nat):Int):=fun m k hm hk=>by
  have:=ny (n:=m) (k:=8) hm
  rw[wrap64 (by omega)];omega
 by_cases h2:65536≤n
 ·have UN:(n:Int).fdiv (2^(min (16:Int).toNat IntKind.u64.bits))=((n/65536:Nat):Int):=by
   show(n:Int).fdiv 65536=_
   rw[Int.fdiv_eq_ediv_of_nonneg _ (by decide)];omega
  have h3:¬(256≤n/65536):=by omega
  have MK:=qn (n:=n/65536) (by omega)
  have UO:IntKind.i64.wrap (0+16)=16:=by decide
  have:=fin (n/65536) 16 (by omega) (by omega)
  rw[show bitsLen (n/65536)+16=bitsLen n from tu (k:=16) h2]at this
  simp -implicitDefEqProofs only[tt,op,ef,cl,sq,reduceIte,q8,q9,j3,j4,j5,j6,j7,j8,j9,S1,h1,h2,UN,h3,MK,UO,aa]
  refine uR (K:=lI env _ _ _ _ _ _ _ _) (by omega) _ fun ch GJ=>?_
  have wc:IntKind.i64.wrap ((ch.toNat:Nat):Int)=((ch.toNat:Nat):Int):=wrap64 (by have:=ch.toNat_lt;omega)
  rw[GJ]at wc
  simp -implicitDefEqProofs only[op,ef,cl,sq,reduceIte,q8,q9,j3,j4,j5,j6,j7,j8,j9,S1,GJ,wc]
  exact congrArg (fun x=>Out.val (.int .i64 x)) this
 by_cases h3:256≤n
 ·have e8:(n:Int).fdiv (2^(min (8:Int).toNat IntKind.u64.bits))=((n/256:Nat):Int):=by
   show(n:Int).fdiv 256=_
   rw[Int.fdiv_eq_ediv_of_nonneg _ (by decide)];omega
  have MK:=qn (n:=n/256) (by omega)
  have UP:IntKind.i64.wrap (0+8)=8:=by decide
  have:=fin (n/256) 8 (by omega) (by omega)
  rw[show bitsLen (n/256)+8=bitsLen n from tu (k:=8) h3]at this
  simp -implicitDefEqProofs only[tt,op,ef,cl,sq,reduceIte,q8,q9,j3,j4,j5,j6,j7,j8,j9,S1,h1,h2,e8,h3,MK,UP,aa]
  refine uR (K:=lI env _ _ _ _ _ _ _ _) (by omega) _ fun ch GJ=>?_
  have wc:IntKind.i64.wrap ((ch.toNat:Nat):Int)=((ch.toNat:Nat):Int):=wrap64 (by have:=ch.toNat_lt;omega)
  rw[GJ]at wc
  simp -implicitDefEqProofs only[op,ef,cl,sq,reduceIte,q8,q9,j3,j4,j5,j6,j7,j8,j9,S1,GJ,wc]
  exact congrArg (fun x=>Out.val (.int .i64 x)) this
 ·have MK:=qn (n:=n) (by omega)
  have:=fin n 0 (by omega) (by omega)
  simp -implicitDefEqProofs only[tt,op,ef,cl,sq,reduceIte,q8,q9,j3,j4,j5,j6,j7,j8,j9,S1,h1,h2,h3,MK,aa]
  refine uR (K:=lI env _ _ _ _ _ _ _ _) (by omega) _ fun ch GJ=>?_
  have wc:IntKind.i64.wrap ((ch.toNat:Nat):Int)=((ch.toNat:Nat):Int):=wrap64 (by have:=ch.toNat_lt;omega)
  rw[GJ]at wc
  simp -implicitDefEqProofs only[op,ef,cl,sq,reduceIte,q8,q9,j3,j4,j5,j6,j7,j8,j9,S1,GJ,wc]
  exact congrArg (fun x=>Out.val (.int .i64 x)) this
theorem B4 (n:Nat)(hn:n<16777216)(H:ae):W env (.call 107 [.int .u64 n]) H (fun o H'=>o=.val (.int .i64 (bitsLen n))∧H'=H):=by
 refine W.cQ rfl rfl rfl ?_
 simp -implicitDefEqProofs only[Bp,op,ef,cl,sq,reduceIte,q8,q9,j3,j4,j5,j6,j7,j8,j9,S1]
 refine af _ _ _ _ _ _ _ _ (MJ n hn _) ?_
 rintro u H1⟨hu,rfl⟩
 cases hu
 simp -implicitDefEqProofs only[op,ef,cl,sq,reduceIte,q8,q9,j3,j4,j5,j6,j7,j8,j9,S1]
theorem B5 (n:Nat)(hn:n<16777216)(H:ae):W env (.call 176 [.int .i64 n]) H (fun o H'=>o=.val (.int .u64 ((1 <<< bitsLen n:Nat):Int))∧H'=H):=by
 refine W.cQ rfl rfl rfl ?_
 have wu:=mY (n:=n) (by omega)
 simp -implicitDefEqProofs only[BI,op,ef,cl,sq,reduceIte,q8,q9,j3,j4,j5,j6,j7,j8,j9,S1,wu]
 refine af _ _ _ _ _ _ _ _ (B4 n hn _) ?_
 rintro u H1⟨hu,rfl⟩
 cases hu
 have hb:=ny (n:=n) (k:=24) hn
 have n0:¬(((bitsLen n:Nat):Int)<0):=by omega
 have e:IntKind.u64.wrap (1*2^(min ((bitsLen n:Nat):Int).toNat IntKind.u64.bits))=((1 <<< bitsLen n:Nat):Int):=by
  rw[Int.toNat_natCast,Nat.min_eq_left (by show bitsLen n≤64;omega),Nat.one_shiftLeft,Int.one_mul]
  have:(2:Nat)^bitsLen n≤2^24:=Nat.pow_le_pow_right (by decide) hb
  have h2:((2:Int)^bitsLen n)=((2^bitsLen n:Nat):Int):=by simp
  rw[h2]
  exact mY (by omega)
 simp -implicitDefEqProofs only[op,ef,cl,sq,reduceIte,q8,q9,j3,j4,j5,j6,j7,j8,j9,S1,n0,e]
set_option maxHeartbeats 8000000
open Go.Sort (bitsLen)
theorem GK (x:Int):IntKind.u64.wrap x=x%18446744073709551616:=by
 unfold IntKind.wrap
 simp -implicitDefEqProofs only[IntKind.signed,IntKind.bits]
 simp
theorem EW (r:UInt64):IntKind.u64.wrap ((r.toNat:Int)*2^(min (13:Int).toNat IntKind.u64.bits))=((r <<< 13).toNat:Int):=by
 rw[GK,UInt64.toNat_shiftLeft,Nat.shiftLeft_eq]
 show(r.toNat:Int)*8192%_=((r.toNat*8192%18446744073709551616:Nat):Int)
 omega
theorem EX (r:UInt64):IntKind.u64.wrap ((r.toNat:Int)*2^(min (17:Int).toNat IntKind.u64.bits))=((r <<< 17).toNat:Int):=by
 rw[GK,UInt64.toNat_shiftLeft,Nat.shiftLeft_eq]
 show(r.toNat:Int)*131072%_=((r.toNat*131072%18446744073709551616:Nat):Int)
 omega
theorem IH (r:UInt64):(r.toNat:Int).fdiv (2^(min (7:Int).toNat IntKind.u64.bits))=((r >>> 7).toNat:Int):=by
 rw[UInt64.toNat_shiftRight,Nat.shiftRight_eq_div_pow]
 show(r.toNat:Int).fdiv 128=((r.toNat/128:Nat):Int)
 rw[Int.fdiv_eq_ediv_of_nonneg _ (by decide)];omega
theorem ML (r:UInt64):BitVec.ofInt IntKind.u64.bits (r.toNat:Int)=r.toBitVec:=by
 apply BitVec.eq_of_toNat_eq
 rw[BitVec.toNat_ofInt]
 have:=r.toNat_lt
 show((r.toNat:Int)%18446744073709551616).toNat=r.toNat
 omega
theorem MM (r s:UInt64):IntKind.u64.wrap ((BitVec.ofInt IntKind.u64.bits (r.toNat:Int) ^^^ BitVec.ofInt IntKind.u64.bits (s.toNat:Int)).toNat:Int)=((r ^^^ s).toNat:Int):=by
 refine Eq.trans ?_ (mY (r ^^^ s).toNat_lt)
 rw[ML,ML]
 rfl
theorem wH (r:UInt64)(k:Nat)(hk:k<18446744073709551616):IntKind.u64.wrap ((BitVec.ofInt IntKind.u64.bits (r.toNat:Int) &&& BitVec.ofInt IntKind.u64.bits (k:Int)).toNat:Int)=((r.toNat &&& k:Nat):Int):=by
 have h:(BitVec.ofInt IntKind.u64.bits (r.toNat:Int) &&& BitVec.ofInt IntKind.u64.bits (k:Int)).toNat=r.toNat &&& k:=by
  rw[BitVec.toNat_and,BitVec.toNat_ofInt,BitVec.toNat_ofInt]
  have:=r.toNat_lt
  have e1:((r.toNat:Int)%((2^IntKind.u64.bits:Nat):Int)).toNat=r.toNat:=by
   show((r.toNat:Int)%18446744073709551616).toNat=r.toNat
   omega
  have e2:((k:Int)%((2^IntKind.u64.bits:Nat):Int)).toNat=k:=by
   show((k:Int)%18446744073709551616).toNat=k
   omega
  rw[e1,e2]
 rw[h]
 exact mY (Nat.lt_of_le_of_lt Nat.and_le_right hk)
theorem GL (p:Nat)(r:UInt64)(H:ae)(hp:H[p]?=some (.cells [.int .u64 r.toNat])) :
  W env (.call 177 [.ptr p 0]) H (fun o H'=>o=.val (.int .u64 (Go.Sort.xorNext r).toNat)∧H'[p]?=some (.cells [.int .u64 (Go.Sort.xorNext r).toNat])∧bX (fun x=>x=p) H H'):=by
 refine W.cQ rfl rfl rfl ?_
 have lp:=bo hp
 have UQ:¬((13:Int)<0):=by decide
 have n7:¬((7:Int)<0):=by decide
 have UR:¬((17:Int)<0):=by decide
 simp -implicitDefEqProofs only[EW,EX,IH,MM,BJ,op,ef,cl,sq,reduceIte,q8,q9,j3,j4,j5,j6,j7,j8,j9,S1,hp,lp,S2,UQ,n7,UR]
 exact⟨rfl,rfl,(((bX.refl (fun x=>x=p) _).set (.inl rfl) _).set (.inl rfl) _).set (.inl rfl) _⟩
theorem tz {n:Nat}(h:n≠0):1 <<< bitsLen n≤2*n:=by
 rw[Nat.one_shiftLeft,bitsLen,if_neg h,Nat.pow_succ]
 have:=Nat.log2_self_le h
 omega
theorem NU {a:Nat}(h:1≤a∧a<18446744073709551616):IntKind.u64.wrap ((a:Int)-1)=((a-1:Nat):Int):=by rw[eE (by omega)];omega
theorem wN {a:Nat}(h:a<9223372036854775808):IntKind.i64.wrap (a:Int)=(a:Int):=wrap64 (by omega)
end Go.Proofs.YtmgldhlcapjdkaaGreat.St
end

section
namespace Go.Proofs.YtmgldhlcapjdkaaGreat.St
open Go.Rmp Go.Proofs.YtmgldhlcapjdkaaGreat.Ir
set_option maxRecDepth 10000
set_option maxHeartbeats 8000000
def cr:C→Nat→Option C
 | .block id a,n=>if id=n then some a else cr a n
 | .seq a b,n=>match cr a n with|some c=>some c | .none=>cr b n
 | .cond _ a b,n=>match cr a n with|some c=>some c | .none=>cr b n
 | .loop a,n=>cr a n
 | _,_=>.none
def dc:C→Nat→C
 | .seq a _,0=>a
 | .seq _ b,k+1=>dc b k
 | c,_=>c
set_option maxHeartbeats 8000000
def B6:C→Nat→C
 | c,0=>c
 | .seq _ b,k+1=>B6 b k
 | c,_=>c
theorem NV {a:Nat}(h:a<9223372036854775808):IntKind.i64.wrap ((a:Int).tdiv 8)=((a/8:Nat):Int):=by rw[Int.tdiv_eq_ediv_of_nonneg (by omega),wrap64 (by omega)];omega
end Go.Proofs.YtmgldhlcapjdkaaGreat.St
end

section
namespace Go.Proofs.YtmgldhlcapjdkaaGreat.St
open Go.Rmp Go.Proofs.YtmgldhlcapjdkaaGreat.Ir
set_option maxRecDepth 10000
def tA:ByteArray:=⟨#[97]⟩
def tB:ByteArray:=⟨#[98]⟩
def tX:ByteArray:=⟨#[120]⟩
def tY:ByteArray:=⟨#[121]⟩
def tZ:ByteArray:=⟨#[122]⟩
abbrev l1:List (ByteArray×ByteArray):=[(tA,tX),(tB,tY)]
abbrev l2:List (ByteArray×ByteArray):=[(tA,tZ)]
end Go.Proofs.YtmgldhlcapjdkaaGreat.St
end

section
namespace Go.Proofs.YtmgldhlcapjdkaaGreat.St
open Go.Rmp Go.Proofs.YtmgldhlcapjdkaaGreat.Ir
set_option maxRecDepth 10000
def B7 (c:Nat)(d':Array ByteArray)(H:ae):Out→ae→Prop:=fun o H'=>o=.val (.bC [])∧H'[c]?=some (.cells (aK eS d'.toList))∧bX (fun x=>x=c) H H'
theorem dR {Hx:ae}{c:Nat}(d:Array ByteArray){i j:Nat}(hi:i<d.size)(hj:j<d.size) :
  ou Hx c [.str d[j]!] (i*1) (some (.cells (aK eS d.toList)))=some (Hx.set c (.cells (aK eS (d.toList.set i d[j]!)))) ∧
  ∀Hy,ou Hy c [.str d[i]!] (j*1) (some (.cells (aK eS (d.toList.set i d[j]!))))=some (Hy.set c (.cells (aK eS (Go.Sort.swp d i j).toList))):=by
 have g1:=fx (enc:=eS) (n:=1) (y:=d[j]!) (fun _=>rfl) (gB hi) Hx c (eS d[j]!) 0 (by simp[eS]) (by simp[eS])
 obtain⟨z,hz⟩:=dQ (l:=d.toList.set i d[j]!) (i:=j) (by simpa using hj)
 have g2:=fun Hy=>fx (enc:=eS) (n:=1) (y:=d[i]!) (fun _=>rfl) hz Hy c (eS d[i]!) 0 (by simp[eS]) (by simp[eS])
 refine⟨by simpa[eS]using g1,fun Hy=>?_⟩
 rw[oJ]
 simpa[eS]using g2 Hy
theorem gJ {d:Array ByteArray}{i:Nat}(h:i<d.size):jT 1 (i*1) (some (.cells (aK eS d.toList)))=some [.str d[i]!]:=by
 have:=cD (enc:=eS) (n:=1) (fun _=>rfl) (gB h) 0 1 (by decide)
 simpa[eS]using this
open Go.Sort in
theorem wI (c:Nat)(d:Array ByteArray)(a b:Nat)(H:ae)(hc:H[c]?=some (.cells (aK eS d.toList)))(hb:b≤d.size)(ga:a≤b)(hs:d.size<4611686018427387903) :
  W env (.call 198 [.aB c 0 d.size 1,.int .i64 a,.int .i64 b]) H (B7 c (insertionSort strLt d a b) H):=by
 refine W.cQ rfl rfl rfl ?_
 have wa:=aJ (show a<9223372036854775807 by omega)
 simp -implicitDefEqProofs only[BO,op,ef,cl,sq,reduceIte,q8,q9,j3,j4,j5,j6,j7,j8,j9,S1,wa]
 refine W.fg (fun (i:Nat) R H'=>At H' (fun H'=>∃di:Array ByteArray,H'[c]?=some (.cells (aK eS di.toList))∧di.size=d.size∧insOuter strLt a b i di=insertionSort strLt d a b∧bX (fun x=>x=c) H H')∧R 0=.aB c 0 d.size 1∧R 1=.int .i64 a∧R 2=.int .i64 b∧R 6=.int .i64 i∧a+1≤i) (fun i=>b-i) (a+1) ⟨.i ⟨d,hc,rfl,rfl,bX.refl _ _⟩,rfl,rfl,rfl,rfl,Nat.le_refl _⟩ ?_
 rintro i R H1⟨⟨di,hd,aQ,oK,ay⟩,h0,h1,h2,h6,Sr⟩
 by_cases aE:i<b
 ·have wi:=aJ (show i<9223372036854775807 by omega)
  simp -implicitDefEqProofs only[op,ef,cl,sq,reduceIte,q8,q9,j3,j4,j5,j6,j7,j8,j9,S1,h0,h1,h2,h6,aE]
  refine W.bU 2 (fun (j:Nat) R H'=>At H' (fun H'=>∃dj:Array ByteArray,H'[c]?=some (.cells (aK eS dj.toList))∧dj.size=d.size∧insInner strLt a j dj=insInner strLt a i di∧bX (fun x=>x=c) H H')∧R 0=.aB c 0 d.size 1∧R 1=.int .i64 a∧R 2=.int .i64 b∧R 6=.int .i64 i∧R 7=.int .i64 j∧j≤i) (fun j=>j) i
   (fun R H'=>At H' (fun H'=>∃dj:Array ByteArray,H'[c]?=some (.cells (aK eS dj.toList))∧dj.size=d.size∧dj=insInner strLt a i di∧bX (fun x=>x=c) H H')∧R 0=.aB c 0 d.size 1∧R 1=.int .i64 a∧R 2=.int .i64 b∧R 6=.int .i64 i) ?_ ?_ ?_
  ·refine⟨.i ⟨di,hd,aQ,rfl,ay⟩,?_,?_,?_,?_,?_,Nat.le_refl _⟩
   all_goals (simp -implicitDefEqProofs only[op,ef,cl,sq,reduceIte,q8,q9,j3,j4,j5,j6,j7,j8,j9,S1,h0,h1,h2,h6])
  ·rintro j R H2⟨⟨dj,bm,jw,jx,fT⟩,q0,q1,q2,q6,q7,yd⟩
   by_cases B8:a<j
   ·obtain⟨j',rfl⟩:∃j',j=j'+1:=⟨j-1,by omega⟩
    have wp:IntKind.i64.wrap (((j'+1:Nat):Int)-1)=(j':Int):=by rw[wrap64 (by omega)];omega
    have j1:j'+1<d.size:=by omega
    have j0:j'<d.size:=by omega
    have i1:eW 1 (j'+1) (.aB c 0 d.size 1)=some (.ptr c ((j'+1)*1)):=by rw[fh];simp[j1]
    have i0:eW 1 j' (.aB c 0 d.size 1)=some (.ptr c (j'*1)):=by rw[fh];simp[j0]
    have v1:=gJ (d:=dj) (i:=j'+1) (by omega)
    have v0:=gJ (d:=dj) (i:=j') (by omega)
    simp -implicitDefEqProofs only[op,ef,cl,sq,reduceIte,q8,q9,j3,j4,j5,j6,j7,j8,j9,S1,q0,q1,q2,q6,q7,B8,aa,i1,i0,wp,bm,v1,v0]
    refine af _ _ _ _ _ _ _ _ (aX dj[j'+1]! dj[j']! _) ?_
    rintro u H3⟨hu,rfl⟩
    cases hu
    have jN:=bm
    obtain⟨s1,s2⟩:=dR (Hx:=H3) (c:=c) dj (i:=j'+1) (j:=j') (by omega) (by omega)
    cases jC:strLt dj[j'+1]! dj[j']! with
    | true =>
     simp -implicitDefEqProofs only[op,ef,cl,sq,reduceIte,q8,q9,j3,j4,j5,j6,j7,j8,j9,S1,q0,q1,q2,q6,q7,aa,i1,i0,wp,jN,v1,v0,s1,S2,s2,bo jN]
     exact⟨j',by omega,.i ⟨swp dj (j'+1) j',gh (by rw[List.length_set];exact bo jN),by rw[swp_size];exact jw,by rw[←jx];conv=>{ rhs;rw[insInner,if_pos (by simp -implicitDefEqProofs only[Bool.and_eq_true,decide_eq_true_eq];exact⟨B8,jC⟩)] },(fT.set (.inl rfl) _).set (.inl rfl) _⟩,rfl,by omega⟩
    | false =>
     simp -implicitDefEqProofs only[op,ef,cl,sq,reduceIte,q8,q9,j3,j4,j5,j6,j7,j8,j9,S1,q0,q1,q2,q6,q7]
     exact .i ⟨dj,jN,jw,by rw[←jx,insInner];simp[jC],fT⟩
   ·simp -implicitDefEqProofs only[op,ef,cl,sq,reduceIte,q8,q9,j3,j4,j5,j6,j7,j8,j9,S1,q0,q1,q2,q6,q7,B8]
    refine .i ⟨dj,bm,jw,?_,fT⟩
    rw[←jx]
    cases j with
    | zero=>rfl
    | succ j=>rw[insInner,if_neg (by simp -implicitDefEqProofs only[Bool.and_eq_true,decide_eq_true_eq];omega)]
  ·rintro R H2⟨⟨dj,bm,jw,jx,fT⟩,q0,q1,q2,q6⟩
   simp -implicitDefEqProofs only[op,ef,cl,sq,reduceIte,q8,q9,j3,j4,j5,j6,j7,j8,j9,S1,q0,q1,q2,q6,wi]
   refine⟨i+1,by omega,.i ⟨dj,bm,jw,?_,fT⟩,rfl,by omega⟩
   rw[←oK,jx]
   conv=>rhs;rw[insOuter,if_pos aE]
 ·simp -implicitDefEqProofs only[op,ef,cl,sq,reduceIte,q8,q9,j3,j4,j5,j6,j7,j8,j9,S1,h0,h1,h2,h6,aE]
  rw[insOuter,if_neg aE]at oK
  subst oK
  exact⟨rfl,hd,ay⟩
theorem mH:Go.Sort.SWO strLt where
 irrefl:=uJ
 trans _ _ _ h1 h2:=mC h1 h2
 ntrans x y z h1 h2:=by
  cases h:strLt x z with
  | false=>rfl
  | true =>
   cases h3:strLt y x with
   | true=>rw[mC h3 h]at h2;cases h2
   | false=>have:=z1 h1 h3;subst this;rw[h]at h2;cases h2
end Go.Proofs.YtmgldhlcapjdkaaGreat.St
end

section
namespace Go.Proofs.YtmgldhlcapjdkaaGreat.St.Um
open Go.Rmp Go.Proofs.YtmgldhlcapjdkaaGreat.Ir
set_option maxRecDepth 10000
def aI (a b:Nat):Bool:=decide (a<b)
theorem aX (a b:Nat)(H:ae):W env (.call 145 [.int .u64 a,.int .u64 b]) H (rN (.bool (aI a b)) H):=B1 a b H
theorem lO:Go.Sort.SWO aI where
 irrefl a:=by simp[aI]
 trans a b c h1 h2:=by simp[aI]at *;omega
 ntrans x y z h1 h2:=by simp[aI]at *;omega
def B7 (c:Nat)(d':Array Nat)(H:ae):Out→ae→Prop:=fun o H'=>o=.val (.bC [])∧H'[c]?=some (.cells (aK eU d'.toList))∧bX (fun x=>x=c) H H'
theorem dR {Hx:ae}{c:Nat}(d:Array Nat){i j:Nat}(hi:i<d.size)(hj:j<d.size) :
  ou Hx c [.int .u64 (d[j]!:Nat)] (i*1) (some (.cells (aK eU d.toList)))=some (Hx.set c (.cells (aK eU (d.toList.set i d[j]!)))) ∧
  ∀Hy,ou Hy c [.int .u64 (d[i]!:Nat)] (j*1) (some (.cells (aK eU (d.toList.set i d[j]!))))=some (Hy.set c (.cells (aK eU (Go.Sort.swp d i j).toList))):=by
 have g1:=fx (enc:=eU) (n:=1) (y:=d[j]!) (fun _=>rfl) (gB hi) Hx c (eU d[j]!) 0 (by simp[eU]) (by simp[eU])
 obtain⟨z,hz⟩:=dQ (l:=d.toList.set i d[j]!) (i:=j) (by simpa using hj)
 have g2:=fun Hy=>fx (enc:=eU) (n:=1) (y:=d[i]!) (fun _=>rfl) hz Hy c (eU d[i]!) 0 (by simp[eU]) (by simp[eU])
 refine⟨by simpa[eU]using g1,fun Hy=>?_⟩
 rw[oJ]
 simpa[eU]using g2 Hy
theorem gJ {d:Array Nat}{i:Nat}(h:i<d.size):jT 1 (i*1) (some (.cells (aK eU d.toList)))=some [.int .u64 (d[i]!:Nat)]:=by
 have:=cD (enc:=eU) (n:=1) (fun _=>rfl) (gB h) 0 1 (by decide)
 simpa[eU]using this
open Go.Sort in
theorem wI (c:Nat)(d:Array Nat)(a b:Nat)(H:ae)(hc:H[c]?=some (.cells (aK eU d.toList)))(hb:b≤d.size)(ga:a≤b)(hs:d.size<4611686018427387903) :
  W env (.call 139 [.aB c 0 d.size 1,.int .i64 a,.int .i64 b]) H (B7 c (insertionSort aI d a b) H):=by
 refine W.cQ rfl rfl rfl ?_
 have wa:=aJ (show a<9223372036854775807 by omega)
 simp -implicitDefEqProofs only[wE,op,ef,cl,sq,reduceIte,q8,q9,j3,j4,j5,j6,j7,j8,j9,S1,wa]
 refine W.fg (fun (i:Nat) R H'=>At H' (fun H'=>∃di:Array Nat,H'[c]?=some (.cells (aK eU di.toList))∧di.size=d.size∧insOuter aI a b i di=insertionSort aI d a b∧bX (fun x=>x=c) H H')∧R 0=.aB c 0 d.size 1∧R 1=.int .i64 a∧R 2=.int .i64 b∧R 6=.int .i64 i∧a+1≤i) (fun i=>b-i) (a+1) ⟨.i ⟨d,hc,rfl,rfl,bX.refl _ _⟩,rfl,rfl,rfl,rfl,Nat.le_refl _⟩ ?_
 rintro i R H1⟨⟨di,hd,aQ,oK,ay⟩,h0,h1,h2,h6,Sr⟩
 by_cases aE:i<b
 ·have wi:=aJ (show i<9223372036854775807 by omega)
  simp -implicitDefEqProofs only[op,ef,cl,sq,reduceIte,q8,q9,j3,j4,j5,j6,j7,j8,j9,S1,h0,h1,h2,h6,aE]
  refine W.bU 2 (fun (j:Nat) R H'=>At H' (fun H'=>∃dj:Array Nat,H'[c]?=some (.cells (aK eU dj.toList))∧dj.size=d.size∧insInner aI a j dj=insInner aI a i di∧bX (fun x=>x=c) H H')∧R 0=.aB c 0 d.size 1∧R 1=.int .i64 a∧R 2=.int .i64 b∧R 6=.int .i64 i∧R 7=.int .i64 j∧j≤i) (fun j=>j) i
   (fun R H'=>At H' (fun H'=>∃dj:Array Nat,H'[c]?=some (.cells (aK eU dj.toList))∧dj.size=d.size∧dj=insInner aI a i di∧bX (fun x=>x=c) H H')∧R 0=.aB c 0 d.size 1∧R 1=.int .i64 a∧R 2=.int .i64 b∧R 6=.int .i64 i) ?_ ?_ ?_
  ·refine⟨.i ⟨di,hd,aQ,rfl,ay⟩,?_,?_,?_,?_,?_,Nat.le_refl _⟩
   all_goals (simp -implicitDefEqProofs only[op,ef,cl,sq,reduceIte,q8,q9,j3,j4,j5,j6,j7,j8,j9,S1,h0,h1,h2,h6])
  ·rintro j R H2⟨⟨dj,bm,jw,jx,fT⟩,q0,q1,q2,q6,q7,yd⟩
   by_cases B8:a<j
   ·obtain⟨j',rfl⟩:∃j',j=j'+1:=⟨j-1,by omega⟩
    have wp:IntKind.i64.wrap (((j'+1:Nat):Int)-1)=(j':Int):=by rw[wrap64 (by omega)];omega
    have j1:j'+1<d.size:=by omega
    have j0:j'<d.size:=by omega
    have i1:eW 1 (j'+1) (.aB c 0 d.size 1)=some (.ptr c ((j'+1)*1)):=by rw[fh];simp[j1]
    have i0:eW 1 j' (.aB c 0 d.size 1)=some (.ptr c (j'*1)):=by rw[fh];simp[j0]
    have v1:=gJ (d:=dj) (i:=j'+1) (by omega)
    have v0:=gJ (d:=dj) (i:=j') (by omega)
    simp -implicitDefEqProofs only[op,ef,cl,sq,reduceIte,q8,q9,j3,j4,j5,j6,j7,j8,j9,S1,q0,q1,q2,q6,q7,B8,aa,i1,i0,wp,bm,v1,v0]
    refine af _ _ _ _ _ _ _ _ (aX dj[j'+1]! dj[j']! _) ?_
    rintro u H3⟨hu,rfl⟩
    cases hu
    have jN:=bm
    obtain⟨s1,s2⟩:=dR (Hx:=H3) (c:=c) dj (i:=j'+1) (j:=j') (by omega) (by omega)
    cases jC:aI dj[j'+1]! dj[j']! with
    | true =>
     simp -implicitDefEqProofs only[op,ef,cl,sq,reduceIte,q8,q9,j3,j4,j5,j6,j7,j8,j9,S1,q0,q1,q2,q6,q7,aa,i1,i0,wp,jN,v1,v0,s1,S2,s2,bo jN]
     exact⟨j',by omega,.i ⟨swp dj (j'+1) j',gh (by rw[List.length_set];exact bo jN),by rw[swp_size];exact jw,by rw[←jx];conv=>{ rhs;rw[insInner,if_pos (by simp -implicitDefEqProofs only[Bool.and_eq_true,decide_eq_true_eq];exact⟨B8,jC⟩)] },(fT.set (.inl rfl) _).set (.inl rfl) _⟩,rfl,by omega⟩
    | false =>
     simp -implicitDefEqProofs only[op,ef,cl,sq,reduceIte,q8,q9,j3,j4,j5,j6,j7,j8,j9,S1,q0,q1,q2,q6,q7]
     exact .i ⟨dj,jN,jw,by rw[←jx,insInner];simp[jC],fT⟩
   ·simp -implicitDefEqProofs only[op,ef,cl,sq,reduceIte,q8,q9,j3,j4,j5,j6,j7,j8,j9,S1,q0,q1,q2,q6,q7,B8]
    refine .i ⟨dj,bm,jw,?_,fT⟩
    rw[←jx]
    cases j with
    | zero=>rfl
    | succ j=>rw[insInner,if_neg (by simp -implicitDefEqProofs only[Bool.and_eq_true,decide_eq_true_eq];omega)]
  ·rintro R H2⟨⟨dj,bm,jw,jx,fT⟩,q0,q1,q2,q6⟩
   simp -implicitDefEqProofs only[op,ef,cl,sq,reduceIte,q8,q9,j3,j4,j5,j6,j7,j8,j9,S1,q0,q1,q2,q6,wi]
   refine⟨i+1,by omega,.i ⟨dj,bm,jw,?_,fT⟩,rfl,by omega⟩
   rw[←oK,jx]
   conv=>rhs;rw[insOuter,if_pos aE]
 ·simp -implicitDefEqProofs only[op,ef,cl,sq,reduceIte,q8,q9,j3,j4,j5,j6,j7,j8,j9,S1,h0,h1,h2,h6,aE]
  rw[insOuter,if_neg aE]at oK
  subst oK
  exact⟨rfl,hd,ay⟩
end Go.Proofs.YtmgldhlcapjdkaaGreat.St.Um
end

section
namespace Go.Proofs.YtmgldhlcapjdkaaGreat.St
open Go.Rmp Go.Proofs.YtmgldhlcapjdkaaGreat.Ir
set_option maxRecDepth 10000
def B9 (N:Nat):Prop:=∀(c:Nat) (l:List Nat) (H:ae),H[c]?=some (.cells (aK eU l))→l.length≤N→W env (.call 56 [.aB c 0 l.length 1]) H (fun o H'=>o=.val (.bC [])∧∃l',H'[c]?=some (.cells (aK eU l'))∧l'.Perm l∧l'.Pairwise (·≤·)∧bX (fun x=>x=c) H H')
theorem II {α:Type}[Inhabited α]{lt:α→α→Bool}{d e:Array α}(hs:e.size=d.size)(hp:(e.extract 0 d.size).toList.Perm (d.extract 0 d.size).toList)(Ca:∀i j,0≤i→i<j→j<d.size→lt e[j]! e[i]! = false) :
  e.toList.Perm d.toList∧∀(i j:Nat) a b,i<j→e.toList[i]?=some a→e.toList[j]?=some b→lt b a=false:=by
 have e1:e.extract 0 d.size=e:=by
  conv=>lhs;arg 3;rw[←hs]
  simp
 have MN:e.toList.Perm d.toList:=by
  rw[e1]at hp
  simpa using hp
 refine⟨MN,fun i j a b GM ha hb=>?_⟩
 have hi:=(List.getElem?_eq_some_iff.1 ha).1
 have hj:=(List.getElem?_eq_some_iff.1 hb).1
 have h1:=Ca i j (Nat.zero_le _) GM (by rw[←hs];simpa using hj)
 have gi:=gB (d:=e) (i:=i) (by simpa using hi)
 have gj:=gB (d:=e) (i:=j) (by simpa using hj)
 rw[ha]at gi;rw[hb]at gj
 cases gi;cases gj
 exact h1
theorem MO {l:List Nat}{lt:Nat→Nat→Bool}(aE:∀a b,lt a b=decide (a<b))(h:∀(i j:Nat) a b,i<j→l[i]?=some a→l[j]?=some b→lt b a=false):l.Pairwise (·≤·):=by
 rw[List.pairwise_iff_getElem]
 intro i j hi hj GM
 have:=h i j _ _ GM (List.getElem?_eq_getElem hi) (List.getElem?_eq_getElem hj)
 rw[aE,decide_eq_false_iff_not]at this
 omega
end Go.Proofs.YtmgldhlcapjdkaaGreat.St
end
